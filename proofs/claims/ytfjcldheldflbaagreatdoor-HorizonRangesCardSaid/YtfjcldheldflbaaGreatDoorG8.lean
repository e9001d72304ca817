/- Laws that the proofs of this seat share, part 8. -/
import Derived.Test.YtfjcldheldflbaaGreatDoorG7
import Derived.Test.YtfjcldheldflbaaGreatDoorShelf
import Derived.RangeFuncBox
import Derived.RangeFuncLeaves
import Derived.Shelf.Abstract
import Derived.WalkKit
import Derived.OwnWalkIn
import Derived.TacticsInMore
import Derived.LoopNIn
import Derived.LoopIn
import Derived.Stop.RegionWithIn
import Derived.Test.YtfjcldheldflbaaGreatDoorProg
set_option maxHeartbeats 4000000
namespace Go.Proofs.YtfjcldheldflbaaGreatDoor
open Go.Proofs.Tryz
open Go Go.Jog
set_option maxRecDepth 100000
variable {C:Mem}{cyc:List Nat}{i k n:Nat}{q:Rat}{s:Str}
theorem AV (q:Rat):q.num<0 ↔ q<0:=by
 rw [Rat.lt_iff];simp
theorem vZ {z:Int}(h:(bj z.natAbs).length<=200):cH (txt z)=true:=by
 refine rE.2 ?_;rw [dI];refine ⟨yx.2 ⟨(bx _).1,h⟩,fun a=>?_⟩;have h1:=aY a;show 0<bY (bj z.natAbs);rw [(bx _).2];omega
theorem BK (z:Int):iy (txt z)=z:=by
 unfold iy;rw [dI];show sgZ (decide (z<0)) (bY (bj z.natAbs))=z;rw [(bx _).2];unfold sgZ;by_cases h:z<0
 ·rw [P0 h,aK rfl];omega
 rw [Qc h,aG dc_];omega
theorem bB (h:QB 22 q):aS (qtx q)=true:=by
 have h1:(bj q.num.natAbs).length<=200:=by have:=ci h.1 dc_;omega
 have h2:(bj q.den).length<=200:=by have:=ci h.2 dc_;omega
 unfold aS;rw [nV];show (cH (txt q.num) && cH ((nD q.den).getD [49]) && oV (iy (txt q.num)) (nD q.den))=true;rw [GU,BK,vZ h1,<- de,vZ (by rw [Qs];exact h2),SN,SN];by_cases a:q.den=1
 ·rw [lX a];rfl
 rw [eY a];unfold oV;show (decide (1<iy (bj q.den)) && !(q.num == 0) && (Nat.gcd q.num.natAbs (iy (bj q.den)).natAbs == 1))=true;have b:iy (bj q.den)=((q.den:Nat):Int):=by rw [<- de,BK]
 have d:=gR q;rw [b,P0 om_,Qs,show Nat.gcd q.num.natAbs q.den=1 from q.reduced];have c:q.num≠0:=by
  intro e;have h3:=q.reduced;rw [e] at h3;have h4:Nat.gcd 0 q.den=1:=h3;rw [Nat.gcd_zero_left] at h4;exact a h4
 simp [c]
theorem xr (h:QB 22 q):nX (aS (qtx q))=0:=by rw [bB h];rfl
abbrev Pt:=Rat × Rat
def gi (p:Pt):List Value:=[af (qtx p.1),af (qtx p.2)]
def ptV (p:Pt):Value:=.agg ⟨gi p⟩
def QP (k:Nat)(p:Pt):Prop:=QB k p.1/\QB k p.2
def cK (a b c:Pt):Rat:=(b.1-a.1)*(c.2-a.2)-(b.2-a.2)*(c.1-a.1)
theorem eZ (b:Bool):nX b=0/\b=true∨nX b=2/\b=false:=by cases b <;> simp [nX]
def kc (s:Str):List Value:=[af s]
theorem rM (C:Mem)(h:Tabs C)(v:Value)(l:List Str)(c:Sl C 1 v (l.map kc))(j:∀ s∈l,s.length<=999998):Gives cx.P 132 [v] C (.int .i64 (nX (l.all aS))):=by
 obtain ⟨k,c0,rfl,n,w,_⟩:=id c;have x:maxLen<=9223372036854775807:=by simp [maxLen]
 simp only [al] at c n ⊢;refine Tr func132 18 U3 fun w0=>Th 1 [0] Z<|Th 3 [6,7,8] Z<|G.loop (fun fr y o p=>∃ (i:Nat),(i<=l.length/\(l.take i).all aS=true)/\fr=[(6,[],.slice k l.length c0),(7,[],.int .i64 l.length),(8,[],.int .i64 i)]/\o=[]/\p=l.length-i) (hn_ [6,7,8] Z) ⟨0,⟨PL _,by simp⟩,Z,Z,Z⟩ (fun fr z A m q r=>?_);obtain ⟨i,⟨B,d⟩,rfl,rfl,rfl⟩:=r;refine Th 1 [6,7,8,9] Z<|G.cd (fun e=>?_) fun e=>?_
 ·have f:i<l.length:=by simpa using e
  obtain ⟨s,hs⟩:∃ s,l[i]?=some s:=⟨l[i],aj f⟩;refine Tl fun R a=>Ty c.m_ U10 om_ (by rw [PH,hs];rfl:(l.map kc)[i]?=some (kc s)) fl_ fun D t=>Tj t U8<|C6 1 [4,6,7,8] a Z<|Ti 1 Z fun R a=>Tt (dD _ h.m_ s (j s (O0 hs))) U7<|C6 1 [5,6,7,8] a Z<|Th 2 [5,6,7,8,15] Z<|G.cd (fun b=>?_) fun b=>?_
  ·have g:aS s=false:=by
    rcases eZ (aS s) with ⟨h1,h2⟩ | ⟨h1,h2⟩
    ·rw [h1] at b;exact absurd b dc_
    exact h2
   refine Th 2 [2] Z<|Tp U2<|⟨?_,Z⟩;rw [g,show l.all aS=false from Sa.2 ⟨s,O0 hs,by rw [g];decide⟩]
  have u:aS s=true:=by
   rcases eZ (aS s) with ⟨h1,h2⟩ | ⟨h1,h2⟩
   ·exact h2
   rw [h1] at b;exact absurd b dc_
  refine Tl fun R a=>Tq _ Z U6<|C6 1 [6,7,8] a Z<|Tv (m':=l.length-(i+1)) om_ q (hn_ [6,7,8] Z) ⟨i+1,⟨by omega,by rw [P6,hs,S7,d];simp [u]⟩,Z,Z,Z⟩
 have f:i=l.length:=by
  have:¬ i<l.length:=by simpa using e
  omega
 refine Th 1 [2] Z<|Tp U2<|⟨?_,Z⟩;rw [f,PT] at d;rw [d];rfl
theorem NF {t:Str}(a:s.length<=n)(b:t.length<=n):∀ x∈[s,t],x.length<=n:=by simp [a,b]
theorem HV {t u:Str}(a:s.length<=n)(b:t.length<=n)(c:u.length<=n):∀ x∈[s,t,u],x.length<=n:=by simp [a,b,c]
theorem fu (C:Mem)(b:Tabs C)(s t:Str)(c:s.length<=999998)(d:t.length<=999998):Gives cx.P 66 [.agg ⟨[af s,af t]⟩] C (.int .i64 (nX (aS s && aS t))):=by
 refine Tr func66 9 U3 fun w0=>Tl fun R a=>TC U6 fun f=>C6 1 [1] a Z<|Ti 1 Z fun R a=>To ag U9<|Tk U6<|To ag U9<|TF [kc s,kc t] U12 fun g _ _ e=>Tt (rM _ b.m_ _ [s,t] e.m_ (NF c d)) U7<|C6 1 [2] a Z<|Tp U2<|⟨?_,Z⟩;simp
theorem rj (C:Mem)(b:Tabs C)(s t u:Str)(c:s.length<=999998)(d:t.length<=999998)(e:u.length<=999998):Gives cx.P 319 [.agg ⟨[af s,af t,af u]⟩] C (.int .i64 (nX (aS s && aS t && aS u))):=by
 refine Tr func319 11 U3 fun w0=>Tl fun R a=>TC U6 fun g=>C6 1 [1] a Z<|Ti 1 Z fun R a=>To ag U9<|Tk U6<|To ag U9<|Tk U6<|To ag U9<|TF [kc s,kc t,kc u] U12 fun h _ _ f=>Tt (rM _ b.m_ _ [s,t,u] f.m_ (HV c d e)) U7<|C6 1 [2] a Z<|Tp U2<|⟨?_,Z⟩;simp [Bool.and_assoc]
theorem kS (C:Mem)(e:Tabs C)(a b c:Pt)(k:Nat)(g:0<k)(l:k<=1000)(d:QP k a)(h:QP k b)(i:QP k c):Gives cx.P 71 [ptV a,ptV b,ptV c] C (af (qtx (cK a b c))):=by
 have h1:=me h.1 d.1;have h2:=me i.2 d.2;have h3:=me h.2 d.2;have h4:=me i.1 d.1;exact Tr func71 32 U3 fun w0=>Tl fun R f=>TC U6 fun m=>TC U6 fun n=>TC U6 fun o=>C6 1 [3,4,5] f Z<|TD [0,1,2,3,4,5,6,7,8,9,10,11] [(4,1),(9,1),(10,1)] Z kr_ fun R j f=>Tk U6<|To ae U9<|Tk U6<|To ac U9<|TG (fun _=>(dZ _ e.m_ b.1 a.1 k g om_ h.1 d.1)) U9<|Tk U6<|To ag U9<|Tk U6<|To ac U9<|TG (fun _=>(dZ _ e.m_ c.2 a.2 k g om_ i.2 d.2)) U9<|TG (fun _=>(di _ e.m_ (b.1-a.1) (c.2-a.2) (k+k+1) om_ om_ h1 h2)) U9<|C6 1 [3,4,5,7] f Z<|TD [0,1,2,3,4,5,6,7,8,9,10,11,12,13] [(5,1),(10,1),(11,1),(12,1)] Z kr_ fun R j f=>Tm 2 Z<|To ae U9<|Tk U6<|To ac U9<|TG (fun _=>(dZ _ e.m_ b.2 a.2 k g om_ h.2 d.2)) U9<|Tk U6<|To ag U9<|Tk U6<|To ac U9<|TG (fun _=>(dZ _ e.m_ c.1 a.1 k g om_ i.1 d.1)) U9<|TG (fun _=>(di _ e.m_ (b.2-a.2) (c.1-a.1) (k+k+1) om_ om_ h3 h4)) U9<|TG (fun _=>(dZ _ e.m_ ((b.1-a.1)*(c.2-a.2)) ((b.2-a.2)*(c.1-a.1)) (k+k+1+(k+k+1)) om_ om_ (qI h1 h2) (qI h3 h4))) U9<|C6 1 [6] f Z<|Tp U2<|⟨Z,Z⟩
theorem zx {a b c:Pt}(d:QP k a)(e:QP k b)(f:QP k c):QB (8*k+5) (cK a b c):=by
 have h:=me (qI (me e.1 d.1) (me f.2 d.2)) (qI (me e.2 d.2) (me f.1 d.1));exact h.le om_
theorem oz (C:Mem)(h:Tabs C)(a b c:Pt)(k:Nat)(i:0<k)(j:k<=1000)(e:QP k a)(f:QP k b)(g:QP k c):Gives cx.P 129 [ptV a,ptV b,ptV c] C (.int .i64 (eN (cK a b c).num)):=by
 exact Tr func129 12 U3 fun w0=>Tl fun R d=>TC U6 fun l=>TC U6 fun m=>TC U6 fun n=>C6 1 [3,4,5] d Z<|Tl fun R d=>To ac U9<|To ae U9<|To ag U9<|Tt (kS _ h.m_ a b c k i j e f g) U7<|Tw (fY _ (cK a b c) (by have:=bi (zx e f g) om_;omega)) U7 fl_<|C6 1 [6] d Z<|Tp U2<|⟨Z,Z⟩
theorem tD (C:Mem)(c:Tabs C)(q:Rat)(b:QB 22 q):Gives cx.P 72 [af (qtx q)] C (.tuple #[af (qtx q),.int .i64 0]):=by
 refine Tr func72 8 U3 fun w0=>Th 2 [0] Z<|Ti 1 Z fun R d=>Tw (dD _ c.m_ _ (by have:=bi b dc_;omega)) U7 fl_<|C6 1 [0,6] d Z<|G.cd (fun a=>?_) fun a=>?_
 ·exfalso;rw [xr b] at a;exact absurd a dc_
 refine Th 3 [2,3] Z<|Tu (G.dropAll (TM U3 ?_));exact ⟨Z,Z⟩
abbrev Tri:=Nat × Nat × Nat
def fU (t:Tri):List Value:=[.int .i64 (t.1:Nat),.int .i64 (t.2.1:Nat),.int .i64 (t.2.2:Nat)]
def MW (a b c:Pt):Value:=.agg ⟨gi a++gi b++gi c⟩
theorem DC (C:Mem)(k l:Value)(d:List Pt)(g:List Tri)(i:Nat)(t:Tri)(a b c:Pt)(e:Sl C 2 k (d.map gi))(h:Sl C 3 l (g.map fU))(m:g[i]?=some t)(n:d[t.1]?=some a)(o:d[t.2.1]?=some b)(p:d[t.2.2]?=some c) :
  Gives cx.P 68 [.agg ⟨[k,l]⟩,.int .i64 i] C (MW a b c):=by
 obtain ⟨x,y,rfl,q,z,_⟩:=id e;obtain ⟨A2,c2,rfl,r,A,_⟩:=id h;have B:maxLen<=9223372036854775807:=by simp [maxLen]
 simp only [al] at e h q r ⊢;have D:=(aJ.1 m).1;have E:=(aJ.1 n).1;have F:=(aJ.1 o).1;have G:=(aJ.1 p).1;refine Tr func68 30 U3 fun w0=>Tl fun R f=>TC U6 fun H=>TB U5 fun I=>Tn [1,2,4] f Z<|Ti 1 Z fun R f=>To ae U9<|Tk U6<|Ty h.m_ U10 om_ (by rw [PH,m];rfl:(g.map fU)[i]?=some (fU t)) fl_ fun J s=>Tj s U8<|TB U5 fun K=>Ts (j:=0) U12<|Tn [2,4,5] f Z<|TD [0,1,2,3,4,5,6,7,8,9,10,11,12,13,14,15,16,17,18,19] [] Z kr_ fun R L f=>Tk U6<|To ac U9<|TE (0) U9 ah U2<|To ag U9<|Ty e.m_ U10 om_ (by rw [PH,n];rfl:(d.map gi)[t.1]?=some (gi a)) fl_ fun M u=>Tj u U8<|Tk U6<|To ac U9<|TE (1) U9 ah U2<|To ag U9<|Ty e.m_ U10 om_ (by rw [PH,o];rfl:(d.map gi)[t.2.1]?=some (gi b)) fl_ fun N v=>Tj v U8<|Tk U6<|To ac U9<|TE (2) U9 ah U2<|To ag U9<|Ty e.m_ U10 om_ (by rw [PH,p];rfl:(d.map gi)[t.2.2]?=some (gi c)) fl_ fun O w=>Tj w U8<|TA (gi a++gi b++gi c) U8<|Ts (j:=1) U12<|Tn [4] f Z<|Tu (Uc ag U4 ?_);exact ⟨Z,Z⟩
theorem Gg (C:Mem)(d:Tabs C)(a b c p:Pt)(k:Nat)(e:0<k)(f:k<=1000)(j:QP k a)(l:QP k b)(m:QP k c)(g:QP k p) :
  Gives cx.P 67 [MW a b c,ptV p] C (.bool (decide (0<=cK a b p) && decide (0<=cK b c p) && decide (0<=cK c a p))):=by
 refine Tr func67 30 U3 fun w0=>Tl fun R i=>TC U6 fun n=>TC U6 fun o=>C6 1 [2,3] i Z<|Tl fun R i=>TE (0) U9 ah U2<|To ae U9<|TE (2) U9 ah U2<|To ae U9<|To ag U9<|Tt (oz _ d.m_ a b p k e f j l g) U7<|Tm 2 Z<|TE (2) U9 ah U2<|To ae U9<|TE (4) U9 ah U2<|To ae U9<|To ag U9<|TU (fun _=>(oz _ d.m_ b c p k e f l m g)) U9<|Tk U6<|TJ U8<|Tk U6<|TE (4) U9 ah U2<|To ae U9<|TE (0) U9 ah U2<|To ae U9<|To ag U9<|TU (fun _=>(oz _ d.m_ c a p k e f m j g)) U9<|Tk U6<|TJ U8<|C6 1 [4] i Z<|Tp U2<|⟨?_,Z⟩;have hs:∀ q:Rat,decide (eN q.num ≥ 0)=decide (0<=q):=fun q=>by
  rw [Qy,<- Rat.num_nonneg];rcases ek q.num with h | h | h <;> omega
 rw [<- hs,<- hs,<- hs]
open Go Go.Jog Go.RowKit Go.Shelf
attribute [local go_sem] Oper.semAt_some
def Lo (zs:Nat->Int)(k:Nat):Value:=.agg #[.int .i64 (zs k),.int .i64 (zs ((k+1) % 3))]
set_option maxRecDepth 100000 in
theorem Ib (l Bs:Nat)(zs:Nat->Int)(J:Nat->World->Prop)
  (hD:∀ k W,J k W->J k W.drew)
  (hJ:∀ k W,J k W->∀ j,j<3->W.cell? ⟨Bs,j,none⟩=some (.int .i64 (zs j)))
  (hY:∀ k W,J k W->k<3->YieldAt Fence.wide 1 Tryz.prog l #[.int .i64 (k:Nat),Lo zs k] W fun e W'=>e=.returned (.bool true)/\J (k+1) W')
  (W:World) (h0:J 0 W) :
  CallsIn Fence.wide 2 Tryz.prog 263 #[.func (.yield l) #[] #[],.pointer (some ⟨Bs,0,none⟩)] W fun e W'=>(∃ v,e=.returned v)/\J 3 W':=by
 refine callsIn_of_wp func263 Z trivial ?_ Z;simp only [Tryz.ntmps263,RC,PW,Qf,Nat.reduceAdd,Nat.reduceSub,S3,S4,List.push_toArray,List.append_toArray,RD,Ro]
 gi_wp2
 gi_loopw [4] (fun i wr=>∃ k:Nat,k<=3/\i=.int .i64 k/\J k wr) (fun i _=>(3-intOf i).toNat)
 case atStart=>exact ⟨0,by omega,rfl,h0⟩
 case round =>
  obtain ⟨k,hk,rfl,hJs⟩:=hrel;by_cases hlt:k<3
  ·have hJd:=hD k wr hJs;have hcd:=hJ k _ hJd;obtain ⟨fn,tmps,assign,body,hy,hR⟩:=hY k _ hJd hlt;rcases (by omega:k=0∨k=1∨k=2) with rfl | rfl | rfl
   ·have hc0:=hcd 0 om_;have hc1:=hcd 1 om_;have hy2:Sem.run Tryz.prog (Instr.yield l #[Value.int .i64 0,Value.agg #[.int .i64 (zs 0),.int .i64 (zs 1)]]) wr.drew=.ok (.round l fn tmps assign body) wr.drew:=hy;clear hy
    gi_wp2
    gi_region_with (refine hR.mono ?_;rintro e W3 ⟨rfl,hJ3⟩)
    all_goals
     gi_wp2
     go_roundw
     case rel=>exact ⟨1,by omega,rfl,hJ3⟩
     case measure=>simp [intOf]
   ·have hc0:=hcd 1 om_;have hc1:=hcd 2 om_;have hy2:Sem.run Tryz.prog (Instr.yield l #[Value.int .i64 1,Value.agg #[.int .i64 (zs 1),.int .i64 (zs 2)]]) wr.drew=.ok (.round l fn tmps assign body) wr.drew:=hy;clear hy
    gi_wp2
    gi_region_with (refine hR.mono ?_;rintro e W3 ⟨rfl,hJ3⟩)
    all_goals
     gi_wp2
     go_roundw
     case rel=>exact ⟨2,by omega,rfl,hJ3⟩
     case measure=>simp [intOf]
   have hc0:=hcd 2 om_;have hc1:=hcd 0 om_;have hy2:Sem.run Tryz.prog (Instr.yield l #[Value.int .i64 2,Value.agg #[.int .i64 (zs 2),.int .i64 (zs 0)]]) wr.drew=.ok (.round l fn tmps assign body) wr.drew:=hy;clear hy
   gi_wp2
   gi_region_with (refine hR.mono ?_;rintro e W3 ⟨rfl,hJ3⟩)
   all_goals
    gi_wp2
    go_roundw
    case rel=>exact ⟨3,by omega,rfl,hJ3⟩
    case measure=>simp [intOf]
  obtain rfl:k=3:=by omega
  gi_wp2
  go_end0
  exact ⟨⟨_,Z⟩,hJs⟩
def DZ (t:Tri)(j:Nat):Int:=if j=0 then (t.1:Nat) else if j=1 then (t.2.1:Nat) else (t.2.2:Nat)
def vO (t:Tri):List (Value × Value):=(List.range 3).map fun k=>(.int .i64 (k:Nat),Lo (DZ t) k)
theorem mC (t:Tri):(vO t).length=3:=rfl
theorem vN {t:Tri}(h:k<3):(vO t)[k]?=some (.int .i64 (k:Nat),Lo (DZ t) k):=by
 simp [vO,h]
theorem CG (C:Mem)(b c:Nat)(t:Tri)(d:C b=some (.cells ⟨fU t⟩ c (0,0))) :
  OY Tryz.prog 263 #[.pointer (some ⟨b,0,none⟩)] C (vO t):=by
 intro l J W e f g h0;refine Ib l b (DZ t) J f (fun k W a j i=>?_) (fun k W a h=>g k _ W a (vN h)) W h0;have h1:=e k W a b _ d;rcases (by omega:j=0∨j=1∨j=2) with rfl | rfl | rfl <;> simp [World.cell?,h1,fU,DZ]
theorem Ic (C:Mem)(t:Tri):Pur cx.P 213 [.agg ⟨fU t⟩] C fun r a=>∃ b,r=.func (.func 263) #[] #[.pointer (some ⟨b,0,none⟩)]/\a b=some (.cells ⟨fU t⟩ 65 (0,0)):=by
 exact Tr func213 4 U3 fun w0=>Tl fun R c=>TC U6 fun e=>C6 1 [1] c Z<|Th 2 [2] Z<|G.freeze 0 Z fun f g d=>Tp U2<|⟨Z,_,Z,d⟩
def nC (t:Tri)(k:Nat):Int × Int:=(DZ t k,DZ t ((k+1) % 3))
abbrev Nn:=List ((Int × Int) × Value)
def D1 (m:Nn)(i:Nat)(t:Tri):Nat->Nn
 | 0=>m
 | k+1=>iw (D1 m i t k) (nC t k) (.int .i64 (i:Nat))
def wq (tris:List Tri):Nat->Nn
 | 0=>[]
 | n+1=>D1 (wq tris n) n (tris.getD n (0,0,0)) 3
noncomputable def kI2:KeyP cx.P 163 (Int × Int):=Pn rfl rfl rfl kr_
theorem wo (C:Mem)(q I:Value)(a:List Tri)(O:a≠[])(x:Sl C 3 I (a.map fU))(Q:∀ i t k,a[i]?=some t->k<3->dR (D1 (wq a i) i t k) (nC t k)=none) :
  Pur cx.P 145 [.agg ⟨[q,I]⟩] C fun u D=>∃ b,u=.tuple #[.map (some b),.bool true]/\D b=some (aV pW (wq a a.length)):=by
 obtain ⟨A2,c2,rfl,S,ad,_⟩:=id x;have af:maxLen<=9223372036854775807:=by simp [maxLen]
 simp only [al] at x S ⊢;refine UM kr_ func145 Z 36 Z Z fun w0=>Tl fun R c=>TC U6 fun r=>TB U5 fun h=>TB U5 fun n=>Tn [1,2,3] c Z<|Tl fun R c=>Vj kI2 Z Z Z Z fl_ fun f=>TB U5 fun o=>Ts (j:=0) U12<|Tn [1,2,3,4] c Z<|Ti 1 Z fun R c=>To (.tail _ aa) U9<|C6 2 [2,3,4,13,14,15] c Z<|G.perm (L':=[.obj o (.cells ⟨[.map (some f)]⟩ 234 (0,0)),.obj f (aV pW []),.obj n (.cells ⟨[.bool false]⟩ 4 (0,0)),.obj h (.cells ⟨[.map none]⟩ 234 (0,0)),.obj r (.cells ⟨[q,.slice A2 a.length c2]⟩ 39 (0,0))]) (PI _)<|V5 (fun dd fr C' d T=>∃ (i:Nat)(g:List Nat),(i<=a.length/\g.length=i)/\dd=g.map JP/\fr=[(2,[],.pointer (some ⟨h,0,none⟩)),(3,[],.pointer (some ⟨n,0,none⟩)),(4,[],.pointer (some ⟨o,0,none⟩)),(13,[],.slice A2 a.length c2),(14,[],.int .i64 a.length),(15,[],.int .i64 i)]/\d=[.obj o (.cells ⟨[.map (some f)]⟩ 234 (0,0)),.obj f (aV pW (wq a i)),.obj n (.cells ⟨[.bool false]⟩ 4 (0,0)),.obj h (.cells ⟨[.map none]⟩ 234 (0,0)),.obj r (.cells ⟨[q,.slice A2 a.length c2]⟩ 39 (0,0))]++g.map zh/\T=a.length-i) (hn_ [2,3,4,13,14,15] Z) ⟨0,[],⟨PL _,Z⟩,Z,Z,Z,Z⟩ (fun dd fr ah ai m _ p=>?_);obtain ⟨i,g,⟨hi,y⟩,rfl,rfl,rfl,rfl⟩:=p;refine Th 1 [2,3,4,13,14,15,16] Z<|G.cd (fun A=>?_) fun A=>?_
 ·have B:i<a.length:=by simpa using A
  obtain ⟨t,E⟩:∃ t,a[i]?=some t:=⟨a[i],aj B⟩;refine Ti 1 Z fun R c=>Ty x.m_ U10 om_ (by rw [PH,E];rfl:(a.map fU)[i]?=some (fU t)) fl_ fun ak U=>Tj U U8<|TB U5 fun F=>TB U5 fun J=>Ts (j:=1) U12<|Ts (j:=1) U12<|Tn [2,3,4,5,6,13,14,15] c Z<|Tl fun R c=>To ag U9<|TT (Ic _ t) U7 fun am _ _ V=>Tn [2,3,4,5,13,14,15,21] c Z ?_;obtain ⟨W,rfl,X⟩:=V;refine V9 Z Z kr_ (CG _ W _ t X) (fun j d=>∃ (z:Unit),(j<=3)/\d=[.obj J (.cells ⟨fU t⟩ 65 (0,0)),.obj F (.cells ⟨[.int .i64 i]⟩ 3 (0,0)),.obj o (.cells ⟨[.map (some f)]⟩ 234 (0,0)),.obj f (aV pW (D1 (wq a i) i t j)),.obj n (.cells ⟨[.bool false]⟩ 4 (0,0)),.obj h (.cells ⟨[.map none]⟩ 234 (0,0)),.obj r (.cells ⟨[q,.slice A2 a.length c2]⟩ 39 (0,0))]++g.map zh) ⟨(),PL _,Z⟩ Z (fun _ _=>rfl) (fun j d fr K=>∃ (s:Nat),fr=[(2,[],.pointer (some ⟨h,0,none⟩)),(3,[],.pointer (some ⟨n,0,none⟩)),(4,[],.pointer (some ⟨o,0,none⟩)),(5,[],.pointer (some ⟨F,0,none⟩)),(8,[],.pointer (some ⟨s,0,none⟩))]/\K=.obj s (.cells ⟨[.int .i64 (nC t j).1,.int .i64 (nC t j).2]⟩ 163 (0,0))::d) (fun l j u v d Y p w=>?_) (fun l j u v d an K Y p w hA=>?_) (fun L d p=>?_)
  ·obtain ⟨z,M,rfl⟩:=p;have H:j<3:=by have:=(aJ.1 w).1;rwa [mC] at this
   rw [vN H] at w;cases w
   exact Tl fun R c=>TB U5 fun s=>Ts (j:=0) U12<|Tn [2,3,4,5,8] c Z<|Wa (hn_ [2,3,4,5,8] Z) ⟨s,Z,Z⟩
  ·obtain ⟨z,M,rfl⟩:=p;obtain ⟨s,rfl,rfl⟩:=hA;have H:j<3:=by have:=(aJ.1 w).1;rwa [mC] at this
   refine Tl fun R c=>To aa U9<|To ag U9<|Vk kI2 (.tail _ aa) Z Z Z Z Z Z Z Z Z (congrArg (lJ _ true) (Q i t j E H)) Z Z<|C6 5 [2,3,4,5,8,10] c Z<|Th 1 [2,3,4,5,8,30] Z<|G.cd (fun N=>?_) fun N=>?_
   ·exact absurd N dc_
   refine Tl fun R c=>To aa U9<|To ag U9<|To ac U9<|Vd kI2 (j:=4) Z Z Z Z Z Z Z Z Z Z<|Ut [] trivial (c _ _ _ Z ?_);exact Ua 1 Z<|UZ (R:=fun d=>∃ (z:Unit),((j+1)<=3)/\d=[.obj J (.cells ⟨fU t⟩ 65 (0,0)),.obj F (.cells ⟨[.int .i64 i]⟩ 3 (0,0)),.obj o (.cells ⟨[.map (some f)]⟩ 234 (0,0)),.obj f (aV pW (D1 (wq a i) i t (j+1))),.obj n (.cells ⟨[.bool false]⟩ 4 (0,0)),.obj h (.cells ⟨[.map none]⟩ 234 (0,0)),.obj r (.cells ⟨[q,.slice A2 a.length c2]⟩ 39 (0,0))]++g.map zh) (List.perm_middle (l₁:=[_,_,_])).symm ⟨(),om_,Z⟩
  obtain ⟨z,M,rfl⟩:=p;refine Tl fun R c=>Tq _ Z U6<|C6 1 [2,3,4,13,14,15] c Z<|Ua 1 Z<|Ua 1 Z<|G.perm (L':=[.obj o (.cells ⟨[.map (some f)]⟩ 234 (0,0)),.obj f (aV pW (wq a (i+1))),.obj n (.cells ⟨[.bool false]⟩ 4 (0,0)),.obj h (.cells ⟨[.map none]⟩ 234 (0,0)),.obj r (.cells ⟨[q,.slice A2 a.length c2]⟩ 39 (0,0))]++(L::g).map zh) (by
   rw [show wq a (i+1)=D1 (wq a i) i t (vO t).length by rw [mC,wq,ax,E];rfl];exact (List.perm_middle (l₁:=[_,_,_,_,_])).symm) ?_
  refine V4 (m':=a.length-(i+1)) om_ mup (hn_ [2,3,4,13,14,15] Z) ⟨i+1,L::g,⟨by omega,by simp [y]⟩,Z,Z,Z,Z⟩
 have B:i=a.length:=by
  have:¬ i<a.length:=by simpa using A
  omega
 refine Tl fun R c=>To ag U9<|Ts (j:=3) U12<|Ts (j:=3) U12<|Tn [2,3] c Z<|G.freeze 3 Z fun Cf ao ab=>G.perm (L':=g.map zh++[_,_,_,_]) (QE (l₁:=[_,_,_,_]))<|Tu (V7 (N4 ae ag Z Z Z Z Z Z Z) ?_ ?_)
 ·exact ⟨Z,f,Z,by rw [<- B];exact ab⟩
 intro e;rw [e] at y;have:=Qq.2 O;simp at y;omega
def Kn (kd a b:Int)(h:Bool):Value:=.agg ⟨[.int .u8 kd,.int .i8 a,.int .i8 b,.bool h]⟩
def dQ (h:Bool):Int:=if h then 2 else 1
def dG (a b:Int)(h:Bool)(x y by':Int):Pt:=(kQ (x+a.tmod 8*by') (dQ h*by'),kQ (y+b.tmod 8*by') (dQ h*by'))
theorem xZ (a:Int):-8<a.tmod 8/\a.tmod 8<8:=by
 have h:(a.tmod 8).natAbs=a.natAbs % 8:=Sk a 8;omega
theorem Be (C:Mem)(g:Tabs C)(i a b:Int)(h:Bool)(x y n:Int)(u:0<n)(v:n<=4)(w:-128<=x/\x<=127)(A:-128<=y/\y<=127) :
  Gives cx.P 116 [Kn i a b h,.agg ⟨[.int .i8 x,.int .i8 y]⟩,.int .i64 n] C (ptV (dG a b h x y n)):=by
 have k:=xZ a;have l:=xZ b;have m:∀ z:Int, -8<z->z<8->-32<z*n/\z*n<32:=fun z h1 h2=>by
  rcases (by omega:n=1∨n=2∨n=3∨n=4) with e | e | e | e <;> subst e <;> omega
 have B:=m _ k.1 k.2;have D:=m _ l.1 l.2;have hh:dQ h=1∨dQ h=2:=by cases h <;> simp [dQ]
 have E:0<dQ h*n/\dQ h*n<=8:=by rcases hh with e | e <;> rw [e] <;> omega
 refine Tr func116 53 U3 fun w0=>Tl fun R d=>TC U6 fun o=>TC U6 fun p=>TB U5 fun q=>Tn [2,3,4,6] d Z<|Th 1 [2,3,4,6,7] Z<|Ti 1 Z fun R d=>To ac U9<|Tn [2,3,4,6,7,13] d Z<|G.cut (fun fr F r s=>(True)/\fr=[(2,[],.int .i64 n),(3,[],.pointer (some ⟨o,0,none⟩)),(4,[],.pointer (some ⟨p,0,none⟩)),(6,[],.pointer (some ⟨q,0,none⟩)),(7,[],.int .i64 (dQ h))]/\r=[.obj q (.cells ⟨[af [],af []]⟩ 34 (0,0)),.obj p (.cells ⟨[.int .i8 x,.int .i8 y]⟩ 23 (0,0)),.obj o (.cells ⟨[.int .u8 i,.int .i8 a,.int .i8 b,.bool h]⟩ 25 (0,0))]) ?_ (fun fr _ H s _ t=>?_)
 ·refine G.cd (fun f=>?_) fun f=>?_
  ·have h1:h=true:=f;subst h1;refine Th 1 [2,3,4,6,7] Z<|Tx 0 (Mem.le.refl _) (hn_ [2,3,4,6,7] Z) ⟨trivial,Z,Z⟩
  have h1:h=false:=by simpa using f
  subst h1;refine Tx 0 (Mem.le.refl _) (hn_ [2,3,4,6,7] Z) ⟨trivial,Z,Z⟩
 obtain ⟨_,rfl,rfl⟩:=t;refine Tl fun R d=>TE (0) U9 ah U2<|To ae U9<|TX (c:=x) U8 (wrap_i64 om_ om_) fl_<|Tk U6<|TE (1) U9 ah U2<|To ac U9<|Uq (a.tmod 8) U6 dc_ U3<|TX (c:=a.tmod 8) U8 (wrap_i64 om_ om_) fl_<|Tk U6<|Tq _ Z U6<|Tq _ Z U6<|Tm 2 Z<|Tq _ Z U6<|Tw (EV _ g.m_ (x+a.tmod 8*n) (dQ h*n) om_ om_ om_) U7 fl_<|C6 5 [2,3,4,6,7,8] d Z<|Tl fun R d=>TE (1) U9 ah U2<|To ae U9<|TX (c:=y) U8 (wrap_i64 om_ om_) fl_<|Tk U6<|TE (2) U9 ah U2<|To ac U9<|Uq (b.tmod 8) U6 dc_ U3<|TX (c:=b.tmod 8) U8 (wrap_i64 om_ om_) fl_<|Tk U6<|Tq _ Z U6<|Tq _ Z U6<|Tm 2 Z<|Tq _ Z U6<|Tw (EV _ g.m_ (y+b.tmod 8*n) (dQ h*n) om_ om_ om_) U7 fl_<|C6 5 [6,8,10] d Z<|Ti 2 Z fun R d=>TA (gi (dG a b h x y n)) U8<|Ts (j:=0) U12<|Tn [6] d Z<|Tu (Uc ag U4 ?_);exact ⟨Z,Z⟩
def gu (s p:Nat):Value:=.agg ⟨[.int .i64 (s:Nat),.int .i64 (p:Nat)]⟩
theorem iJ (C:Mem)(s p:Nat)(h:s*p<=1000000000):Gives cx.P 149 [gu s p] C (.int .i64 ((s*p:Nat):Int)):=by
 exact Tr func149 8 U3 fun w0=>Tl fun R a=>TC U6 fun b=>C6 1 [1] a Z<|Ti 1 Z fun R a=>To ag U9<|Tk U6<|To ag U9<|Tq _ Z U6<|C6 1 [2] a Z<|Tp U2<|⟨Z,Z⟩
theorem NR (C:Mem)(s p:Nat)(i k:Int)(h:-1000000000000<=i*p/\i*p<=1000000000000)(b:-1000000000<=k/\k<=1000000000):Gives cx.P 240 [gu s p,.int .i64 i,.int .i64 k] C (.int .i64 (i*p+k)):=by
 exact Tr func240 13 U3 fun w0=>Tl fun R a=>TC U6 fun c=>C6 1 [1,2,3] a Z<|Ti 2 Z fun R a=>To ag U9<|Tq _ Z U6<|Tk U6<|Tq _ Z U6<|C6 1 [6] a Z<|Tp U2<|⟨Z,Z⟩
theorem Bl {m:Nn}{s:fw}:(dR m (s.2,s.1)).isSome=!ji (m.map (·.1)) s:=by
 unfold ji nB;rw [Bool.not_not];cases h:dR m (s.2,s.1) with
 | none=>rw [cA] at h;simp [h]
 | some v =>
  have:=RL (f:=(·.1)) (gb h);simp only [Option.isSome_some];exact (P0 this).symm
theorem IT (C:Mem)(v1 v2:Value)(b:Nat)(m:Nn)(n:C b=some (aV pW m))(hn:(m.map (·.1)).Nodup)(O:∀ s∈m.map (·.1),0<=s.1)(aD:m.length<=1000000) :
  Pur cx.P 196 [.agg ⟨[v1,v2]⟩,.map (some b)] C fun u D=>∃ v,u=.tuple #[v,.bool (decide (wt (m.map (·.1))≠[]))]/\Sl D 1 v ((wt (m.map (·.1))).map pX):=by
 have aE:maxLen<=9223372036854775807:=by simp [maxLen]
 have Q:=fun s:fw=>Bl (m:=m) (s:=s);obtain ⟨ks,J⟩:∃ ks,m.map (·.1)=ks:=⟨_,rfl⟩;rw [J] at hn O ⊢;simp only [J] at Q;have ak:ks.length=m.length:=by rw [<- J];simp
 refine Tr func196 93 U3 fun w0=>Tl fun R c=>TC U6 fun b2=>C6 2 [1] c Z<|Tl fun R c=>D.makeMap keyZ Z Z Z Z fl_ fun l=>C6 1 [1,6] c Z<|Th 1 [1,6,7] Z<|Ti 1 Z fun R c=>Ve kI2.enc (Mem.get n mup) Z Z Z Z Z Z Z fl_ fun E=>Tn [1,6,7,19] c Z<|Ua 2 Z<|G.loop (fun fr C' o S=>∃ (seen:List Nat)(f:Int),(seen.Nodup/\(∀ j∈seen,j<ks.length)/\((fp ks seen).map (·.1)).Nodup/\lL (fp ks seen) f)/\fr=[(1,[],.map (some b)),(6,[],.map (some l)),(7,[],.int .i64 f),(19,[],.pointer (some ⟨E,0,none⟩))]/\o=[.obj E (bl b m.length seen),.obj l (aV keyZ.enc (tT (fp ks seen)))]/\S=ks.length-seen.length) (hn_ [1,6,7,19] Z) ⟨[], -1,⟨List.nodup_nil,by simp,by simp [fp],.inl ⟨Z,Z⟩⟩,Z,Z,Z⟩ (fun fr aF aH m _ T=>?_);obtain ⟨seen,f,⟨al,an,K,L⟩,rfl,rfl,rfl⟩:=T;refine Tl fun R c=>Vh kI2.enc (q:=0) (Mem.get n mup) Z Z Z Z Z Z fl_ fun ao aI M ap=>C6 1 [1,6,7,19,21] c Z<|G.cd (fun F=>?_) fun F=>?_
 ·obtain ⟨aJ,j,hj,ay,rfl⟩:ao=true/\∃ j,j<m.length/\j ∉ seen/\M=seen++[j]:=by
   rcases ap with ⟨h1,_⟩ | h1
   ·rw [h1] at F;cases F
   exact h1
  rw [<- ak] at hj;obtain ⟨⟨s,bv⟩,hs⟩:∃ p,m[j]?=some p:=⟨m[j]'om_,aj om_⟩;have aq:ks[j]?=some s:=by rw [<- J,PH,hs];rfl
  have H:(seen++[j]).Nodup:=by
   rw [Q7];exact ⟨al,by simp,fun a U b n e=>by rw [PZ.1 n] at e;subst e;exact ay U⟩
  have z:∀ i∈seen++[j],i<ks.length:=fun i V=>by
   rcases PU.1 V with h | h
   ·exact an i h
   rw [PZ.1 h];exact hj
  have aL:(seen++[j]).length<=ks.length:=by
   have:=List.Nodup.length_le_of_subset H (l₂:=List.range ks.length) (fun i V=>PX.2 (z i V));simpa using this
  have aM:(seen++[j]).length=seen.length+1:=by simp
  have d:=CJ aq (seen:=seen);have az:0<=s.1:=O s (O0 aq);refine Tl fun R c=>Vf kI2.enc (Mem.get n mup) hs ag Z Z Z Z Z Z Z<|Tk U6<|TB U5 fun b8=>Ts (j:=0) U12<|Tn [1,6,7,8,19] c Z<|Ti 1 Z fun R c=>TE (1) U9 ah U2<|To ag U9<|TE (0) U9 ah U2<|To ag U9<|TA [.int .i64 s.2,.int .i64 s.1] U8<|Vl kI2 (fun _=>(Mem.get n mup)) Z Z Z Z Z Z Z Z Z (lI _ (dR m (s.2,s.1))) Z Z<|C6 5 [1,6,7,8,10,19] c Z<|Th 1 [1,6,7,8,19,34] Z<|G.cd (fun W=>?_) fun W=>?_
  ·have X:ji ks s=false:=by
    have h:(dR m (s.2,s.1)).isSome=true:=W;rw [Q] at h;simpa using h
   rw [X] at d;simp only [Qu,Q0,P3] at d;refine Ua 0 Z<|Tz (L':=[.obj E (bl b m.length (seen++[j])),.obj l (aV keyZ.enc (tT (fp ks (seen++[j]))))]) (by rw [d];rfl)<|Tv (m':=ks.length-(seen++[j]).length) om_ mup (hn_ [1,6,7,19] Z) ⟨seen++[j],f,⟨H,z,by rw [d];exact K,by rw [d];exact L⟩,Z,Z,Z⟩
  have X:ji ks s=true:=by
   have h:(dR m (s.2,s.1)).isSome=false:=W;rw [Q] at h;simpa using h
  rw [X] at d;simp only [RB] at d;refine Ti 1 Z fun R c=>TE (0) U9 ah U2<|To ag U9<|UH keyZ ac Z Z Z Z Z Z Z Z kr_ Z (lI _ (dR (tT (fp ks seen)) s.1)) Z Z<|C6 5 [1,6,7,8,12,19] c Z<|Th 1 [1,6,7,8,19,42] Z<|G.cd (fun Y=>?_) fun Y=>?_
  ·have x:(dR (tT (fp ks seen)) s.1).isSome=true:=Y;rw [gT] at x;have aa:D2 ks=none:=by
    cases k:dR (fp ks seen) s.1 with
    | none=>rw [k] at x;cases x
    | some q=>exact CX (B:=fp ks seen) (s:=s) (t:=(s.1,q)) (by rw [<- d];exact yn hn H z) (by rw [<- d];exact EN z) (gb k) rfl
   have I:wt ks=[]:=by unfold wt;rw [aa];rfl
   refine Th 2 [4,5] Z<|Tu (G.dropAll (TM U3 ?_));exact ⟨Z,.slice none 0 0,by rw [I];rfl,by rw [I];exact Sl.nil _ _⟩
  have x:(dR (tT (fp ks seen)) s.1).isSome=false:=Y;have ab:dR (fp ks seen) s.1=none:=by
   rw [gT] at x;cases k:dR (fp ks seen) s.1 with
   | none=>rfl
   | some q=>rw [k] at x;cases x
  have ar:((fp ks (seen++[j])).map (·.1)).Nodup:=by
   rw [d,Qg,Q7];refine ⟨K,by simp,fun a U b n e=>?_⟩;rw [List.map_singleton,PZ] at n;subst n;subst e;exact (cA.1 ab) U
  have N:=pJ L s az;refine Ti 1 Z fun R c=>TE (0) U9 ah U2<|To ag U9<|TE (1) U9 ah U2<|To ag U9<|D.mapUpdate keyZ (j:=2) Z Z Z Z Z Z Z Z Z Z kr_<|Tn [1,6,7,8,19] c Z<|Ti 3 Z fun R c=>TE (0) U9 ah U2<|To ae U9<|Tm 2 Z<|TQ U8<|Tn [1,6,7,8,19,55] c Z<|G.cd (fun ad=>?_) fun ad=>?_
  ·have af:f<0∨s.1<f:=by simpa using ad
   rw [aK af] at N;refine Tl fun R c=>TE (0) U9 ah U2<|To ae U9<|C6 1 [1,6,7,19] c Z<|Ua 1 Z<|G.perm (L':=[.obj E (bl b m.length (seen++[j])),.obj l (aV keyZ.enc (tT (fp ks (seen++[j]))))]) (by
    rw [d,<- Bn ab];exact List.Perm.swap _ _ _) ?_
   refine Tv (m':=ks.length-(seen++[j]).length) om_ mup (hn_ [1,6,7,19] Z) ⟨seen++[j],s.1,⟨H,z,ar,by rw [d];exact N⟩,Z,Z,Z⟩
  have af:¬ (f<0∨s.1<f):=by simpa using ad
  rw [aG af] at N;refine Ua 1 Z<|G.perm (L':=[.obj E (bl b m.length (seen++[j])),.obj l (aV keyZ.enc (tT (fp ks (seen++[j]))))]) (by
   rw [d,<- Bn ab];exact List.Perm.swap _ _ _) ?_
  refine Tv (m':=ks.length-(seen++[j]).length) om_ mup (hn_ [1,6,7,19] Z) ⟨seen++[j],f,⟨H,z,ar,by rw [d];exact N⟩,Z,Z,Z⟩
 obtain ⟨aN,rfl,au⟩:ao=false/\M=seen/\∀ j,j<m.length->j∈seen:=by
  rcases ap with h1 | ⟨h1,_⟩
  ·exact h1
  rw [h1] at F;cases F
 rw [<- ak] at au;have hp:(fp ks M).Perm (ks.filter (ji ks)):=(oO al an au).filter _;obtain ⟨B,d⟩:∃ B,fp ks M=B:=⟨_,rfl⟩;rw [d] at hp K L;have hO:=IU hp K O L;have aO:B.length<=ks.length:=by rw [hp.length_eq];exact Rc _ _
 refine Th 1 [6,7,13] Z<|Th 2 [6,7,13,14] Z<|Ua 0 Z<|G.nilArr 3 1<|Tz (L':=[.arr (.slice none 0 0) 3 1 0 [],.obj l (aV keyZ.enc (tT B))]) (by rw [d];rfl)<|G.loop (fun fr C' o S=>∃ (out:List Int)(w:Value)(p:Int),(out.length<=B.length/\iz B f (B.length-out.length) p out=D2 ks)/\fr=[(6,[],.map (some l)),(7,[],.int .i64 f),(13,[],w),(14,[],.int .i64 p)]/\o=[.arr w 3 1 out.length (out.map (Value.int .i64)),.obj l (aV keyZ.enc (tT B))]/\S=B.length-out.length) (hn_ [6,7,13,14] Z) ⟨[],_,f,⟨PL _,hO.symm⟩,Z,Z,Z⟩ (fun fr aP aQ m _ T=>?_);obtain ⟨out,w,p,⟨aR,A⟩,rfl,rfl,rfl⟩:=T;refine V6 ag (fun Aw cw hw aS aT aU=>?_);subst hw;refine TH [(3,1)] Z fun R c=>Tm 3 Z<|Vo keyZ.enc ae Z Z Z Z Z Z Z Z Z<|C6 1 [6,7,13,14,63] c Z<|G.cd (fun ai=>?_) fun ai=>?_
 ·have aW:out.length<B.length:=by
   simp only [PN,Bo] at ai;omega
  obtain ⟨r,hr⟩:∃ r,B.length-out.length=r+1:=⟨B.length-out.length-1,by omega⟩;rw [hr] at A;refine Ti 2 Z fun R c=>UH keyZ ae Z Z Z Z Z Z Z Z kr_ Z (lI _ (dR (tT B) p)) Z Z<|C6 5 [6,7,13,14,16] c Z<|Ti 10 Z fun R c=>TJ U8<|TQ U8<|Tn [6,7,13,14,84] c Z<|G.cd (fun g=>?_) fun g=>?_
  ·have aa:D2 ks=none:=by
    rw [<- A];refine Cs ?_;rw [gT] at g;cases k:dR B p with
    | none=>exact .inl rfl
    | some q =>
     rw [k] at g;simp only [Ra,Option.isSome_some,Bool.not_true,Bool.false_or,PR,Rb,PN] at g;exact .inr ⟨g.1,fun e=>by rw [e] at g;simp at g⟩
   have I:wt ks=[]:=by unfold wt;rw [aa];rfl
   refine Th 2 [4,5] Z<|Tu (G.dropAll (TM U3 ?_));exact ⟨Z,.slice none 0 0,by rw [I];rfl,by rw [I];exact Sl.nil _ _⟩
  obtain ⟨q,k⟩:∃ q,dR B p=some q:=by
   rw [gT] at g;cases k:dR B p with
   | some q=>exact ⟨q,rfl⟩
   | none=>rw [k] at g;simp at g
  have aA:¬ (p=f/\out≠[]):=by
   rintro ⟨e1,e2⟩;rw [gT,k] at g;have:=Qq.2 e2;simp [e1] at g;exact e2 g
  rw [Cp k aA] at A;have aX:(out++[p]).length=out.length+1:=by simp
  refine Ti 2 Z fun R c=>TF [pX p] U12 fun aY _ _ aB=>D.append (j:=0) U11 aB Z aw (by simp only [PD];omega) fl_ fun av=>C6 1 [6,7,13,14] c Z<|Ti 2 Z fun R c=>UH keyZ ae Z Z Z Z Z Z Z Z kr_ Z (by rw [gT,k];rfl:lJ _ false (dR (tT B) p)=.int .i64 q) Z Z<|C6 1 [6,7,13,14] c Z<|Tz (L':=[.arr av 3 1 (out++[p]).length ((out++[p]).map (Value.int .i64)),.obj l (aV keyZ.enc (tT B))]) (by simp [pX])<|Tv (m':=B.length-(out++[p]).length) om_ mup (hn_ [6,7,13,14] Z) ⟨out++[p],av,q,⟨by omega,by rw [show B.length-(out++[p]).length=r by omega];exact A⟩,Z,Z,Z⟩
 have aZ:B.length<=out.length:=by
  simp only [P7,Bo] at ai;omega
 have ax:wt ks=out:=by
  rw [show B.length-out.length=0 by omega] at A;unfold wt;rw [<- A];rfl
 refine Th 6 [4,5] Z<|Tz (L':=[.arr (.slice Aw out.length cw) 3 1 out.length (out.map pX).flatten,.obj l (aV keyZ.enc (tT B))]) (by rw [show (out.map pX).flatten=out.map (Value.int .i64) from ep _ _])<|G.freezeArr 0 (out.map pX) rfl rfl (by intro r hr;obtain ⟨y,_,rfl⟩:=PK.1 hr;rfl) am fun Cg hg aC=>Tu (G.dropAll (TM U3 ?_));refine ⟨Z,_, ?_,by rw [ax];exact aC⟩;rw [ax];have:decide ((out.length:Int) > 0)=decide (out≠[]):=by
  rw [Qy,<- Qq];omega
 rw [<- this]
def rh (pts:List Pt)(cyc:List Nat)(i:Nat):Pt:=pts.getD (cyc.getD (i % cyc.length) 0) (0,0)
def upB (p q:Pt):Bool:=decide (p.2<q.2) || (decide (p.2=q.2) && decide (p.1<q.1))
def Jp (pts:List Pt)(cyc:List Nat)(i:Nat):Bool:=!upB (rh pts cyc i) (rh pts cyc (i+1)) && upB (rh pts cyc (i+1)) (rh pts cyc (i+1+1))
def wI (pts:List Pt)(cyc:List Nat)(i:Nat):Bool:=decide (0<=cK (rh pts cyc i) (rh pts cyc (i+1)) (rh pts cyc (i+2)))
def IX (pts:List Pt)(cyc:List Nat):Bool:=(List.range cyc.length).all (wI pts cyc) && decide (((List.range cyc.length).filter (Jp pts cyc)).length=1)
structure OnceC (C:Mem)(b2 b3 b5:Nat)(pts:List Pt)(cyc:List Nat):Prop where
 ex:∃ v1 v2,C b2=some (.cells ⟨[v1,v2]⟩ 39 (0,0))/\Sl C 2 v1 (pts.map gi)
 ey:∃ cv,C b3=some (.cells ⟨[cv]⟩ 57 (0,0))/\Sl C 1 cv (cyc.map aT)
 ez:C b5=some (.cells ⟨[.int .i64 (cyc.length:Nat)]⟩ 3 (0,0))
 ne:0<cyc.length
 ins:∀ z∈cyc,z<pts.length
 q:∀ p∈pts,QP 1 p
theorem OnceC.mono {C D:Mem}{b c d:Nat}{e:List Pt}{f:List Nat}(h:OnceC C b c d e f)(a:C.le D):OnceC D b c d e f:=by
 obtain ⟨g,i,h1,h2⟩:=h.ex;obtain ⟨j,h3,h4⟩:=h.ey;exact ⟨⟨g,i,a _ _ h1,h2.mono a⟩,⟨j,a _ _ h3,h4.mono a⟩,a _ _ h.ez,h.ne,h.ins,h.q⟩
theorem OnceC.m_ {D:Mem}{a b c:Nat}{d:List Pt}(h:OnceC C a b c d cyc)(e:C.le D:=by exact mup):OnceC D a b c d cyc:=OnceC.mono h e
theorem KU {a:List Pt}(h:0<cyc.length)(c:∀ z∈cyc,z<a.length)(i:Nat):∃ z,cyc[i % cyc.length]?=some z/\a[z]?=some (rh a cyc i):=by
 have b:=Qj i h;refine ⟨cyc[i % cyc.length],aj b, ?_⟩;have d:=c _ (Qx b);simp [rh,aj b,aj d]
theorem KT {a:List Pt}(h:0<cyc.length)(b:∀ z∈cyc,z<a.length)(c:∀ p∈a,QP 1 p)(i:Nat):QP 1 (rh a cyc i):=by
 obtain ⟨z,_,h2⟩:=KU h b i;exact c _ (O0 h2)
theorem pf (C:Mem)(e f c:Nat)(b:List Pt)(a:List Nat)(h:OnceC C e f c b a)(i:Nat) :
  Gives cx.P 258 [.int .i64 i,.pointer (some ⟨e,0,none⟩),.pointer (some ⟨f,0,none⟩),.pointer (some ⟨c,0,none⟩)] C (ptV (rh b a i)):=by
 obtain ⟨q,r,g,h1⟩:=h.ex;obtain ⟨s,k,h3⟩:=h.ey;have l:=h.ez;have t:=h.ne;obtain ⟨z,m,n⟩:=KU h.ne h.ins i;obtain ⟨u,v,rfl,w,x,_⟩:=id h1;obtain ⟨y,A,rfl,B,D,_⟩:=id h3;simp only [al] at h1 h3 g k;refine Tr func258 16 U3 fun w0=>Tl fun R d=>TB U5 fun c=>Tn [0,1,2,3,5] d Z<|TD [0,1,2,3,4,5,6,7,8,9,10] [] Z kr_ fun R E d=>Tk U6<|Tj (PtrTo.block (Mem.get g mup) _) U8<|Tj (PtrTo.block (Mem.get k mup) _) U8<|Tk U6<|Tj (PtrTo.block (Mem.get l mup) _) U8<|Uj (i) (a.length) U6 om_ U2<|Ty h3.m_ U10 om_ (by rw [PH,show ((i % a.length:Nat):Int).toNat=i % a.length from Z,m];rfl:(a.map aT)[((i % a.length:Nat):Int).toNat]?=some (aT z)) fl_ fun F o=>Tj o U8<|Ty h1.m_ U10 om_ (by rw [PH,show ((z:Nat):Int).toNat=z from Z,n];rfl:(b.map gi)[((z:Nat):Int).toNat]?=some (gi (rh b a i))) fl_ fun G p=>Tj p U8<|Ts (j:=0) U12<|Tn [5] d Z<|Tu (Uc ag U4 ?_);exact ⟨Z,Z⟩
def fn1V (b2 b3 b5:Nat):Value:=.func (.func 258) #[] #[.pointer (some ⟨b2,0,none⟩),.pointer (some ⟨b3,0,none⟩),.pointer (some ⟨b5,0,none⟩)]
theorem G7 (a b:Rat):decide (sD a b > 0)=decide (b<a):=by
 unfold sD;by_cases h1:a<b
 ·have:¬ b<a:=by grind
  simp [h1,this]
 by_cases h2:b<a <;> simp [h1,h2]
theorem M1 (a b:Rat):(sD a b == 0)=decide (b=a):=by
 unfold sD;by_cases h1:a<b
 ·have:¬ b=a:=by grind
  simp [h1,this]
 by_cases h2:b<a
 ·have:¬ b=a:=by grind
  simp [h1,h2,this]
 have:b=a:=by grind
 subst this;simp [h1]
theorem Kj (C:Mem)(k:Tabs C)(c d e l:Nat)(a:List Pt)(b:List Nat)(h:OnceC C c d e a b)(f:C l=some (.cells ⟨[fn1V c d e]⟩ 352 (0,0)))(i:Nat)(n:i<=1000000) :
  Gives cx.P 259 [.int .i64 i,.pointer (some ⟨l,0,none⟩)] C (.bool (upB (rh a b i) (rh a b (i+1)))):=by
 have g:=fun i=>KT h.ne h.ins h.q i;unfold fn1V at f;refine Tr func259 34 U3 fun w0=>Th 1 [0,1] Z<|TD [0,1,2,3,4,5,6,7,8,9,10] [(3,1),(7,1),(9,1)] Z kr_ fun R m j=>Tj (PtrTo.block (Mem.get f mup) _) U8<|Tk U6<|Tq _ Z U6<|TU (fun _=>(pf _ c d e a b h.m_ (i+1))) U9<|UB U12<|Tj (PtrTo.block (Mem.get f mup) _) U8<|Tk U6<|TU (fun _=>(pf _ c d e a b h.m_ i)) U9<|UB U12<|TG (fun _=>(gM _ k.m_ (rh a b (i+1)).2 (rh a b i).2 1 dc_ dc_ (g (i+1)).2 (g i).2)) U9<|C6 1 [0,1,4] j Z<|TD [0,1,2,3,4,5,6,7,8,9,10,11,12,13,14,15,16,17,18,19] [] Z kr_ fun R m j=>Tm 6 Z<|TN U6 (fun _=>PtrTo.block (Mem.get f mup) _) U3<|Tk U6<|Tq _ Z U6<|TU (fun _=>(pf _ c d e a b h.m_ (i+1))) U9<|UB U12<|TN U6 (fun _=>PtrTo.block (Mem.get f mup) _) U3<|Tk U6<|TU (fun _=>(pf _ c d e a b h.m_ i)) U9<|UB U12<|TG (fun _=>(gM _ k.m_ (rh a b (i+1)).1 (rh a b i).1 1 dc_ dc_ (g (i+1)).1 (g i).1)) U9<|Tk U6<|TJ U8<|TQ U8<|C6 1 [3] j Z<|Tp U2<|⟨?_,Z⟩;rw [G7,M1,G7];rfl
theorem EK (q:Rat):decide (eN q.num<0)=!decide (0<=q):=by
 rw [<- decide_not,Qy,<- Rat.num_nonneg];rcases ek q.num with h | h | h <;> omega
theorem Mj (C:Mem)(r:Tabs C)(s B D:Value)(b:List Pt)(a:List Nat)(I:Sl C 2 s (b.map gi))(t:Sl C 1 D (a.map aT))(J:0<a.length)(K:∀ z∈a,z<b.length)(L:∀ p∈b,QP 1 p)(W:a.length<=100000) :
  Gives cx.P 197 [.agg ⟨[s,B]⟩,D] C (.bool (IX b a)):=by
 obtain ⟨X,Y,rfl,aa,ab,_⟩:=id t;simp only [al] at t ⊢;refine Tr func197 46 U3 fun w0=>Tl fun R c=>TC U6 fun e=>TC U6 fun f=>C6 1 [2,3] c Z<|Tl fun R c=>To ag U9<|Tk U6<|TB U5 fun g=>Ts (j:=0) U12<|Tn [2,3,5] c Z<|Ti 1 Z fun R c=>TB U5 fun o=>Ts (j:=0) U12<|Tn [5,6] c Z<|G.freeze 0 Z fun _ _ h=>G.freeze 0 Z fun _ _ E=>G.freeze 0 Z fun _ _ M=>G.freeze 0 Z (fun N _ O=>?_);have d:OnceC N e f g b a:=⟨⟨s,B,O,I.mono mup⟩,⟨_,Mem.get M mup,t.mono mup⟩,Mem.get E mup,J,K,L⟩;have u:=fun i=>KT d.ne d.ins d.q i;refine Th 2 [5,6,7] Z<|Th 1 [5,6,7,8] Z<|Tl fun R c=>Tj (PtrTo.block (Mem.get E mup) _) U8<|C6 1 [6,7,8,14,15] c Z<|G.loop (fun fr C' Q S=>∃ (i k:Nat),(i<=a.length/\(List.range i).all (wI b a)=true/\((List.range i).filter (Jp b a)).length=k)/\fr=[(6,[],.pointer (some ⟨o,0,none⟩)),(7,[],.func (.func 259) #[] #[.pointer (some ⟨o,0,none⟩)]),(8,[],.int .i64 k),(14,[],.int .i64 a.length),(15,[],.int .i64 i)]/\Q=[]/\S=a.length-i) (hn_ [6,7,8,14,15] Z) ⟨0,0,⟨PL _,Z,Z⟩,Z,Z,Z⟩ (fun fr ac ad m F T=>?_);obtain ⟨i,k,⟨hi,v,l⟩,rfl,rfl,rfl⟩:=T;refine Th 1 [6,7,8,14,15,16] Z<|G.cd (fun w=>?_) fun w=>?_
 ·have x:i<a.length:=by simpa using w
  have ae:k<=i:=by
   rw [<- l];exact PV (Rc _ _) am
  refine Th 2 [6,7,8,9,14,15] Z<|TD [0,1,2,3,4,5,6,7,8,9,10,11,12] [(2,1),(6,1),(10,1),(11,1)] Z kr_ fun R hB c=>Tj (PtrTo.block (Mem.get h mup) _) U8<|Tk U6<|TU (fun _=>(pf _ e f g b a d.m_ i)) U9<|Tj (PtrTo.block (Mem.get h mup) _) U8<|Tk U6<|Tq _ Z U6<|TU (fun _=>(pf _ e f g b a d.m_ (i+1))) U9<|Tj (PtrTo.block (Mem.get h mup) _) U8<|Tk U6<|Tq _ Z U6<|TU (fun _=>(pf _ e f g b a d.m_ (i+2))) U9<|TG (fun _=>(oz _ r.m_ (rh b a i) (rh b a (i+1)) (rh b a (i+2)) 1 dc_ dc_ (u i) (u (i+1)) (u (i+2)))) U9<|C6 1 [6,7,8,9,14,15,30] c Z<|G.cd (fun n=>?_) fun n=>?_
  ·have U:wI b a i=false:=by
    rw [EK] at n;simpa [wI] using n
   refine Th 1 [4] Z<|Tp U2<|⟨?_,Z⟩;have:(List.range a.length).all (wI b a)=false:=Sa.2 ⟨i,PX.2 x,by rw [U];decide⟩;unfold IX;rw [this];rfl
  have V:wI b a i=true:=by
   rw [EK] at n;simpa [wI] using n
  have H:(List.range (i+1)).all (wI b a)=true:=by rw [QO,S7,v];simp [V]
  refine Ti 2 Z fun R c=>Tw (Kj _ r.m_ e f g o b a d.m_ (Mem.get h mup) i om_) U7 fl_<|Tm 4 Z<|Tq _ Z U6<|TG (fun _=>(Kj _ r.m_ e f g o b a d.m_ (Mem.get h mup) (i+1) om_)) U9<|TJ U8<|Tn [6,7,8,14,15,40] c Z<|G.cd (fun y=>?_) fun y=>?_
  ·have A:Jp b a i=true:=y;refine Ti 1 Z fun R c=>Tq _ Z U6<|C6 1 [6,7,8,14,15] c Z<|Tl fun R c=>Tq _ Z U6<|C6 1 [6,7,8,14,15] c Z<|Tv (m':=a.length-(i+1)) om_ F (hn_ [6,7,8,14,15] Z) ⟨i+1,k+1,⟨by omega,H,by rw [QO,Q8,PM,l];simp [A]⟩,Z,Z,Z⟩
  have A:Jp b a i=false:=y;refine Tl fun R c=>Tq _ Z U6<|C6 1 [6,7,8,14,15] c Z<|Tv (m':=a.length-(i+1)) om_ F (hn_ [6,7,8,14,15] Z) ⟨i+1,k,⟨by omega,H,by rw [QO,Q8,PM,l];simp [A]⟩,Z,Z,Z⟩
 have x:i=a.length:=by
  have:¬ i<a.length:=by simpa using w
  omega
 refine Th 3 [4] Z<|Tp U2<|⟨?_,Z⟩;rw [x] at v l;unfold IX;rw [v,l,SN];congr 1;rw [S5,PN];simp;omega
/-! The sides of triangles, in order. -/
def oL (t:Tri):List fw:=[nC t 0,nC t 1,nC t 2]
def bP (tris:List Tri):List fw:=tris.flatMap oL
theorem AE (t:Tri)(a:k<3):(oL t)[k]?=some (nC t k):=by
 rcases (by omega:k=0∨k=1∨k=2) with rfl | rfl | rfl <;> rfl
theorem pm (m:Nn)(i:Nat)(t:Tri):∀ k,k<=3->(m.map (·.1)++(oL t).take k).Nodup->(D1 m i t k).map (·.1)=m.map (·.1)++(oL t).take k
 | 0,_,_=>by simp [D1]
 | k+1,e,a=>by
  have h3:=AE t (show k<3 by omega);rw [P6,h3,Q2,<- Qb] at a ⊢;have b:=(Q7.1 a);have c:=pm m i t k om_ b.1;have d:dR (D1 m i t k) (nC t k)=none:=by
   rw [cA,c];intro h;exact b.2.2 _ h _ am Z
  rw [D1,jI d,Qg,c];rfl
theorem oJ {a:List Tri}{t:Tri}(h:a[n]?=some t):bP (a.take (n+1))=bP (a.take n)++oL t:=by
 unfold bP;rw [P6,h,List.flatMap_append];simp
theorem rx {a:List Tri}(h:(bP a).Nodup)(n:Nat):(bP (a.take n)).Nodup:=by
 have:bP a=bP (a.take n)++bP (a.drop n):=by
  unfold bP;rw [<- List.flatMap_append,Qw]
 rw [this] at h;exact (Q7.1 h).1
theorem fJ {a:List Tri}(h:(bP a).Nodup):∀ n,n<=a.length->(wq a n).map (·.1)=bP (a.take n)
 | 0,_=>by simp [wq,bP]
 | n+1,d=>by
  have b:a[n]?=some a[n]:=aj om_;have h1:=rx h (n+1);rw [oJ b] at h1 ⊢;have c:=fJ h n om_;rw [wq,ax,b];show (D1 (wq a n) n a[n] 3).map (·.1)=_;rw [pm _ _ _ 3 (PE _) (by rw [c];exact h1),c];rfl
theorem rL {a:List Tri}(h:(bP a).Nodup)(i:Nat)(t:Tri)(k:Nat)(b:a[i]?=some t)(d:k<3):dR (D1 (wq a i) i t k) (nC t k)=none:=by
 have e:=(aJ.1 b).1;have h1:=rx h (i+1);rw [oJ b] at h1;have c:=fJ h i om_;have h3:=AE t d;have h2:(bP (a.take i)++(oL t).take (k+1)).Nodup:=by
  refine List.Nodup.sublist (List.Sublist.append (List.Sublist.refl _) (List.take_sublist _ _)) h1
 rw [P6,h3,Q2,<- Qb] at h2;have h4:=Q7.1 h2;rw [cA,pm _ _ _ k om_ (by rw [c];exact h4.1),c];intro h5;exact h4.2.2 _ h5 _ am Z
theorem vm {B:List fw}{d:Int}:∀ (k:Nat)(p:Int)(out r:List Int),iz B d k p out=some r->(∀ z∈out,z∈B.map (·.1))->∀ z∈r,z∈B.map (·.1)
 | 0,p,out,r,h,b=>by simp only [iz,Qh] at h;subst h;exact b
 | k+1,p,out,r,h,b=>by
  simp only [iz] at h;cases c:dR B p with
  | none=>rw [c] at h;cases h
  | some q =>
   rw [c] at h;simp only at h;split at h
   ·cases h
   refine vm k q _ r h (fun z a=>?_);rcases PU.1 a with a | a
   ·exact b z a
   rw [PZ.1 a];exact RL (f:=(·.1)) (gb c)
theorem vn {B:List fw}{b:Int}:∀ (k:Nat)(p:Int)(out r:List Int),iz B b k p out=some r->r.length=out.length+k
 | 0,p,out,r,h=>by simp only [iz,Qh] at h;subst h;rfl
 | k+1,p,out,r,h=>by
  simp only [iz] at h;cases a:dR B p with
  | none=>rw [a] at h;cases h
  | some q =>
   rw [a] at h;simp only at h;split at h
   ·cases h
   have:=vn k q _ r h;simp at this;omega
theorem Bj {c:List fw}:∀ z∈wt c,z∈c.map (·.1):=by
 intro z a;unfold wt at a;cases b:D2 c with
 | none=>rw [b] at a;simp at a
 | some r =>
  rw [b] at a;simp only [QW] at a;unfold D2 at b;split at b
  ·have:=vm _ _ _ _ b am z a;obtain ⟨s,hs,rfl⟩:=PK.1 this;exact RL (f:=(·.1)) (Q4.1 hs).1
  cases b
theorem IV (a:List fw):(wt a).length<=a.length:=by
 unfold wt;cases b:D2 a with
 | none=>simp
 | some r =>
  unfold D2 at b;split at b
  ·have:=vn _ _ _ _ b;have h2:=Rc (ji a) a;simp at this ⊢;omega
  cases b
def mU (n:Nat)(t:Tri):Prop:=t.1<n/\t.2.1<n/\t.2.2<n
theorem Ie {t:Tri}(h:mU n t):∀ s∈oL t,0<=s.1/\s.1.toNat<n:=by
 obtain ⟨h1,h2,h3⟩:=h;intro s hs;simp only [oL,PQ,QF,R0] at hs;rcases hs with rfl | rfl | rfl <;> simp [nC,DZ] <;> omega
theorem oK {a:List Tri}(h:∀ t∈a,mU n t):∀ s∈bP a,0<=s.1/\s.1.toNat<n:=by
 intro s hs;obtain ⟨t,b,hs⟩:=List.mem_flatMap.1 hs;exact Ie (h t b) s hs
theorem mD (a:List Tri):(bP a).length=3*a.length:=by
 induction a with
 | nil=>rfl
 | cons t l b =>
  have:bP (t::l)=oL t++bP l:=rfl;rw [this,PM,b];simp [oL];omega
def fP (tris:List Tri):List Nat:=(wt (bP tris)).map Int.toNat
theorem DI {a:List Tri}(h:∀ t∈a,mU n t):∀ z∈fP a,z<n:=by
 intro z b;obtain ⟨y,hy,rfl⟩:=PK.1 b;obtain ⟨s,hs,rfl⟩:=PK.1 (Bj y hy);exact (oK h s hs).2
theorem zp {a:List Tri}(h:∀ t∈a,mU n t):(wt (bP a)).map pX=(fP a).map aT:=by
 unfold fP;rw [QC];refine List.map_congr_left (fun y hy=>?_);obtain ⟨s,hs,rfl⟩:=PK.1 (Bj y hy);have:=(oK h s hs).1;show pX s.1=aT s.1.toNat;unfold pX aT;rw [Int.toNat_of_nonneg this]
/-! Sets of ints as maps. -/
def HF (ks:List Int):List (Int × Value):=ks.map fun z=>(z,.bool true)
def OH (ks:List Int)(z:Int):List Int:=if z∈ks then ks else ks++[z]
theorem Ik (a:List Int):(HF a).length=a.length:=by simp [HF]
theorem wC:∀ {ks:List Int}{z:Int},iw (HF ks) z (.bool true)=HF (OH ks z)
 | [],z=>by simp [HF,iw,OH]
 | k::ks,z=>by
  have a:=wC (ks:=ks) (z:=z);unfold HF at a ⊢;simp only [Qe,iw];by_cases e:k=z
  ·subst e;simp [OH]
  have b:¬ z=k:=fun h=>e h.symm;rw [aG e,a];unfold OH;by_cases h:z∈ks
  ·simp [h]
  simp [h,b]
def Ld (ks:List Int)(t:Tri):Nat->List Int
 | 0=>ks
 | k+1=>OH (Ld ks t k) (DZ t k)
def vx (tris:List Tri):Nat->List Int
 | 0=>[]
 | n+1=>Ld (vx tris n) (tris.getD n (0,0,0)) 3
theorem jf (t:Tri)(a:k<3):(fU t)[k]?=some (.int .i64 (DZ t k)):=by
 rcases (by omega:k=0∨k=1∨k=2) with rfl | rfl | rfl <;> rfl
theorem DH {a:List Tri}(h:decide (wt (bP a)≠[])=true):0<(fP a).length:=by
 unfold fP;rw [al];exact Qq.2 (aY h)
theorem Hk (a:List Tri):decide (wt (bP a)≠[])=decide (fP a≠[]):=by
 rw [Qy];unfold fP;simp
def mY (pts:List Pt)(tris:List Tri):Bool:=decide (fP tris≠[]) && (decide ((vx tris tris.length).length=pts.length) && IX pts (fP tris))
theorem tf (C:Mem)(J:Tabs C)(x y:Value)(c:List Pt)(a:List Tri)(K:a≠[])(k:Sl C 2 x (c.map gi))(g:Sl C 3 y (a.map fU))(d:(bP a).Nodup)(l:∀ t∈a,mU c.length t)(L:∀ p∈c,QP 1 p)(z:a.length<=10000) :
  Gives cx.P 130 [.agg ⟨[x,y]⟩] C (.bool (mY c a)):=by
 obtain ⟨V,W,rfl,M,X,_⟩:=id k;obtain ⟨A2,c2,rfl,N,Y,_⟩:=id g;have aa:maxLen<=9223372036854775807:=by simp [maxLen]
 simp only [al] at k g M N ⊢;refine Tr func130 55 U3 fun w0=>Tl fun R b=>TC U6 fun A=>C6 1 [1] b Z<|G.freeze 0 Z fun _ B e=>Tl fun R b=>Tj (PtrTo.block (Mem.get e mup) _) U8<|TT (wo _ _ _ a K g.m_ (rL d)) U7 (fun ab _ _ O=>?_);obtain ⟨n,rfl,Q⟩:=O;refine C6 5 [1,3,4] b Z<|Th 2 [1,3,18] Z<|G.cd (fun E=>?_) fun E=>?_
 ·exact absurd E dc_
 refine Tl fun R b=>D.makeMap keyZ Z Z Z Z fl_ fun f=>C6 1 [1,3,5] b Z<|Ti 1 Z fun R b=>Tj (PtrTo.block (Mem.get e mup) _) U8<|C6 2 [1,3,5,21,22,23] b Z<|G.loop (fun fr S h o=>∃ (i:Nat),(i<=a.length)/\fr=[(1,[],.pointer (some ⟨A,0,none⟩)),(3,[],.map (some n)),(5,[],.map (some f)),(21,[],.slice A2 a.length c2),(22,[],.int .i64 a.length),(23,[],.int .i64 i)]/\h=[.obj f (aV keyZ.enc (HF (vx a i)))]/\o=a.length-i) (hn_ [1,3,5,21,22,23] Z) ⟨0,PL _,Z,Z,Z⟩ (fun fr ac ad m _ q=>?_);obtain ⟨i,hi,rfl,rfl,rfl⟩:=q;refine Th 1 [1,3,5,21,22,23,24] Z<|G.cd (fun r=>?_) fun r=>?_
 ·have u:i<a.length:=by simpa using r
  obtain ⟨t,F⟩:∃ t,a[i]?=some t:=⟨a[i],aj u⟩;refine Tl fun R b=>Ty g.m_ U10 om_ (by rw [PH,F];rfl:(a.map fU)[i]?=some (fU t)) fl_ fun ae T=>Tj T U8<|TB U5 fun b7=>Ts (j:=0) U12<|Tn [1,3,5,7,21,22,23] b Z<|Tl fun R b=>To ag U9<|C6 1 [1,3,5,21,22,23,27,28] b Z<|Ua 0 Z<|G.loop (fun fr S h o=>∃ (j:Nat),(j<=3)/\fr=[(1,[],.pointer (some ⟨A,0,none⟩)),(3,[],.map (some n)),(5,[],.map (some f)),(21,[],.slice A2 a.length c2),(22,[],.int .i64 a.length),(23,[],.int .i64 i),(27,[],.agg ⟨fU t⟩),(28,[],.int .i64 j)]/\h=[.obj f (aV keyZ.enc (HF (Ld (vx a i) t j)))]/\o=3-j) (hn_ [1,3,5,21,22,23,27,28] Z) ⟨0,PL _,Z,Z,Z⟩ (fun fr af ah m B q=>?_);obtain ⟨j,hj,rfl,rfl,rfl⟩:=q;refine Th 1 [1,3,5,21,22,23,27,28,29] Z<|G.cd (fun v=>?_) fun v=>?_
  ·have w:j<3:=by
    simp only [PN] at v;omega
   refine Tl fun R b=>Ud U11 (fun _=>⟨by omega,by omega,jf t w⟩) U2<|C6 1 [1,3,5,9,21,22,23,27,28] b Z<|Ti 2 Z fun R b=>D.mapUpdate keyZ (j:=0) Z Z Z Z Z Z Z Z Z Z kr_<|Tn [1,3,5,21,22,23,27,28] b Z<|Tl fun R b=>Tq _ Z U6<|C6 1 [1,3,5,21,22,23,27,28] b Z ?_;rw [wC];refine Tv (m':=3-(j+1)) om_ B (hn_ [1,3,5,21,22,23,27,28] Z) ⟨j+1,om_,Z,Z,Z⟩
  have w:j=3:=by
   simp only [P7] at v;omega
  subst w;refine Tl fun R b=>Tq _ Z U6<|C6 1 [1,3,5,21,22,23] b Z<|Tz (L':=[.obj f (aV keyZ.enc (HF (vx a (i+1))))]) (by rw [vx,ax,F];rfl)<|Tv (m':=a.length-(i+1)) om_ mup (hn_ [1,3,5,21,22,23] Z) ⟨i+1,om_,Z,Z,Z⟩
 have u:i=a.length:=by
  have:¬ i<a.length:=by simpa using r
  omega
 subst u;refine Tl fun R b=>Tj (PtrTo.block (Mem.get e mup) _) U8<|Tk U6<|TO (IT _ _ _ n (wq a a.length) (Mem.get Q mup) (by rw [fJ d _ (PE _),PT];exact d) (by rw [fJ d _ (PE _),PT];exact fun s hh=>(oK l s hh).1) (by have:=congrArg List.length (fJ d _ (PE _));rw [PT,mD,al] at this;omega)) U7 fl_ (fun ai _ _ H=>?_);rw [fJ d _ (PE _),PT] at H;obtain ⟨bv,rfl,I⟩:=H;rw [zp l] at I;refine C6 5 [1,5,10,11] b Z<|TH [(3,1)] Z fun R b=>Tm 3 Z<|Vo keyZ.enc ag Z Z Z Z Z Z Z Z Z<|Tk U6<|TN U6 (fun _=>PtrTo.block (Mem.get e mup) _) U3<|Tm 2 Z<|TJ U8<|Tk U6<|TN U6 (fun _=>PtrTo.block (Mem.get e mup) _) U3<|Tk U6<|TG (fun U=>(Mj _ J.m_ _ _ bv c (fP a) k.m_ I.m_ (by exact DH (S6.1 (show (decide (wt (bP a)≠[]) && _)=true/\True from U).1).1) (DI l) L (by have:=IV (bP a);rw [mD] at this;unfold fP;rw [al];omega))) U9<|TJ U8<|C6 1 [2] b Z<|Tp U2<|⟨?_,Z⟩;have z:(((HF (vx a a.length)).length:Int) == (c.length:Int))=decide ((vx a a.length).length=c.length):=by
  rw [Ik,S5,Rb,PN];omega
 unfold mY;rw [<- Hk,<- z,<- Bool.and_assoc]
noncomputable def kP2:KeyP cx.P 34 (Str × Str):=Pm rfl rfl rfl dc_ dc_ rfl rfl kr_
def ptK (p:Pt):Str × Str:=(qtx p.1,qtx p.2)
theorem LX {p q:Pt}(h:ptK p=ptK q):p=q:=by
 have h1:=ly (congrArg (·.1) h);have h2:=ly (congrArg (·.2) h);exact Prod.ext h1 h2
def I4 (l:List Pt):List ((Str × Str) × Value):=l.map fun p=>(ptK p,.bool true)
theorem Bw {l:List Pt}{p:Pt}(h:p ∉ l):dR (I4 l) (ptK p)=none:=by
 rw [cA];unfold I4;rw [QC];intro hm;obtain ⟨q,a,b⟩:=PK.1 hm;exact h (LX b ▸ a)
theorem Mu {l:List Pt}{p:Pt}(h:p ∉ l):iw (I4 l) (ptK p) (.bool true)=I4 (l++[p]):=by
 rw [jI (Bw h)];simp [I4]
def nW (n:Nat)(X:Nat->Nat->Bool):Bool:=(List.range n).any fun i=>(List.range i).any fun k=>X i k
def yC (pts:List Pt)(tris:List Tri)(X:Nat->Nat->Bool):Int:=if tris=[] then 13 else if mY pts tris then 0 else if nW tris.length X then 26 else 25
structure MeshOk (pts:List Pt)(tris:List Tri):Prop where
 q:∀ p∈pts,QP 1 p
 nd:pts.Nodup
 ins:∀ t∈tris,mU pts.length t
 pos:∀ t∈tris,0<cK (pts.getD t.1 (0,0)) (pts.getD t.2.1 (0,0)) (pts.getD t.2.2 (0,0))
 sides:(bP tris).Nodup
 lt:tris.length<=800
 lp:pts.length<=400
theorem pe {a:List Pt}(h:i<a.length):a[i]?=some (a.getD i (0,0)):=by
 rw [ax,aj h];rfl
theorem AY {a:List Pt}(h:i<a.length):a.getD i (0,0)∈a:=O0 (pe h)
def fb (t:Tri)(j:Nat):Nat:=if j=0 then t.1 else if j=1 then t.2.1 else t.2.2
theorem oA (t:Tri)(j:Nat):DZ t j=(fb t j:Nat):=by
 unfold DZ fb;split
 ·rfl
 split <;> rfl
theorem eB {t:Tri}(h:mU n t)(j:Nat):fb t j<n:=by
 obtain ⟨h1,h2,h3⟩:=h;unfold fb;split
 ·exact h1
 split <;> assumption
theorem NN (q:Rat):decide (eN q.num<=0)=!decide (0<q):=by
 have h1:=AV q;have h2:q.num=0 ↔ q=0:=SC;rw [<- decide_not,Qy];have h3:¬ 0<q ↔ (q<0∨q=0):=by grind
 rw [h3,<- h1,<- h2];rcases ek q.num with h | h | h <;> omega
theorem FS (C:Mem)(H:Tabs C)(I J:Value)(c:List Pt)(b:List Tri)(X:Nat->Nat->Bool)(r:Sl C 2 I (c.map gi))(x:Sl C 3 J (b.map fU))(d:MeshOk c b)
  (V:b≠[]->mY c b=false->∀ D:Mem,C.le D->∀ i k:Nat,i<b.length->k<i->Gives cx.P 131 [.agg ⟨[I,J]⟩,.int .i64 i,.int .i64 k] D (.bool (X i k))) :
  Gives cx.P 65 [.agg ⟨[I,J]⟩] C (.int .i64 (yC c b X)):=by
 obtain ⟨A1,c1,rfl,ai,aA,_⟩:=id r;obtain ⟨A2,c2,rfl,ak,aB,_⟩:=id x;have aC:maxLen<=9223372036854775807:=by simp [maxLen]
 have aD:=d.lt;have aE:=d.lp;simp only [al] at r x ai ak V ⊢;refine Tr func65 105 U3 fun w0=>Tl fun R a=>TC U6 fun u=>C6 1 [1] a Z<|G.freeze 0 Z fun _ _ f=>Ti 1 Z fun R a=>Tj (PtrTo.block (Mem.get f mup) _) U8<|C6 3 [1,12] a Z<|G.cd (fun y=>?_) fun y=>?_
 ·have h0:b=[]:=by
   have h:((b.length:Nat):Int)=0:=by simpa using y
   exact Qo om_
  exact Th 1 [2] Z<|Tp U2<|⟨by unfold yC;rw [aK h0],Z⟩
 have h0:b≠[]:=by
  intro e;rw [e] at y;exact absurd y dc_
 refine Ti 1 Z fun R a=>Tj (PtrTo.block (Mem.get f mup) _) U8<|Tm 4 Z<|TN U6 (fun _=>PtrTo.block (Mem.get f mup) _) U3<|Tm 2 Z<|TQ U8<|C6 1 [1,17] a Z<|G.cd (fun W=>?_) fun W=>?_
 ·exfalso;simp only [Ru,PN] at W;omega
 refine Tl fun R a=>Vj kP2 Z Z Z Z fl_ fun K=>C6 1 [1,3] a Z<|Ti 1 Z fun R a=>Tj (PtrTo.block (Mem.get f mup) _) U8<|C6 2 [1,3,30,31,32] a Z<|G.loop (fun fr z g l=>∃ (i:Nat),(i<=c.length)/\fr=[(1,[],.pointer (some ⟨u,0,none⟩)),(3,[],.map (some K)),(30,[],.slice A1 c.length c1),(31,[],.int .i64 c.length),(32,[],.int .i64 i)]/\g=[.obj K (aV Dw (I4 (c.take i)))]/\l=c.length-i) (hn_ [1,3,30,31,32] Z) ⟨0,PL _,Z,Z,Z⟩ (fun fr aF aH m _ n=>?_);obtain ⟨i,hi,rfl,rfl,rfl⟩:=n;refine Th 1 [1,3,30,31,32,33] Z<|G.cd (fun Y=>?_) fun Y=>?_
 ·have o:i<c.length:=by simpa using Y
  obtain ⟨p,A⟩:∃ p,c[i]?=some p:=⟨c[i],aj o⟩;have B:=d.q p (O0 A);have aa:p ∉ c.take i:=by
   intro hm;obtain ⟨j,v⟩:=Rw hm;rw [Qr] at v;split at v
   ·rename_i aI;have h3:=(aJ.1 v);have h4:=(aJ.1 A);have:=(List.getElem_inj d.nd).1 (h3.2.trans h4.2.symm);omega
   cases v
  have am:I4 (c.take (i+1))=I4 (c.take i++[p]):=by rw [P6,A];rfl
  refine Tl fun R a=>Ty r.m_ U10 om_ (by rw [PH,A];rfl:(c.map gi)[i]?=some (gi p)) fl_ fun aL an=>Tj an U8<|TB U5 fun b5=>Ts (j:=0) U12<|Tn [1,3,5,30,31,32] a Z<|Tl fun R a=>To ag U9<|Tw (fu _ H.m_ (qtx p.1) (qtx p.2) (by have:=bi B.1 dc_;omega) (by have:=bi B.2 dc_;omega)) U7 fl_<|C6 1 [1,3,5,30,31,32,38] a Z<|G.cd (fun L=>?_) fun L=>?_
  ·exfalso;rw [bB (B.1.le dc_),bB (B.2.le dc_)] at L;exact absurd L dc_
  refine Ti 1 Z fun R a=>To ag U9<|Vk kP2 ae Z Z Z Z Z Z Z Z Z (congrArg (lJ (.bool false) false) (Bw aa)) Z Z<|Tn [1,3,5,30,31,32,41] a Z<|G.cd (fun ab=>?_) fun ab=>?_
  ·exact absurd ab dc_
  refine Ti 1 Z fun R a=>To ag U9<|Vd kP2 (j:=1) (key:=ptK p) Z Z Z Z Z Z Z Z Z Z<|Tn [1,3,30,31,32] a Z<|Tl fun R a=>Tq _ Z U6<|C6 1 [1,3,30,31,32] a Z<|Ua 1 Z<|Tz (L':=[.obj K (aV Dw (I4 (c.take (i+1))))]) (by rw [am,<- Mu aa];rfl)<|Tv (m':=c.length-(i+1)) om_ mup (hn_ [1,3,30,31,32] Z) ⟨i+1,om_,Z,Z,Z⟩
 refine Ti 1 Z fun R a=>Tj (PtrTo.block (Mem.get f mup) _) U8<|C6 2 [1,46,47,48] a Z<|G.dropAll<|G.loop (fun fr z g l=>∃ (i:Nat),(i<=b.length)/\fr=[(1,[],.pointer (some ⟨u,0,none⟩)),(46,[],.slice A2 b.length c2),(47,[],.int .i64 b.length),(48,[],.int .i64 i)]/\g=[]/\l=b.length-i) (hn_ [1,46,47,48] Z) ⟨0,PL _,Z,Z,Z⟩ (fun fr aM aN m _ n=>?_);obtain ⟨i,hi,rfl,rfl,rfl⟩:=n;refine Th 1 [1,46,47,48,49] Z<|G.cd (fun M=>?_) fun M=>?_
 ·have o:i<b.length:=by simpa using M
  obtain ⟨t,ht⟩:∃ t,b[i]?=some t:=⟨b[i],aj o⟩;have ac:=O0 ht;have s:=d.ins t ac;have ao:=d.pos t ac;refine Tl fun R a=>Ty x.m_ U10 om_ (by rw [PH,ht];rfl:(b.map fU)[i]?=some (fU t)) fl_ fun aO ap=>Tj ap U8<|TB U5 fun b7=>Ts (j:=0) U12<|Tn [1,7,46,47,48] a Z<|Tl fun R a=>To ag U9<|C6 1 [1,7,46,47,48,52,53] a Z<|G.loop (fun fr z g l=>∃ (j:Nat),(j<=3)/\fr=[(1,[],.pointer (some ⟨u,0,none⟩)),(7,[],.pointer (some ⟨b7,0,none⟩)),(46,[],.slice A2 b.length c2),(47,[],.int .i64 b.length),(48,[],.int .i64 i),(52,[],.agg ⟨fU t⟩),(53,[],.int .i64 j)]/\g=[.obj b7 (.cells ⟨fU t⟩ 65 (0,0))]/\l=3-j) (hn_ [1,7,46,47,48,52,53] Z) ⟨0,PL _,Z,Z,Z⟩ (fun fr aP aQ m aq n=>?_);obtain ⟨j,v,rfl,rfl,rfl⟩:=n;refine Th 1 [1,7,46,47,48,52,53,54] Z<|G.cd (fun N=>?_) fun N=>?_
  ·have ar:j<3:=by
    simp only [PN] at N;omega
   have aR:=eB s j;refine Tl fun R a=>Ud U11 (fun _=>⟨by omega,by omega,(show (fU t)[((j:Nat):Int).toNat]?=some (.int .i64 ((fb t j:Nat):Int)) from by rw [<- oA];exact jf t ar)⟩) U2<|C6 1 [1,7,9,46,47,48,52,53] a Z<|Ti 5 Z fun R a=>TN U6 (fun _=>PtrTo.block (Mem.get f mup) _) U3<|Tm 2 Z<|TQ U8<|Tn [1,7,46,47,48,52,53,64] a Z<|G.cd (fun ad=>?_) fun ad=>?_
   ·exfalso;simp only [Ru,PN] at ad;omega
   refine Tl fun R a=>Tq _ Z U6<|C6 1 [1,7,46,47,48,52,53] a Z<|Tv (m':=3-(j+1)) om_ aq (hn_ [1,7,46,47,48,52,53] Z) ⟨j+1,om_,Z,Z,Z⟩
  clear N;refine TD [0,1,2,3,4,5,6,7,8,9,10,11,12,13,14,15,16,17,18,19] [(18,1)] Z kr_ fun R hB a=>Tk U6<|Tj (PtrTo.block (Mem.get f mup) _) U8<|TE (0) U9 ah U2<|To ag U9<|Ty r.m_ U10 om_ (by rw [PH,show (((t.1:Nat):Int)).toNat=t.1 from Z,pe s.1];rfl:(c.map gi)[(((t.1:Nat):Int)).toNat]?=some (gi (c.getD t.1 (0,0)))) fl_ fun aS au=>Tj au U8<|Tk U6<|Tj (PtrTo.block (Mem.get f mup) _) U8<|TE (1) U9 ah U2<|To ag U9<|Ty r.m_ U10 om_ (by rw [PH,show (((t.2.1:Nat):Int)).toNat=t.2.1 from Z,pe s.2.1];rfl:(c.map gi)[(((t.2.1:Nat):Int)).toNat]?=some (gi (c.getD t.2.1 (0,0)))) fl_ fun aT av=>Tj av U8<|Tk U6<|Tj (PtrTo.block (Mem.get f mup) _) U8<|TE (2) U9 ah U2<|To ag U9<|Ty r.m_ U10 om_ (by rw [PH,show (((t.2.2:Nat):Int)).toNat=t.2.2 from Z,pe s.2.2];rfl:(c.map gi)[(((t.2.2:Nat):Int)).toNat]?=some (gi (c.getD t.2.2 (0,0)))) fl_ fun aU aw=>Tj aw U8<|TG (fun _=>(oz _ H.m_ (c.getD t.1 (0,0)) (c.getD t.2.1 (0,0)) (c.getD t.2.2 (0,0)) 1 dc_ dc_ (d.q _ (AY s.1)) (d.q _ (AY s.2.1)) (d.q _ (AY s.2.2)))) U9<|C6 1 [1,46,47,48,85] a Z<|G.cd (fun O=>?_) fun O=>?_
  ·exfalso;rw [NN,P0 ao] at O;exact absurd O dc_
  refine Tl fun R a=>Tq _ Z U6<|C6 1 [1,46,47,48] a Z<|G.dropAll<|Tv (m':=b.length-(i+1)) om_ mup (hn_ [1,46,47,48] Z) ⟨i+1,om_,Z,Z,Z⟩
 clear M;refine Tl fun R a=>Tj (PtrTo.block (Mem.get f mup) _) U8<|Tw (tf _ H.m_ _ _ c b h0 r.m_ x.m_ d.sides d.ins d.q om_) U7 fl_<|Tn [1,88] a Z<|G.cd (fun Q=>?_) fun Q=>?_
 ·have w:mY c b=true:=Q;exact Th 1 [2] Z<|Tp U2<|⟨by unfold yC;rw [aG h0,aK w],Z⟩
 have w:mY c b=false:=Q;refine Ti 1 Z fun R a=>Tj (PtrTo.block (Mem.get f mup) _) U8<|C6 2 [1,91,92] a Z<|G.loop (fun fr z g l=>∃ (i:Nat),(i<=b.length/\nW i X=false)/\fr=[(1,[],.pointer (some ⟨u,0,none⟩)),(91,[],.int .i64 b.length),(92,[],.int .i64 i)]/\g=[]/\l=b.length-i) (hn_ [1,91,92] Z) ⟨0,⟨PL _,Z⟩,Z,Z,Z⟩ (fun fr aW aX m _ n=>?_);obtain ⟨i,⟨aY,E⟩,rfl,rfl,rfl⟩:=n;refine Th 1 [1,91,92,93] Z<|G.cd (fun S=>?_) fun S=>?_
 ·have o:i<b.length:=by simpa using S
  refine Th 2 [1,10,91,92] Z<|Th 2 [1,10,91,92,95,96] Z<|G.loop (fun fr z g l=>∃ (k:Nat),(k<=i/\(List.range k).any (fun k=>X i k)=false)/\fr=[(1,[],.pointer (some ⟨u,0,none⟩)),(10,[],.int .i64 i),(91,[],.int .i64 b.length),(92,[],.int .i64 i),(95,[],.int .i64 i),(96,[],.int .i64 k)]/\g=[]/\l=i-k) (hn_ [1,10,91,92,95,96] Z) ⟨0,⟨PL _,Z⟩,Z,Z,Z⟩ (fun fr aZ a0 m ax n=>?_);obtain ⟨k,⟨a1,af⟩,rfl,rfl,rfl⟩:=n;refine Th 1 [1,10,91,92,95,96,97] Z<|G.cd (fun T=>?_) fun T=>?_
  ·have F:k<i:=by simpa using T
   refine Th 2 [1,10,11,91,92,95,96] Z<|Tl fun R a=>Tj (PtrTo.block (Mem.get f mup) _) U8<|Tm 2 Z<|Tt (V h0 w _ mup i k o F) U7<|Tn [1,10,91,92,95,96,102] a Z<|G.cd (fun U=>?_) fun U=>?_
   ·have ay:X i k=true:=U;have hc:nW b.length X=true:=Sq.2 ⟨i,PX.2 o,Sq.2 ⟨k,PX.2 F,ay⟩⟩;exact Th 1 [2] Z<|Tp U2<|⟨by unfold yC;rw [aG h0,w,aG dc_,aK hc],Z⟩
   have az:X i k=false:=U;refine Tl fun R a=>Tq _ Z U6<|C6 1 [1,10,91,92,95,96] a Z<|Tv (m':=i-(k+1)) om_ ax (hn_ [1,10,91,92,95,96] Z) ⟨k+1,⟨by omega,by rw [QO,List.any_append,af];simp [az]⟩,Z,Z,Z⟩
  have F:k=i:=by
   have:¬ k<i:=by simpa using T
   omega
  subst F;refine Tl fun R a=>Tq _ Z U6<|C6 1 [1,91,92] a Z<|Tv (m':=b.length-(k+1)) om_ mup (hn_ [1,91,92] Z) ⟨k+1,⟨by omega,by unfold nW at E ⊢;rw [QO,List.any_append,E];simp [af]⟩,Z,Z,Z⟩
 have o:i=b.length:=by
  have:¬ i<b.length:=by simpa using S
  omega
 refine Th 1 [2] Z<|Tp U2<|⟨?_,Z⟩;rw [o] at E;unfold yC;rw [aG h0,w,aG dc_,E];rfl
structure Good (pts:List Pt)(tris:List Tri):Prop where
 ok:MeshOk pts tris
 ne:tris≠[]
 whole:mY pts tris=true
structure MeshIn (C:Mem)(mv:Value)(pts:List Pt)(tris:List Tri):Prop where
 ex:∃ v1 v2,mv=.agg ⟨[v1,v2]⟩/\Sl C 2 v1 (pts.map gi)/\Sl C 3 v2 (tris.map fU)
theorem MeshIn.mono {C D:Mem}{a:Value}{b:List Pt}{c:List Tri}(h:MeshIn C a b c)(d:C.le D):MeshIn D a b c:=by
 obtain ⟨e,f,h1,h2,h3⟩:=h.ex;exact ⟨e,f,h1,h2.mono d,h3.mono d⟩
theorem MeshIn.m_ {D:Mem}{a:Value}{b:List Pt}{c:List Tri}(h:MeshIn C a b c)(d:C.le D:=by exact mup):MeshIn D a b c:=MeshIn.mono h d
def nox:Nat->Nat->Bool:=fun _ _=>false
theorem fA (C:Mem)(f:Tabs C)(d:Value)(a:List Pt)(b:List Tri)(g:MeshIn C d a b)(c:Good a b):Gives cx.P 65 [d] C (.int .i64 0):=by
 obtain ⟨i,j,rfl,h1,h2⟩:=g.ex;have h:=FS C f i j a b nox h1 h2 c.ok (fun _ h3=>by rw [c.whole] at h3;cases h3);have e:yC a b nox=0:=by unfold yC;rw [aG c.ne,aK c.whole]
 rwa [e] at h
def cor (pts:List Pt)(t:Tri)(j:Nat):Pt:=pts.getD (fb t j) (0,0)
def yJ (pts:List Pt)(p:Pt)(t:Tri):Bool:=decide (0<=cK (cor pts t 0) (cor pts t 1) p) && decide (0<=cK (cor pts t 1) (cor pts t 2) p) && decide (0<=cK (cor pts t 2) (cor pts t 0) p)
def jL (pts:List Pt)(tris:List Tri)(p:Pt):List Nat:=(List.range tris.length).filter fun i=>yJ pts p (tris.getD i (0,0,0))
theorem ns {a:List Pt}{b:List Tri}(h:MeshOk a b){t:Tri}(c:t∈b)(j:Nat):QP 1 (cor a t j):=h.q _ (AY (eB (h.ins t c) j))
theorem QP.le {k m:Nat}{p:Pt}(h:QP k p)(a:k<=m):QP m p:=⟨h.1.le a,h.2.le a⟩
theorem sz (C:Mem)(d:Value)(a:List Pt)(b:List Tri)(f:MeshIn C d a b)(g:MeshOk a b)(i:Nat)(t:Tri)(e:b[i]?=some t) :
  Gives cx.P 68 [d,.int .i64 i] C (MW (cor a t 0) (cor a t 1) (cor a t 2)):=by
 obtain ⟨h,j,rfl,h1,h2⟩:=f.ex;have c:=g.ins t (O0 e);exact DC C h j a b i t _ _ _ h1 h2 e (pe c.1) (pe c.2.1) (pe c.2.2)
theorem EZ {p:Pt}(h:QP k p)(a:k<=1000):(qtx p.1).length<=999998/\(qtx p.2).length<=999998:=by
 have h1:=bi (h.1.le (RJ k)) om_;have h2:=bi (h.2.le (RJ k)) om_;exact ⟨by omega,by omega⟩
def PtR (p:Pt):Prop:=aS (qtx p.1)=true/\aS (qtx p.2)=true
theorem ip (C:Mem)(c:Tabs C)(p:Pt)(a:QP 23 p)(b:PtR p):Gives cx.P 66 [ptV p] C (.int .i64 0):=by
 have h:=fu C c (qtx p.1) (qtx p.2) (EZ a dc_).1 (EZ a dc_).2;rw [b.1,b.2] at h;exact h
theorem iX (C:Mem)(f:Tabs C)(A:Value)(c:List Pt)(a:List Tri)(p:Pt)(B:MeshIn C A c a)(E:Good c a)(F:QP 23 p)(g:PtR p) :
  Pur cx.P 18 [A,ptV p] C fun u D=>∃ v,u=.tuple #[v,.int .i64 0]/\Sl D 1 v ((jL c a p).map aT):=by
 have d:=E.ok;have V:=d.lt;have W:maxLen<=9223372036854775807:=by simp [maxLen]
 have h:=B;obtain ⟨X,Y,rfl,h1,h2⟩:=id B.ex;obtain ⟨A1,c1,rfl,aa,ab,_⟩:=id h1;obtain ⟨A2,c2,rfl,ac,ad,_⟩:=id h2;simp only [al] at h1 h2 h ⊢;refine Tr func18 34 U3 fun w0=>Tl fun R b=>TC U6 fun N=>TC U6 fun O=>C6 2 [2,3] b Z<|G.freeze 1 Z fun _ _ k=>G.freeze 0 Z fun _ _ H=>Tl fun R b=>Tj (PtrTo.block (Mem.get k mup) _) U8<|Tt (fA _ f.m_ _ c a h.m_ E) U7<|C6 1 [2,3,6] b Z<|Th 2 [2,3,6,12] Z<|G.cd (fun I=>?_) fun I=>?_
 ·exact absurd I dc_
 refine Tl fun R b=>Tj (PtrTo.block (Mem.get H mup) _) U8<|Tt (ip _ f.m_ p F g) U7<|C6 1 [2,3,16] b Z<|G.cd (fun J=>?_) fun J=>?_
 ·exact absurd J dc_
 refine Th 1 [2,3,7] Z<|Ti 1 Z fun R b=>Tj (PtrTo.block (Mem.get k mup) _) U8<|C6 2 [2,3,7,19,20] b Z<|G.nilArr 3 1<|G.loop (fun fr C' K Q=>∃ (i:Nat)(out:List Nat)(w:Value),(i<=a.length/\out=(List.range i).filter (fun i=>yJ c p (a.getD i (0,0,0))))/\fr=[(2,[],.pointer (some ⟨N,0,none⟩)),(3,[],.pointer (some ⟨O,0,none⟩)),(7,[],w),(19,[],.int .i64 a.length),(20,[],.int .i64 i)]/\K=[.arr w 3 1 out.length (out.map aT).flatten]/\Q=a.length-i) (hn_ [2,3,7,19,20] Z) ⟨0,[],_,⟨PL _,Z⟩,Z,Z,Z⟩ (fun fr ae af m _ S=>?_);obtain ⟨i,out,w,⟨hi,e⟩,rfl,rfl,rfl⟩:=S;refine Th 1 [2,3,7,19,20,21] Z<|G.cd (fun l=>?_) fun l=>?_
 ·have n:i<a.length:=by simpa using l
  obtain ⟨t,o⟩:∃ t,a[i]?=some t:=⟨a[i],aj n⟩;have q:=O0 o;have L:a.getD i (0,0,0)=t:=by rw [ax,o];rfl
  have ag:out.length<=i:=by
   rw [e];exact PV (Rc _ _) am
  refine Th 2 [2,3,7,8,19,20] Z<|TD [0,1,2,3,4] [(2,1),(4,1)] Z kr_ fun R hB b=>Tj (PtrTo.block (Mem.get k mup) _) U8<|Tk U6<|TU (fun _=>(sz _ _ c a h.m_ d i t o)) U9<|Tj (PtrTo.block (Mem.get H mup) _) U8<|TG (fun _=>(Gg _ f.m_ (cor c t 0) (cor c t 1) (cor c t 2) p 23 dc_ dc_ ((ns d q 0).le dc_) ((ns d q 1).le dc_) ((ns d q 2).le dc_) F)) U9<|Tn [2,3,7,8,19,20,27] b Z<|G.cd (fun s=>?_) fun s=>?_
  ·have x:yJ c p t=true:=s;have z:(List.range (i+1)).filter (fun i=>yJ c p (a.getD i (0,0,0)))=out++[i]:=by rw [QO,Q8,<- e,List.filter_cons,L,x];rfl
   refine Ti 2 Z fun R b=>TF [aT i] U12 fun ah _ _ T=>D.append (j:=0) U11 T Z aw (by simp only [PD];omega) fl_ fun M=>C6 1 [2,3,7,19,20] b Z<|Tl fun R b=>Tq _ Z U6<|C6 1 [2,3,7,19,20] b Z<|Tz (L':=[.arr M 3 1 (out++[i]).length ((out++[i]).map aT).flatten]) (by simp [aT])<|Tv (m':=a.length-(i+1)) om_ mup (hn_ [2,3,7,19,20] Z) ⟨i+1,out++[i],M,⟨by omega,z.symm⟩,Z,Z,Z⟩
  have x:yJ c p t=false:=s;have z:(List.range (i+1)).filter (fun i=>yJ c p (a.getD i (0,0,0)))=out:=by rw [QO,Q8,<- e,List.filter_cons,L,x];simp
  refine Tl fun R b=>Tq _ Z U6<|C6 1 [2,3,7,19,20] b Z<|Tv (m':=a.length-(i+1)) om_ mup (hn_ [2,3,7,19,20] Z) ⟨i+1,out,w,⟨by omega,z.symm⟩,Z,Z,Z⟩
 have n:i=a.length:=by
  have:¬ i<a.length:=by simpa using l
  omega
 refine Th 3 [4,5] Z<|G.freezeArr 0 (out.map aT) rfl rfl (by intro r g;obtain ⟨y,_,rfl⟩:=PK.1 g;rfl) am fun Cg hg U=>Tu (G.dropAll (TM U3 ?_));refine ⟨Z,_,Z, ?_⟩;rw [n] at e;unfold jL;rw [<- e];exact U
theorem qo (C:Mem)(g:Tabs C)(d:Value)(a:List Pt)(b:List Tri)(p:Pt)(e:MeshIn C d a b)(h:Good a b)(i:QP 23 p)(j:PtR p) :
  Gives cx.P 117 [d,ptV p] C (.tuple #[.bool (decide (jL a b p≠[])),.int .i64 0]):=by
 have k:=e;obtain ⟨n,o,rfl,h1,h2⟩:=id e.ex;refine Tr func117 18 U3 fun w0=>Tl fun R c=>TC U6 fun q=>TC U6 fun r=>C6 2 [2,3] c Z<|Tl fun R c=>To ae U9<|To ag U9<|TT (iX _ g.m_ _ a b p k.m_ h i j) U7 (fun s _ _ l=>?_);obtain ⟨t,rfl,m⟩:=l;obtain ⟨u,v,f,_⟩:=id m;rw [al] at f;subst f;refine C6 5 [6,7] c Z<|Th 6 [4,5] Z<|Tu (G.dropAll (TM U3 ?_));refine ⟨?_,Z⟩;have:decide (((jL a b p).length:Int) > 0)=decide (jL a b p≠[]):=by
  rw [Qy,<- Qq];omega
 rw [<- this]
theorem zk (C:Mem)(j:Tabs C)(d:Value)(c:List Pt)(b:List Tri)(i:Nat)(e:MeshIn C d c b)(k:Good c b)(l:i<b.length) :
  Gives cx.P 69 [d,.int .i64 i] C (.int .i64 0):=by
 have f:=e;obtain ⟨m,n,rfl,h1,h2⟩:=id e.ex;obtain ⟨A2,c2,rfl,o,p,_⟩:=id h2;simp only [al] at h1 h2 f ⊢;refine Tr func69 20 U3 fun w0=>Tl fun R a=>TC U6 fun q=>C6 1 [1,2] a Z<|Tl fun R a=>To ag U9<|Tt (fA _ j.m_ _ c b f.m_ k) U7<|C6 1 [1,2,5] a Z<|Th 2 [1,2,5,9] Z<|G.cd (fun g=>?_) fun g=>?_
 ·exact absurd g dc_
 refine Ti 5 Z fun R a=>To ag U9<|Tm 2 Z<|TQ U8<|Tn [19] a Z<|G.cd (fun h=>?_) fun h=>?_
 ·exfalso;simp only [Ru,PN] at h;omega
 exact Th 1 [4] Z<|Tp U2<|⟨Z,Z⟩
def wgt (pts:List Pt)(t:Tri)(p:Pt)(j:Nat):Rat:=cK p (cor pts t ((j+1) % 3)) (cor pts t ((j+2) % 3)) / cK (cor pts t 0) (cor pts t 1) (cor pts t 2)
theorem ic {a:List Pt}{b:List Tri}(c:MeshOk a b){t:Tri}(d:t∈b):cK (cor a t 0) (cor a t 1) (cor a t 2)≠0:=by
 have h:=c.pos t d;intro e;have f:cK (a.getD t.1 (0,0)) (a.getD t.2.1 (0,0)) (a.getD t.2.2 (0,0))=0:=e;rw [f] at h;exact absurd h dc_
theorem oM (C:Mem)(g:Tabs C)(x:Value)(c:List Pt)(h:List Tri)(p:Pt)(i:Nat)(t:Tri)(y:MeshIn C x c h)(z:Good c h)(l:QP 23 p)(O:PtR p)(o:h[i]?=some t)(q:∀ j,QB 22 (wgt c t p j)) :
  Gives cx.P 19 [x,.int .i64 i,ptV p] C (.tuple #[.agg ⟨[af (qtx (wgt c t p 0)),af (qtx (wgt c t p 1)),af (qtx (wgt c t p 2))]⟩,.int .i64 0]):=by
 have r:=z.ok;have A:=O0 o;have Q:=(aJ.1 o).1;have B:=y;obtain ⟨v1,v2,rfl,h1,h2⟩:=id y.ex;have e:=fun j=>(ns r A j).le (show 1<=23 by decide);have s:=ic r A;have u:∀ a b,QP 23 a->QP 23 b->QB 189 (cK p a b):=fun a b S T=>(zx l S T).le dc_;have v:QB 189 (cK (cor c t 0) (cor c t 1) (cor c t 2)):=(zx (e 0) (e 1) (e 2)).le dc_;refine Tr func19 69 U3 fun w0=>Tl fun R d=>TC U6 fun b3=>TC U6 fun U=>TB U5 fun D=>C6 1 [1,3,5,6] d Z<|G.freeze 2 Z fun _ _ E=>G.freeze 1 Z fun _ _ n=>Tl fun R d=>Tj (PtrTo.block (Mem.get E mup) _) U8<|Tk U6<|Tt (zk _ g.m_ _ c h i B.m_ z Q) U7<|C6 1 [1,3,5,6,8] d Z<|Th 2 [1,3,5,6,8,18] Z<|G.cd (fun F=>?_) fun F=>?_
 ·exact absurd F dc_
 refine Tl fun R d=>Tj (PtrTo.block (Mem.get n mup) _) U8<|Tt (ip _ g.m_ p l O) U7<|C6 1 [1,3,5,6,23] d Z<|G.cd (fun H=>?_) fun H=>?_
 ·exact absurd H dc_
 refine Tl fun R d=>Tj (PtrTo.block (Mem.get E mup) _) U8<|Tk U6<|Tt (sz _ _ c h B.m_ r i t o) U7<|TB U5 fun V=>Ts (j:=0) U12<|Tn [5,6,9] d Z<|G.freeze 0 Z fun _ _ f=>Tl fun R d=>TB U5 fun I=>Tn [5,6,9,10] d Z<|Th 1 [5,6,9,10,28] Z<|G.loop (fun fr C' W X=>∃ (j:Nat),(j<=3)/\fr=[(5,[],.pointer (some ⟨U,0,none⟩)),(6,[],.pointer (some ⟨D,0,none⟩)),(9,[],.pointer (some ⟨V,0,none⟩)),(10,[],.pointer (some ⟨I,0,none⟩)),(28,[],.int .i64 j)]/\W=[.obj I (.cells ⟨(List.range 3).map fun k=>if k<j then af (qtx (wgt c t p k)) else af []⟩ 61 (0,0)),.obj D (.cells ⟨[af [],af [],af []]⟩ 61 (0,0))]/\X=3-j) (hn_ [5,6,9,10,28] Z) ⟨0,PL _,Z,Z,Z⟩ (fun fr aa ab m _ Y=>?_);obtain ⟨j,hj,rfl,rfl,rfl⟩:=Y;refine Th 1 [5,6,9,10,28,29] Z<|G.cd (fun w=>?_) fun w=>?_
 ·have J:j<3:=by
   simp only [PN] at w;omega
  rcases (by omega:j=0∨j=1∨j=2) with rfl | rfl | rfl
  ·refine Th 2 [5,6,9,10,11,28] Z<|TD [0,1,2,3,4,5,6,7,8,9,10,11,12,13,14,15,16,17,18,19,20,21,22,23,24,25] [(12,1),(19,1),(20,1)] Z kr_ fun R K d=>Tk U6<|Tj (PtrTo.block (Mem.get n mup) _) U8<|Tk U6<|Tq _ Z U6<|Uw U6 om_ om_ U2<|TE (_) U9 ah U2<|Tj (bkT f 2) U8<|Tk U6<|Tq _ Z U6<|Uw U6 om_ om_ U2<|TE (_) U9 ah U2<|Tj (bkT f 2) U8<|TG (fun _=>(kS _ g.m_ p (cor c t ((0+1) % 3)) (cor c t ((0+2) % 3)) 23 dc_ dc_ l (e _) (e _))) U9<|TE (0) U9 ah U2<|Tj (bkT f 2) U8<|TE (2) U9 ah U2<|Tj (bkT f 2) U8<|TE (4) U9 ah U2<|Tj (bkT f 2) U8<|TG (fun _=>(kS _ g.m_ (cor c t 0) (cor c t 1) (cor c t 2) 23 dc_ dc_ (e 0) (e 1) (e 2))) U9<|TG (fun _=>(gK _ g.m_ _ _ 189 dc_ dc_ (u _ _ (e _) (e _)) v s)) U9<|Tm 3 Z<|TE (_) U9 ah U2<|Ts (j:=0) U12<|Tn [5,6,9,10,11,28] d Z<|Ti 1 Z fun R d=>TE (_) U9 ah U2<|To ag U9<|Tt (tD _ g.m_ (wgt c t p 0) (q 0)) U7<|C6 5 [5,6,9,10,13,28] d Z<|Th 2 [5,6,9,10,13,28,64] Z<|G.cd (fun L=>?_) fun L=>?_
   ·exact absurd L dc_
   refine Tl fun R d=>Tq _ Z U6<|C6 1 [5,6,9,10,28] d Z<|Tv (m':=2) om_ mup (hn_ [5,6,9,10,28] Z) ⟨1,by decide,Z,Z,Z⟩
  ·refine Th 2 [5,6,9,10,11,28] Z<|TD [0,1,2,3,4,5,6,7,8,9,10,11,12,13,14,15,16,17,18,19,20,21,22,23,24,25] [(12,1),(19,1),(20,1)] Z kr_ fun R K d=>Tk U6<|Tj (PtrTo.block (Mem.get n mup) _) U8<|Tk U6<|Tq _ Z U6<|Uw U6 om_ om_ U2<|TE (_) U9 ah U2<|Tj (bkT f 2) U8<|Tk U6<|Tq _ Z U6<|Uw U6 om_ om_ U2<|TE (_) U9 ah U2<|Tj (bkT f 2) U8<|TG (fun _=>(kS _ g.m_ p (cor c t ((1+1) % 3)) (cor c t ((1+2) % 3)) 23 dc_ dc_ l (e _) (e _))) U9<|TE (0) U9 ah U2<|Tj (bkT f 2) U8<|TE (2) U9 ah U2<|Tj (bkT f 2) U8<|TE (4) U9 ah U2<|Tj (bkT f 2) U8<|TG (fun _=>(kS _ g.m_ (cor c t 0) (cor c t 1) (cor c t 2) 23 dc_ dc_ (e 0) (e 1) (e 2))) U9<|TG (fun _=>(gK _ g.m_ _ _ 189 dc_ dc_ (u _ _ (e _) (e _)) v s)) U9<|Tm 3 Z<|TE (_) U9 ah U2<|Ts (j:=0) U12<|Tn [5,6,9,10,11,28] d Z<|Ti 1 Z fun R d=>TE (_) U9 ah U2<|To ag U9<|Tt (tD _ g.m_ (wgt c t p 1) (q 1)) U7<|C6 5 [5,6,9,10,13,28] d Z<|Th 2 [5,6,9,10,13,28,64] Z<|G.cd (fun M=>?_) fun M=>?_
   ·exact absurd M dc_
   refine Tl fun R d=>Tq _ Z U6<|C6 1 [5,6,9,10,28] d Z<|Tv (m':=1) om_ mup (hn_ [5,6,9,10,28] Z) ⟨2,by decide,Z,Z,Z⟩
  refine Th 2 [5,6,9,10,11,28] Z<|TD [0,1,2,3,4,5,6,7,8,9,10,11,12,13,14,15,16,17,18,19,20,21,22,23,24,25] [(12,1),(19,1),(20,1)] Z kr_ fun R K d=>Tk U6<|Tj (PtrTo.block (Mem.get n mup) _) U8<|Tk U6<|Tq _ Z U6<|Uw U6 om_ om_ U2<|TE (_) U9 ah U2<|Tj (bkT f 2) U8<|Tk U6<|Tq _ Z U6<|Uw U6 om_ om_ U2<|TE (_) U9 ah U2<|Tj (bkT f 2) U8<|TG (fun _=>(kS _ g.m_ p (cor c t ((2+1) % 3)) (cor c t ((2+2) % 3)) 23 dc_ dc_ l (e _) (e _))) U9<|TE (0) U9 ah U2<|Tj (bkT f 2) U8<|TE (2) U9 ah U2<|Tj (bkT f 2) U8<|TE (4) U9 ah U2<|Tj (bkT f 2) U8<|TG (fun _=>(kS _ g.m_ (cor c t 0) (cor c t 1) (cor c t 2) 23 dc_ dc_ (e 0) (e 1) (e 2))) U9<|TG (fun _=>(gK _ g.m_ _ _ 189 dc_ dc_ (u _ _ (e _) (e _)) v s)) U9<|Tm 3 Z<|TE (_) U9 ah U2<|Ts (j:=0) U12<|Tn [5,6,9,10,11,28] d Z<|Ti 1 Z fun R d=>TE (_) U9 ah U2<|To ag U9<|Tt (tD _ g.m_ (wgt c t p 2) (q 2)) U7<|C6 5 [5,6,9,10,13,28] d Z<|Th 2 [5,6,9,10,13,28,64] Z<|G.cd (fun N=>?_) fun N=>?_
  ·exact absurd N dc_
  refine Tl fun R d=>Tq _ Z U6<|C6 1 [5,6,9,10,28] d Z<|Tv (m':=0) om_ mup (hn_ [5,6,9,10,28] Z) ⟨3,by decide,Z,Z,Z⟩
 have J:j=3:=by
  simp only [P7] at w;omega
 subst J;refine Tl fun R d=>To ag U9<|Ts (j:=1) U12<|C6 1 [6,7] d Z<|Tu (UC ag U5 ?_);exact ⟨Z,Z⟩
end Go.Proofs.YtfjcldheldflbaaGreatDoor
