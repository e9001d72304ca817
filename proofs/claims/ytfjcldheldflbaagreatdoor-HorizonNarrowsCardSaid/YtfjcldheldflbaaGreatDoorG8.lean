/- Laws that the proofs of this seat share, part 8. -/
import Derived.Test.YtfjcldheldflbaaGreatDoorG7
import Derived.Test.YtfjcldheldflbaaGreatDoorShelf
import Derived.RangeFuncBox
import Derived.RangeFuncLeaves
import Derived.Shelf.Abstract
import Derived.WalkKit
import Derived.OwnWalkIn
import Derived.TacticsInMore
import Derived.LoopNIn
import Derived.LoopIn
import Derived.Stop.RegionWithIn
import Derived.Test.YtfjcldheldflbaaGreatDoorProg
set_option maxHeartbeats 4000000
namespace Go.Proofs.YtfjcldheldflbaaGreatDoor
open Go.Proofs.Tryz
open Go Go.Jog
set_option maxRecDepth 100000
variable {C:Mem}{cyc:List Nat}{i k n:Nat}{q:Rat}{s:Str}
theorem rM {m:Nat}(h:n<B9 ^ m)(a:m<=88):n<BP ^ 200:=by
 rw [PR];rw [pow9] at h;exact RI h (QZ (n:=10) (i:=9*m) (j:=800) dc_ om_)
theorem zZ (C:Mem)(s:Str)(b:9<s.length):Gives cx.P 107 [af s] C (.tuple #[.int .i64 0,.int .i64 0,.bool false]):=by
 refine Ur func107 57 U3 fun w0=>Uh 3 [0,2] Z<|Uh 3 [0,2,9] Z<|G.cd (fun a=>?_) fun a=>?_
 ·refine Uh 3 [2,3,4] Z<|Uv (G.dropAll (Vi U4 ?_));exact ⟨Z,Z⟩
 exfalso;have h:¬ (9:Int)<((s.length:Nat):Int):=QF a;omega
theorem CR (C:Mem)(q:Rat):Gives cx.P 107 [af (qtx q)] C (.tuple #[.int .i64 (if (qtx q).length<=9 then q.num else 0),.int .i64 (if (qtx q).length<=9 then ((q.den:Nat):Int) else 0),.bool (decide ((qtx q).length<=9))]):=by
 by_cases h:(qtx q).length<=9
 ·rw [aJ h,aJ h,QV h];have h2:=Em C (decide (q.num<0)) (bj q.num.natAbs) (mE q.den) (iz _) (nA _) (CC _) h;unfold LS at h2;rw [(bk _).2,mD] at h2;have e:sgZ (decide (q.num<0)) q.num.natAbs=q.num:=by
   unfold sgZ;by_cases h:q.num<0
   ·rw [QV h,aJ rfl];omega
   rw [Q6 h,aF dc_];omega
  rw [e] at h2;exact h2
 rw [aF h,aF h,Q6 h];exact zZ C _ om_
theorem Bu (h:(qtx q).length<=9):q.num.natAbs<1000000000/\q.den<1000000000:=by
 refine kY ?_;unfold Cu LI;unfold qtx at h;rw [QG,QG] at h;have h2:((mE q.den).getD []).length<=(df (mE q.den)).length:=by
  cases mE q.den with
  | none=>exact Qz _
  | some b=>simp [df]
 rw [QV om_,QV om_];rfl
theorem BT (C:Mem)(q:Rat)(a:(qtx q).length<1000000):Gives cx.P 109 [af (qtx q)] C (.tuple #[af (txt q.num),af (txt ((q.den:Nat):Int))]):=by
 have h:=Gc C (qtx q) a
 rwa [mH,zL,<- cW] at h
theorem Jr (C:Mem)(f:Tabs C)(a b:Rat)(k:Nat)(l:0<k)(u:k<=40)(d:QB k a)(e:QB k b):Gives cx.P 49 [af (qtx a),af (qtx b)] C (af (qtx (a+b))):=by
 have v:=bg d l;have w:=bg e l;have p:=fJ a;have q:=fJ b;have m:0<a.den*b.den:=S8 p q;refine Ur func49 61 U3 fun w0=>Uh 1 [0,1] Z<|Ui 1 Z fun R c=>Ut (CR _ a) U7<|C6 7 [0,1,5,6,7] c Z<|Uh 1 [0,1,5,6,21] Z<|G.cut (fun fr x r s=>(True)/\fr=[(0,[],af (qtx a)),(1,[],af (qtx b))]/\r=[]) ?_ (fun fr _ y s _ t=>?_)
 ·refine G.cd (fun n=>?_) fun n=>?_
  ·have g:=PZ n;rw [aJ g,aJ g];have h:=Bu g;refine Ui 1 Z fun R c=>Ut (CR _ b) U7<|C6 7 [0,1,5,6,8,9,10] c Z<|Uh 1 [0,1,5,6,8,9,28] Z<|G.cd (fun o=>?_) fun o=>?_
   ·have i:=PZ o;rw [aJ i,aJ i];have j:=Bu i;have z:=jQ h.1 j.2;have A:=jQ j.1 h.2;have B:=pR h.2 j.2;exact Ui 2 Z fun R c=>Uq _ Z U6<|Um 2 Z<|Uq _ Z U6<|Uq _ Z U6<|Um 2 Z<|Uq (((a.den*b.den:Nat):Int)) (Ra _ _).symm U6<|Uu (DS _ f.m_ _ _ m om_ om_) U7 fl_<|C6 1 [4] c Z<|Up U2<|⟨by rw [fC],Z⟩
   refine Ux 0 (Mem.le.refl _) (hn_ [0,1] Z) ⟨trivial,Z,Z⟩
  refine Ux 0 (Mem.le.refl _) (hn_ [0,1] Z) ⟨trivial,Z,Z⟩
 obtain ⟨_,rfl,rfl⟩:=t;exact Ui 1 Z fun R c=>Uu (BT _ a om_) U7 fl_<|C6 5 [1,11,12] c Z<|Ui 1 Z fun R c=>Uu (BT _ b om_) U7 fl_<|C6 5 [11,12,13,14] c Z<|Ui 2 Z fun R c=>Uu (kS _ f.m_ _ _ (rM d.1 om_) (rM (lf e) om_)) U7 fl_<|Um 2 Z<|Uu (kS _ f.m_ _ _ (rM e.1 om_) (rM (lf d) om_)) U7 fl_<|Uu (Ex _ f.m_ _ _ (rM (cU d.1 (lf e)) om_) (rM (cU e.1 (lf d)) om_)) U7 fl_<|Um 2 Z<|Uu (kS _ f.m_ _ _ (rM (lf d) om_) (rM (lf e) om_)) U7 fl_<|Uu (qD _ f.m_ _ _ (rM (Rw (Tm _ _) (tW (cU d.1 (lf e)) (cU e.1 (lf d)))) om_) (rM (cU (lf d) (lf e)) om_) (by rw [<- Ra];omega)) U7 fl_<|C6 1 [4] c Z<|Up U2<|⟨by rw [fC,<- Ra,ve m],Z⟩
theorem Jg (C:Mem)(e:Tabs C)(a b:Rat)(k:Nat)(c:0<k)(f:k<=40)(g:QB k a)(d:QB k b):Gives cx.P 84 [af (qtx a),af (qtx b)] C (af (qtx (a-b))):=by
 have i:=bg d c;exact Ur func84 9 U3 fun w0=>Uh 1 [0,1] Z<|Ui 2 Z fun R h=>Uu (Nm _ b om_) U7 fl_<|Ut (Jr _ e.m_ a (-b) k c f g (eR d)) U7<|C6 1 [4] h Z<|Up U2<|⟨by rw [TJ],Z⟩
theorem uk (q:Rat):q.num<0 ↔ q<0:=by
 rw [Rat.lt_iff];simp
theorem Mx (a b:Rat):eH (a-b).num=jt a b:=by
 have h1:(a-b).num<0 ↔ a<b:=by rw [uk];grind
 have h2:(a-b).num=0 ↔ a=b:=by rw [Tj];grind
 unfold eH jt;by_cases h:a<b
 ·rw [aJ (h1.2 h),aJ h]
 rw [aF (fun e=>h (h1.1 e)),aF h];by_cases h3:a=b
 ·rw [aJ (h2.2 h3),aF (by rw [h3];exact Rat.lt_irrefl)]
 rw [aF (fun e=>h3 (h2.1 e)),aJ (by grind)]
theorem gi (C:Mem)(e:Tabs C)(a b:Rat)(k:Nat)(f:0<k)(g:k<=40)(c:QB k a)(d:QB k b):Gives cx.P 29 [af (qtx a),af (qtx b)] C (.int .i64 (jt a b)):=by
 exact Ur func29 9 U3 fun w0=>Uh 1 [0,1] Z<|Ui 2 Z fun R h=>Ut (Jg _ e.m_ a b k f g c d) U7<|Uu (I2 _ (a-b) (by have:=bg (kF c d) om_;omega)) U7 fl_<|C6 1 [4] h Z<|Up U2<|⟨by rw [Mx],Z⟩
theorem wR {z:Int}(h:(bj z.natAbs).length<=200):cH (txt z)=true:=by
 refine sa.2 ?_;rw [dJ];refine ⟨zg.2 ⟨(bk _).1,h⟩,fun a=>?_⟩;have h1:=PZ a;show 0<bP (bj z.natAbs);rw [(bk _).2];omega
theorem CD (z:Int):iN (txt z)=z:=by
 unfold iN;rw [dJ];show sgZ (decide (z<0)) (bP (bj z.natAbs))=z;rw [(bk _).2];unfold sgZ;by_cases h:z<0
 ·rw [QV h,aJ rfl];omega
 rw [Q6 h,aF dc_];omega
theorem bi (h:QB 22 q):aW (qtx q)=true:=by
 have h1:(bj q.num.natAbs).length<=200:=by have:=bY h.1 dc_;omega
 have h2:(bj q.den).length<=200:=by have:=bY h.2 dc_;omega
 unfold aW;rw [mH];show (cH (txt q.num) && cH ((mE q.den).getD [49]) && pu (iN (txt q.num)) (mE q.den))=true;rw [zL,CD,wR h1,<- cW,wR (by rw [Rp];exact h2),TT,TT];by_cases a:q.den=1
 ·rw [jY a];rfl
 rw [eN a];unfold pu;show (decide (1<iN (bj q.den)) && !(q.num == 0) && (Nat.gcd q.num.natAbs (iN (bj q.den)).natAbs == 1))=true;have b:iN (bj q.den)=((q.den:Nat):Int):=by rw [<- cW,CD]
 have d:=fJ q;rw [b,QV om_,Rp,show Nat.gcd q.num.natAbs q.den=1 from q.reduced];have c:q.num≠0:=by
  intro e;have h3:=q.reduced;rw [e] at h3;have h4:Nat.gcd 0 q.den=1:=h3;rw [Nat.gcd_zero_left] at h4;exact a h4
 simp [c]
theorem ym (h:QB 22 q):oC (aW (qtx q))=0:=by rw [bi h];rfl
abbrev Pt:=Rat × Rat
def gl (p:Pt):List Value:=[af (qtx p.1),af (qtx p.2)]
def ptV (p:Pt):Value:=.agg ⟨gl p⟩
def QP (k:Nat)(p:Pt):Prop:=QB k p.1/\QB k p.2
def cj (a b c:Pt):Rat:=(b.1-a.1)*(c.2-a.2)-(b.2-a.2)*(c.1-a.1)
theorem ff (b:Bool):oC b=0/\b=true∨oC b=2/\b=false:=by cases b <;> simp [oC]
def eA (s:Str):List Value:=[af s]
theorem so (C:Mem)(h:Tabs C)(v:Value)(l:List Str)(c:Sl C 1 v (l.map eA))(j:∀ s∈l,s.length<=999998):Gives cx.P 132 [v] C (.int .i64 (oC (l.all aW))):=by
 obtain ⟨k,c0,rfl,n,w,_⟩:=id c;have x:maxLen<=9223372036854775807:=by simp [maxLen]
 simp only [ar] at c n ⊢;refine Ur func132 18 U3 fun w0=>Uh 1 [0] Z<|Uh 3 [6,7,8] Z<|G.loop (fun fr y o p=>∃ (i:Nat),(i<=l.length/\(l.take i).all aW=true)/\fr=[(6,[],.slice k l.length c0),(7,[],.int .i64 l.length),(8,[],.int .i64 i)]/\o=[]/\p=l.length-i) (hn_ [6,7,8] Z) ⟨0,⟨QH _,by simp⟩,Z,Z,Z⟩ (fun fr z A m q r=>?_);obtain ⟨i,⟨B,d⟩,rfl,rfl,rfl⟩:=r;refine Uh 1 [6,7,8,9] Z<|G.cd (fun e=>?_) fun e=>?_
 ·have f:i<l.length:=by simpa using e
  obtain ⟨s,hs⟩:∃ s,l[i]?=some s:=⟨l[i],aj f⟩;refine Ul fun R a=>Uy c.m_ U10 om_ (by rw [QD,hs];rfl:(l.map eA)[i]?=some (eA s)) fl_ fun D t=>Uj t U8<|C6 1 [4,6,7,8] a Z<|Ui 1 Z fun R a=>Ut (dE _ h.m_ s (j s (aX hs))) U7<|C6 1 [5,6,7,8] a Z<|Uh 2 [5,6,7,8,15] Z<|G.cd (fun b=>?_) fun b=>?_
  ·have g:aW s=false:=by
    rcases ff (aW s) with ⟨h1,h2⟩ | ⟨h1,h2⟩
    ·rw [h1] at b;exact absurd b dc_
    exact h2
   refine Uh 2 [2] Z<|Up U2<|⟨?_,Z⟩;rw [g,show l.all aW=false from Tn.2 ⟨s,aX hs,by rw [g];decide⟩]
  have u:aW s=true:=by
   rcases ff (aW s) with ⟨h1,h2⟩ | ⟨h1,h2⟩
   ·exact h2
   rw [h1] at b;exact absurd b dc_
  refine Ul fun R a=>Uq _ Z U6<|C6 1 [6,7,8] a Z<|Uw (m':=l.length-(i+1)) om_ q (hn_ [6,7,8] Z) ⟨i+1,⟨by omega,by rw [Q4,hs,T8,d];simp [u]⟩,Z,Z,Z⟩
 have f:i=l.length:=by
  have:¬ i<l.length:=by simpa using e
  omega
 refine Uh 1 [2] Z<|Up U2<|⟨?_,Z⟩;rw [f,QM] at d;rw [d];rfl
theorem OG {t:Str}(a:s.length<=n)(b:t.length<=n):∀ x∈[s,t],x.length<=n:=by simp [a,b]
theorem IN {t u:Str}(a:s.length<=n)(b:t.length<=n)(c:u.length<=n):∀ x∈[s,t,u],x.length<=n:=by simp [a,b,c]
theorem iG (C:Mem)(b:Tabs C)(s t:Str)(c:s.length<=999998)(d:t.length<=999998):Gives cx.P 66 [.agg ⟨[af s,af t]⟩] C (.int .i64 (oC (aW s && aW t))):=by
 refine Ur func66 9 U3 fun w0=>Ul fun R a=>UC U6 fun f=>C6 1 [1] a Z<|Ui 1 Z fun R a=>Uo ag U9<|Uk U6<|Uo ag U9<|UF [eA s,eA t] U12 fun g _ _ e=>Ut (so _ b.m_ _ [s,t] e.m_ (OG c d)) U7<|C6 1 [2] a Z<|Up U2<|⟨?_,Z⟩;simp
theorem rL (C:Mem)(b:Tabs C)(s t u:Str)(c:s.length<=999998)(d:t.length<=999998)(e:u.length<=999998):Gives cx.P 319 [.agg ⟨[af s,af t,af u]⟩] C (.int .i64 (oC (aW s && aW t && aW u))):=by
 refine Ur func319 11 U3 fun w0=>Ul fun R a=>UC U6 fun g=>C6 1 [1] a Z<|Ui 1 Z fun R a=>Uo ag U9<|Uk U6<|Uo ag U9<|Uk U6<|Uo ag U9<|UF [eA s,eA t,eA u] U12 fun h _ _ f=>Ut (so _ b.m_ _ [s,t,u] f.m_ (IN c d e)) U7<|C6 1 [2] a Z<|Up U2<|⟨?_,Z⟩;simp [Bool.and_assoc]
theorem li (C:Mem)(e:Tabs C)(a b c:Pt)(k:Nat)(g:0<k)(l:k<=1000)(d:QP k a)(h:QP k b)(i:QP k c):Gives cx.P 71 [ptV a,ptV b,ptV c] C (af (qtx (cj a b c))):=by
 have h1:=kF h.1 d.1;have h2:=kF i.2 d.2;have h3:=kF h.2 d.2;have h4:=kF i.1 d.1;exact Ur func71 32 U3 fun w0=>Ul fun R f=>UC U6 fun m=>UC U6 fun n=>UC U6 fun o=>C6 1 [3,4,5] f Z<|UD [0,1,2,3,4,5,6,7,8,9,10,11] [(4,1),(9,1),(10,1)] Z kr_ fun R j f=>Uk U6<|Uo ae U9<|Uk U6<|Uo ac U9<|UG (fun _=>(er _ e.m_ b.1 a.1 k g om_ h.1 d.1)) U9<|Uk U6<|Uo ag U9<|Uk U6<|Uo ac U9<|UG (fun _=>(er _ e.m_ c.2 a.2 k g om_ i.2 d.2)) U9<|UG (fun _=>(dm _ e.m_ (b.1-a.1) (c.2-a.2) (k+k+1) om_ om_ h1 h2)) U9<|C6 1 [3,4,5,7] f Z<|UD [0,1,2,3,4,5,6,7,8,9,10,11,12,13] [(5,1),(10,1),(11,1),(12,1)] Z kr_ fun R j f=>Um 2 Z<|Uo ae U9<|Uk U6<|Uo ac U9<|UG (fun _=>(er _ e.m_ b.2 a.2 k g om_ h.2 d.2)) U9<|Uk U6<|Uo ag U9<|Uk U6<|Uo ac U9<|UG (fun _=>(er _ e.m_ c.1 a.1 k g om_ i.1 d.1)) U9<|UG (fun _=>(dm _ e.m_ (b.2-a.2) (c.1-a.1) (k+k+1) om_ om_ h3 h4)) U9<|UG (fun _=>(er _ e.m_ ((b.1-a.1)*(c.2-a.2)) ((b.2-a.2)*(c.1-a.1)) (k+k+1+(k+k+1)) om_ om_ (rn h1 h2) (rn h3 h4))) U9<|C6 1 [6] f Z<|Up U2<|⟨Z,Z⟩
theorem Am {a b c:Pt}(d:QP k a)(e:QP k b)(f:QP k c):QB (8*k+5) (cj a b c):=by
 have h:=kF (rn (kF e.1 d.1) (kF f.2 d.2)) (rn (kF e.2 d.2) (kF f.1 d.1));exact h.le om_
theorem oU (C:Mem)(h:Tabs C)(a b c:Pt)(k:Nat)(i:0<k)(j:k<=1000)(e:QP k a)(f:QP k b)(g:QP k c):Gives cx.P 129 [ptV a,ptV b,ptV c] C (.int .i64 (eH (cj a b c).num)):=by
 exact Ur func129 12 U3 fun w0=>Ul fun R d=>UC U6 fun l=>UC U6 fun m=>UC U6 fun n=>C6 1 [3,4,5] d Z<|Ul fun R d=>Uo ac U9<|Uo ae U9<|Uo ag U9<|Ut (li _ h.m_ a b c k i j e f g) U7<|Uu (gd _ (cj a b c) (by have:=bg (Am e f g) om_;omega)) U7 fl_<|C6 1 [6] d Z<|Up U2<|⟨Z,Z⟩
theorem ug (C:Mem)(c:Tabs C)(q:Rat)(b:QB 22 q):Gives cx.P 72 [af (qtx q)] C (.tuple #[af (qtx q),.int .i64 0]):=by
 refine Ur func72 8 U3 fun w0=>Uh 2 [0] Z<|Ui 1 Z fun R d=>Uu (dE _ c.m_ _ (by have:=bg b dc_;omega)) U7 fl_<|C6 1 [0,6] d Z<|G.cd (fun a=>?_) fun a=>?_
 ·exfalso;rw [ym b] at a;exact absurd a dc_
 refine Uh 3 [2,3] Z<|Uv (G.dropAll (UH U3 ?_));exact ⟨Z,Z⟩
abbrev Tri:=Nat × Nat × Nat
def iu (t:Tri):List Value:=[.int .i64 (t.1:Nat),.int .i64 (t.2.1:Nat),.int .i64 (t.2.2:Nat)]
def NS (a b c:Pt):Value:=.agg ⟨gl a++gl b++gl c⟩
theorem Eh (C:Mem)(k l:Value)(d:List Pt)(g:List Tri)(i:Nat)(t:Tri)(a b c:Pt)(e:Sl C 2 k (d.map gl))(h:Sl C 3 l (g.map iu))(m:g[i]?=some t)(n:d[t.1]?=some a)(o:d[t.2.1]?=some b)(p:d[t.2.2]?=some c) :
  Gives cx.P 68 [.agg ⟨[k,l]⟩,.int .i64 i] C (NS a b c):=by
 obtain ⟨x,y,rfl,q,z,_⟩:=id e;obtain ⟨A2,c2,rfl,r,A,_⟩:=id h;have B:maxLen<=9223372036854775807:=by simp [maxLen]
 simp only [ar] at e h q r ⊢;have D:=(aL.1 m).1;have E:=(aL.1 n).1;have F:=(aL.1 o).1;have G:=(aL.1 p).1;refine Ur func68 30 U3 fun w0=>Ul fun R f=>UC U6 fun H=>UB U5 fun I=>Un [1,2,4] f Z<|Ui 1 Z fun R f=>Uo ae U9<|Uk U6<|Uy h.m_ U10 om_ (by rw [QD,m];rfl:(g.map iu)[i]?=some (iu t)) fl_ fun J s=>Uj s U8<|UB U5 fun K=>Us (j:=0) U12<|Un [2,4,5] f Z<|UD [0,1,2,3,4,5,6,7,8,9,10,11,12,13,14,15,16,17,18,19] [] Z kr_ fun R L f=>Uk U6<|Uo ac U9<|UE (0) U9 ah U2<|Uo ag U9<|Uy e.m_ U10 om_ (by rw [QD,n];rfl:(d.map gl)[t.1]?=some (gl a)) fl_ fun M u=>Uj u U8<|Uk U6<|Uo ac U9<|UE (1) U9 ah U2<|Uo ag U9<|Uy e.m_ U10 om_ (by rw [QD,o];rfl:(d.map gl)[t.2.1]?=some (gl b)) fl_ fun N v=>Uj v U8<|Uk U6<|Uo ac U9<|UE (2) U9 ah U2<|Uo ag U9<|Uy e.m_ U10 om_ (by rw [QD,p];rfl:(d.map gl)[t.2.2]?=some (gl c)) fl_ fun O w=>Uj w U8<|UA (gl a++gl b++gl c) U8<|Us (j:=1) U12<|Un [4] f Z<|Uv (Va ag U4 ?_);exact ⟨Z,Z⟩
theorem G3 (C:Mem)(d:Tabs C)(a b c p:Pt)(k:Nat)(e:0<k)(f:k<=1000)(j:QP k a)(l:QP k b)(m:QP k c)(g:QP k p) :
  Gives cx.P 67 [NS a b c,ptV p] C (.bool (decide (0<=cj a b p) && decide (0<=cj b c p) && decide (0<=cj c a p))):=by
 refine Ur func67 30 U3 fun w0=>Ul fun R i=>UC U6 fun n=>UC U6 fun o=>C6 1 [2,3] i Z<|Ul fun R i=>UE (0) U9 ah U2<|Uo ae U9<|UE (2) U9 ah U2<|Uo ae U9<|Uo ag U9<|Ut (oU _ d.m_ a b p k e f j l g) U7<|Um 2 Z<|UE (2) U9 ah U2<|Uo ae U9<|UE (4) U9 ah U2<|Uo ae U9<|Uo ag U9<|US (fun _=>(oU _ d.m_ b c p k e f l m g)) U9<|Uk U6<|UJ U8<|Uk U6<|UE (4) U9 ah U2<|Uo ae U9<|UE (0) U9 ah U2<|Uo ae U9<|Uo ag U9<|US (fun _=>(oU _ d.m_ c a p k e f m j g)) U9<|Uk U6<|UJ U8<|C6 1 [4] i Z<|Up U2<|⟨?_,Z⟩;have hs:∀ q:Rat,decide (eH q.num ≥ 0)=decide (0<=q):=fun q=>by
  rw [Ry,<- Rat.num_nonneg];rcases eC q.num with h | h | h <;> omega
 rw [<- hs,<- hs,<- hs]
open Go Go.Jog Go.RowKit Go.Shelf
attribute [local go_sem] Oper.semAt_some
def Mu (zs:Nat->Int)(k:Nat):Value:=.agg #[.int .i64 (zs k),.int .i64 (zs ((k+1) % 3))]
set_option maxRecDepth 100000 in
theorem I4 (l Bs:Nat)(zs:Nat->Int)(J:Nat->World->Prop)
  (hD:∀ k W,J k W->J k W.drew)
  (hJ:∀ k W,J k W->∀ j,j<3->W.cell? ⟨Bs,j,none⟩=some (.int .i64 (zs j)))
  (hY:∀ k W,J k W->k<3->YieldAt Fence.wide 1 Tryz.prog l #[.int .i64 (k:Nat),Mu zs k] W fun e W'=>e=.returned (.bool true)/\J (k+1) W')
  (W:World) (h0:J 0 W) :
  CallsIn Fence.wide 2 Tryz.prog 263 #[.func (.yield l) #[] #[],.pointer (some ⟨Bs,0,none⟩)] W fun e W'=>(∃ v,e=.returned v)/\J 3 W':=by
 refine callsIn_of_wp func263 Z trivial ?_ Z;simp only [Tryz.ntmps263,SJ,QT,Re,Nat.reduceAdd,Nat.reduceSub,T4,T5,List.push_toArray,List.append_toArray,SK,Su]
 gi_wp2
 gi_loopw [4] (fun i wr=>∃ k:Nat,k<=3/\i=.int .i64 k/\J k wr) (fun i _=>(3-intOf i).toNat)
 case atStart=>exact ⟨0,by omega,rfl,h0⟩
 case round =>
  obtain ⟨k,hk,rfl,hJs⟩:=hrel;by_cases hlt:k<3
  ·have hJd:=hD k wr hJs;have hcd:=hJ k _ hJd;obtain ⟨fn,tmps,assign,body,hy,hR⟩:=hY k _ hJd hlt;rcases (by omega:k=0∨k=1∨k=2) with rfl | rfl | rfl
   ·have hc0:=hcd 0 om_;have hc1:=hcd 1 om_;have hy2:Sem.run Tryz.prog (Instr.yield l #[Value.int .i64 0,Value.agg #[.int .i64 (zs 0),.int .i64 (zs 1)]]) wr.drew=.ok (.round l fn tmps assign body) wr.drew:=hy;clear hy
    gi_wp2
    gi_region_with (refine hR.mono ?_;rintro e W3 ⟨rfl,hJ3⟩)
    all_goals
     gi_wp2
     go_roundw
     case rel=>exact ⟨1,by omega,rfl,hJ3⟩
     case measure=>simp [intOf]
   ·have hc0:=hcd 1 om_;have hc1:=hcd 2 om_;have hy2:Sem.run Tryz.prog (Instr.yield l #[Value.int .i64 1,Value.agg #[.int .i64 (zs 1),.int .i64 (zs 2)]]) wr.drew=.ok (.round l fn tmps assign body) wr.drew:=hy;clear hy
    gi_wp2
    gi_region_with (refine hR.mono ?_;rintro e W3 ⟨rfl,hJ3⟩)
    all_goals
     gi_wp2
     go_roundw
     case rel=>exact ⟨2,by omega,rfl,hJ3⟩
     case measure=>simp [intOf]
   have hc0:=hcd 2 om_;have hc1:=hcd 0 om_;have hy2:Sem.run Tryz.prog (Instr.yield l #[Value.int .i64 2,Value.agg #[.int .i64 (zs 2),.int .i64 (zs 0)]]) wr.drew=.ok (.round l fn tmps assign body) wr.drew:=hy;clear hy
   gi_wp2
   gi_region_with (refine hR.mono ?_;rintro e W3 ⟨rfl,hJ3⟩)
   all_goals
    gi_wp2
    go_roundw
    case rel=>exact ⟨3,by omega,rfl,hJ3⟩
    case measure=>simp [intOf]
  obtain rfl:k=3:=by omega
  gi_wp2
  go_end0
  exact ⟨⟨_,Z⟩,hJs⟩
def EK (t:Tri)(j:Nat):Int:=if j=0 then (t.1:Nat) else if j=1 then (t.2.1:Nat) else (t.2.2:Nat)
def wA (t:Tri):List (Value × Value):=(List.range 3).map fun k=>(.int .i64 (k:Nat),Mu (EK t) k)
theorem mW (t:Tri):(wA t).length=3:=rfl
theorem wz {t:Tri}(h:k<3):(wA t)[k]?=some (.int .i64 (k:Nat),Mu (EK t) k):=by
 simp [wA,h]
theorem Dq (C:Mem)(b c:Nat)(t:Tri)(d:C b=some (.cells ⟨iu t⟩ c (0,0))) :
  PX Tryz.prog 263 #[.pointer (some ⟨b,0,none⟩)] C (wA t):=by
 intro l J W e f g h0;refine I4 l b (EK t) J f (fun k W a j i=>?_) (fun k W a h=>g k _ W a (wz h)) W h0;have h1:=e k W a b _ d;rcases (by omega:j=0∨j=1∨j=2) with rfl | rfl | rfl <;> simp [World.cell?,h1,iu,EK]
theorem I5 (C:Mem)(t:Tri):Pur cx.P 213 [.agg ⟨iu t⟩] C fun r a=>∃ b,r=.func (.func 263) #[] #[.pointer (some ⟨b,0,none⟩)]/\a b=some (.cells ⟨iu t⟩ 65 (0,0)):=by
 exact Ur func213 4 U3 fun w0=>Ul fun R c=>UC U6 fun e=>C6 1 [1] c Z<|Uh 2 [2] Z<|G.freeze 0 Z fun f g d=>Up U2<|⟨Z,_,Z,d⟩
def nZ (t:Tri)(k:Nat):Int × Int:=(EK t k,EK t ((k+1) % 3))
abbrev Om:=List ((Int × Int) × Value)
def EL (m:Om)(i:Nat)(t:Tri):Nat->Om
 | 0=>m
 | k+1=>iK (EL m i t k) (nZ t k) (.int .i64 (i:Nat))
def xh (tris:List Tri):Nat->Om
 | 0=>[]
 | n+1=>EL (xh tris n) n (tris.getD n (0,0,0)) 3
noncomputable def kI2:KeyP cx.P 163 (Int × Int):=Qm rfl rfl rfl kr_
theorem xg (C:Mem)(q I:Value)(a:List Tri)(O:a≠[])(x:Sl C 3 I (a.map iu))(Q:∀ i t k,a[i]?=some t->k<3->dY (EL (xh a i) i t k) (nZ t k)=none) :
  Pur cx.P 145 [.agg ⟨[q,I]⟩] C fun u D=>∃ b,u=.tuple #[.map (some b),.bool true]/\D b=some (aV qK (xh a a.length)):=by
 obtain ⟨A2,c2,rfl,S,ad,_⟩:=id x;have af:maxLen<=9223372036854775807:=by simp [maxLen]
 simp only [ar] at x S ⊢;refine VI kr_ func145 Z 36 Z Z fun w0=>Ul fun R c=>UC U6 fun r=>UB U5 fun h=>UB U5 fun n=>Un [1,2,3] c Z<|Ul fun R c=>V7 kI2 Z Z Z Z fl_ fun f=>UB U5 fun o=>Us (j:=0) U12<|Un [1,2,3,4] c Z<|Ui 1 Z fun R c=>Uo (.tail _ aa) U9<|C6 2 [2,3,4,13,14,15] c Z<|G.perm (L':=[.obj o (.cells ⟨[.map (some f)]⟩ 234 (0,0)),.obj f (aV qK []),.obj n (.cells ⟨[.bool false]⟩ 4 (0,0)),.obj h (.cells ⟨[.map none]⟩ 234 (0,0)),.obj r (.cells ⟨[q,.slice A2 a.length c2]⟩ 39 (0,0))]) (QI _)<|WX (fun dd fr C' d T=>∃ (i:Nat)(g:List Nat),(i<=a.length/\g.length=i)/\dd=g.map KF/\fr=[(2,[],.pointer (some ⟨h,0,none⟩)),(3,[],.pointer (some ⟨n,0,none⟩)),(4,[],.pointer (some ⟨o,0,none⟩)),(13,[],.slice A2 a.length c2),(14,[],.int .i64 a.length),(15,[],.int .i64 i)]/\d=[.obj o (.cells ⟨[.map (some f)]⟩ 234 (0,0)),.obj f (aV qK (xh a i)),.obj n (.cells ⟨[.bool false]⟩ 4 (0,0)),.obj h (.cells ⟨[.map none]⟩ 234 (0,0)),.obj r (.cells ⟨[q,.slice A2 a.length c2]⟩ 39 (0,0))]++g.map zR/\T=a.length-i) (hn_ [2,3,4,13,14,15] Z) ⟨0,[],⟨QH _,Z⟩,Z,Z,Z,Z⟩ (fun dd fr ah ai m _ p=>?_);obtain ⟨i,g,⟨hi,y⟩,rfl,rfl,rfl,rfl⟩:=p;refine Uh 1 [2,3,4,13,14,15,16] Z<|G.cd (fun A=>?_) fun A=>?_
 ·have B:i<a.length:=by simpa using A
  obtain ⟨t,E⟩:∃ t,a[i]?=some t:=⟨a[i],aj B⟩;refine Ui 1 Z fun R c=>Uy x.m_ U10 om_ (by rw [QD,E];rfl:(a.map iu)[i]?=some (iu t)) fl_ fun ak U=>Uj U U8<|UB U5 fun F=>UB U5 fun J=>Us (j:=1) U12<|Us (j:=1) U12<|Un [2,3,4,5,6,13,14,15] c Z<|Ul fun R c=>Uo ag U9<|UR (I5 _ t) U7 fun al _ _ V=>Un [2,3,4,5,13,14,15,21] c Z ?_;obtain ⟨W,rfl,X⟩:=V;refine W5 Z Z kr_ (Dq _ W _ t X) (fun j d=>∃ (z:Unit),(j<=3)/\d=[.obj J (.cells ⟨iu t⟩ 65 (0,0)),.obj F (.cells ⟨[.int .i64 i]⟩ 3 (0,0)),.obj o (.cells ⟨[.map (some f)]⟩ 234 (0,0)),.obj f (aV qK (EL (xh a i) i t j)),.obj n (.cells ⟨[.bool false]⟩ 4 (0,0)),.obj h (.cells ⟨[.map none]⟩ 234 (0,0)),.obj r (.cells ⟨[q,.slice A2 a.length c2]⟩ 39 (0,0))]++g.map zR) ⟨(),QH _,Z⟩ Z (fun _ _=>rfl) (fun j d fr K=>∃ (s:Nat),fr=[(2,[],.pointer (some ⟨h,0,none⟩)),(3,[],.pointer (some ⟨n,0,none⟩)),(4,[],.pointer (some ⟨o,0,none⟩)),(5,[],.pointer (some ⟨F,0,none⟩)),(8,[],.pointer (some ⟨s,0,none⟩))]/\K=.obj s (.cells ⟨[.int .i64 (nZ t j).1,.int .i64 (nZ t j).2]⟩ 163 (0,0))::d) (fun l j u v d Y p w=>?_) (fun l j u v d an K Y p w hA=>?_) (fun L d p=>?_)
  ·obtain ⟨z,M,rfl⟩:=p;have H:j<3:=by have:=(aL.1 w).1;rwa [mW] at this
   rw [wz H] at w;cases w
   exact Ul fun R c=>UB U5 fun s=>Us (j:=0) U12<|Un [2,3,4,5,8] c Z<|W6 (hn_ [2,3,4,5,8] Z) ⟨s,Z,Z⟩
  ·obtain ⟨z,M,rfl⟩:=p;obtain ⟨s,rfl,rfl⟩:=hA;have H:j<3:=by have:=(aL.1 w).1;rwa [mW] at this
   refine Ul fun R c=>Uo aa U9<|Uo ag U9<|V8 kI2 (.tail _ aa) Z Z Z Z Z Z Z Z Z (congrArg (lX _ true) (Q i t j E H)) Z Z<|C6 5 [2,3,4,5,8,10] c Z<|Uh 1 [2,3,4,5,8,30] Z<|G.cd (fun N=>?_) fun N=>?_
   ·exact absurd N dc_
   refine Ul fun R c=>Uo aa U9<|Uo ag U9<|Uo ac U9<|V1 kI2 (j:=4) Z Z Z Z Z Z Z Z Z Z<|Vp [] trivial (c _ _ _ Z ?_);exact UY 1 Z<|VW (R:=fun d=>∃ (z:Unit),((j+1)<=3)/\d=[.obj J (.cells ⟨iu t⟩ 65 (0,0)),.obj F (.cells ⟨[.int .i64 i]⟩ 3 (0,0)),.obj o (.cells ⟨[.map (some f)]⟩ 234 (0,0)),.obj f (aV qK (EL (xh a i) i t (j+1))),.obj n (.cells ⟨[.bool false]⟩ 4 (0,0)),.obj h (.cells ⟨[.map none]⟩ 234 (0,0)),.obj r (.cells ⟨[q,.slice A2 a.length c2]⟩ 39 (0,0))]++g.map zR) (List.perm_middle (l₁:=[_,_,_])).symm ⟨(),om_,Z⟩
  obtain ⟨z,M,rfl⟩:=p;refine Ul fun R c=>Uq _ Z U6<|C6 1 [2,3,4,13,14,15] c Z<|UY 1 Z<|UY 1 Z<|G.perm (L':=[.obj o (.cells ⟨[.map (some f)]⟩ 234 (0,0)),.obj f (aV qK (xh a (i+1))),.obj n (.cells ⟨[.bool false]⟩ 4 (0,0)),.obj h (.cells ⟨[.map none]⟩ 234 (0,0)),.obj r (.cells ⟨[q,.slice A2 a.length c2]⟩ 39 (0,0))]++(L::g).map zR) (by
   rw [show xh a (i+1)=EL (xh a i) i t (wA t).length by rw [mW,xh,am,E];rfl];exact (List.perm_middle (l₁:=[_,_,_,_,_])).symm) ?_
  refine WW (m':=a.length-(i+1)) om_ mup (hn_ [2,3,4,13,14,15] Z) ⟨i+1,L::g,⟨by omega,by simp [y]⟩,Z,Z,Z,Z⟩
 have B:i=a.length:=by
  have:¬ i<a.length:=by simpa using A
  omega
 refine Ul fun R c=>Uo ag U9<|Us (j:=3) U12<|Us (j:=3) U12<|Un [2,3] c Z<|G.freeze 3 Z fun Cf ao ab=>G.perm (L':=g.map zR++[_,_,_,_]) (RF (l₁:=[_,_,_,_]))<|Uv (WZ (O3 ae ag Z Z Z Z Z Z Z) ?_ ?_)
 ·exact ⟨Z,f,Z,by rw [<- B];exact ab⟩
 intro e;rw [e] at y;have:=Rn.2 O;simp at y;omega
def Ld (kd a b:Int)(h:Bool):Value:=.agg ⟨[.int .u8 kd,.int .i8 a,.int .i8 b,.bool h]⟩
def dV (h:Bool):Int:=if h then 2 else 1
def dH (a b:Int)(h:Bool)(x y by':Int):Pt:=(ld (x+a.tmod 8*by') (dV h*by'),ld (y+b.tmod 8*by') (dV h*by'))
theorem yJ (a:Int):-8<a.tmod 8/\a.tmod 8<8:=by
 have h:(a.tmod 8).natAbs=a.natAbs % 8:=Ti a 8;omega
theorem BQ (C:Mem)(g:Tabs C)(i a b:Int)(h:Bool)(x y n:Int)(u:0<n)(v:n<=4)(w:-128<=x/\x<=127)(A:-128<=y/\y<=127) :
  Gives cx.P 116 [Ld i a b h,.agg ⟨[.int .i8 x,.int .i8 y]⟩,.int .i64 n] C (ptV (dH a b h x y n)):=by
 have k:=yJ a;have l:=yJ b;have m:∀ z:Int, -8<z->z<8->-32<z*n/\z*n<32:=fun z h1 h2=>by
  rcases (by omega:n=1∨n=2∨n=3∨n=4) with e | e | e | e <;> subst e <;> omega
 have B:=m _ k.1 k.2;have D:=m _ l.1 l.2;have hh:dV h=1∨dV h=2:=by cases h <;> simp [dV]
 have E:0<dV h*n/\dV h*n<=8:=by rcases hh with e | e <;> rw [e] <;> omega
 refine Ur func116 53 U3 fun w0=>Ul fun R d=>UC U6 fun o=>UC U6 fun p=>UB U5 fun q=>Un [2,3,4,6] d Z<|Uh 1 [2,3,4,6,7] Z<|Ui 1 Z fun R d=>Uo ac U9<|Un [2,3,4,6,7,13] d Z<|G.cut (fun fr F r s=>(True)/\fr=[(2,[],.int .i64 n),(3,[],.pointer (some ⟨o,0,none⟩)),(4,[],.pointer (some ⟨p,0,none⟩)),(6,[],.pointer (some ⟨q,0,none⟩)),(7,[],.int .i64 (dV h))]/\r=[.obj q (.cells ⟨[af [],af []]⟩ 34 (0,0)),.obj p (.cells ⟨[.int .i8 x,.int .i8 y]⟩ 23 (0,0)),.obj o (.cells ⟨[.int .u8 i,.int .i8 a,.int .i8 b,.bool h]⟩ 25 (0,0))]) ?_ (fun fr _ H s _ t=>?_)
 ·refine G.cd (fun f=>?_) fun f=>?_
  ·have h1:h=true:=f;subst h1;refine Uh 1 [2,3,4,6,7] Z<|Ux 0 (Mem.le.refl _) (hn_ [2,3,4,6,7] Z) ⟨trivial,Z,Z⟩
  have h1:h=false:=by simpa using f
  subst h1;refine Ux 0 (Mem.le.refl _) (hn_ [2,3,4,6,7] Z) ⟨trivial,Z,Z⟩
 obtain ⟨_,rfl,rfl⟩:=t;refine Ul fun R d=>UE (0) U9 ah U2<|Uo ae U9<|UU (c:=x) U8 (wrap_i64 om_ om_) fl_<|Uk U6<|UE (1) U9 ah U2<|Uo ac U9<|Vo (a.tmod 8) U6 dc_ U3<|UU (c:=a.tmod 8) U8 (wrap_i64 om_ om_) fl_<|Uk U6<|Uq _ Z U6<|Uq _ Z U6<|Um 2 Z<|Uq _ Z U6<|Uu (FL _ g.m_ (x+a.tmod 8*n) (dV h*n) om_ om_ om_) U7 fl_<|C6 5 [2,3,4,6,7,8] d Z<|Ul fun R d=>UE (1) U9 ah U2<|Uo ae U9<|UU (c:=y) U8 (wrap_i64 om_ om_) fl_<|Uk U6<|UE (2) U9 ah U2<|Uo ac U9<|Vo (b.tmod 8) U6 dc_ U3<|UU (c:=b.tmod 8) U8 (wrap_i64 om_ om_) fl_<|Uk U6<|Uq _ Z U6<|Uq _ Z U6<|Um 2 Z<|Uq _ Z U6<|Uu (FL _ g.m_ (y+b.tmod 8*n) (dV h*n) om_ om_ om_) U7 fl_<|C6 5 [6,8,10] d Z<|Ui 2 Z fun R d=>UA (gl (dH a b h x y n)) U8<|Us (j:=0) U12<|Un [6] d Z<|Uv (Va ag U4 ?_);exact ⟨Z,Z⟩
def gb (s p:Nat):Value:=.agg ⟨[.int .i64 (s:Nat),.int .i64 (p:Nat)]⟩
theorem iY (C:Mem)(s p:Nat)(h:s*p<=1000000000):Gives cx.P 149 [gb s p] C (.int .i64 ((s*p:Nat):Int)):=by
 exact Ur func149 8 U3 fun w0=>Ul fun R a=>UC U6 fun b=>C6 1 [1] a Z<|Ui 1 Z fun R a=>Uo ag U9<|Uk U6<|Uo ag U9<|Uq _ Z U6<|C6 1 [2] a Z<|Up U2<|⟨Z,Z⟩
theorem OU (C:Mem)(s p:Nat)(i k:Int)(h:-1000000000000<=i*p/\i*p<=1000000000000)(b:-1000000000<=k/\k<=1000000000):Gives cx.P 240 [gb s p,.int .i64 i,.int .i64 k] C (.int .i64 (i*p+k)):=by
 exact Ur func240 13 U3 fun w0=>Ul fun R a=>UC U6 fun c=>C6 1 [1,2,3] a Z<|Ui 2 Z fun R a=>Uo ag U9<|Uq _ Z U6<|Uk U6<|Uq _ Z U6<|C6 1 [6] a Z<|Up U2<|⟨Z,Z⟩
theorem BW {m:Om}{s:fy}:(dY m (s.2,s.1)).isSome=!ju (m.map (·.1)) s:=by
 unfold ju nY;rw [Bool.not_not];cases h:dY m (s.2,s.1) with
 | none=>rw [cC] at h;simp [h]
 | some v =>
  have:=SN (f:=(·.1)) (gk h);simp only [Option.isSome_some];exact (QV this).symm
theorem JI (C:Mem)(v1 v2:Value)(b:Nat)(m:Om)(n:C b=some (aV qK m))(hn:(m.map (·.1)).Nodup)(O:∀ s∈m.map (·.1),0<=s.1)(aD:m.length<=1000000) :
  Pur cx.P 196 [.agg ⟨[v1,v2]⟩,.map (some b)] C fun u D=>∃ v,u=.tuple #[v,.bool (decide (xi (m.map (·.1))≠[]))]/\Sl D 1 v ((xi (m.map (·.1))).map oy):=by
 have aE:maxLen<=9223372036854775807:=by simp [maxLen]
 have Q:=fun s:fy=>BW (m:=m) (s:=s);obtain ⟨ks,J⟩:∃ ks,m.map (·.1)=ks:=⟨_,rfl⟩;rw [J] at hn O ⊢;simp only [J] at Q;have ak:ks.length=m.length:=by rw [<- J];simp
 refine Ur func196 93 U3 fun w0=>Ul fun R c=>UC U6 fun b2=>C6 2 [1] c Z<|Ul fun R c=>D.makeMap keyZ Z Z Z Z fl_ fun l=>C6 1 [1,6] c Z<|Uh 1 [1,6,7] Z<|Ui 1 Z fun R c=>V2 kI2.enc (Mem.get n mup) Z Z Z Z Z Z Z fl_ fun E=>Un [1,6,7,19] c Z<|UY 2 Z<|G.loop (fun fr C' o S=>∃ (seen:List Nat)(f:Int),(seen.Nodup/\(∀ j∈seen,j<ks.length)/\((fw ks seen).map (·.1)).Nodup/\ma (fw ks seen) f)/\fr=[(1,[],.map (some b)),(6,[],.map (some l)),(7,[],.int .i64 f),(19,[],.pointer (some ⟨E,0,none⟩))]/\o=[.obj E (bq b m.length seen),.obj l (aV keyZ.enc (uB (fw ks seen)))]/\S=ks.length-seen.length) (hn_ [1,6,7,19] Z) ⟨[], -1,⟨List.nodup_nil,by simp,by simp [fw],.inl ⟨Z,Z⟩⟩,Z,Z,Z⟩ (fun fr aG aH m _ T=>?_);obtain ⟨seen,f,⟨am,an,K,L⟩,rfl,rfl,rfl⟩:=T;refine Ul fun R c=>V5 kI2.enc (q:=0) (Mem.get n mup) Z Z Z Z Z Z fl_ fun ao aI M ap=>C6 1 [1,6,7,19,21] c Z<|G.cd (fun F=>?_) fun F=>?_
 ·obtain ⟨aK,j,hj,ay,rfl⟩:ao=true/\∃ j,j<m.length/\j ∉ seen/\M=seen++[j]:=by
   rcases ap with ⟨h1,_⟩ | h1
   ·rw [h1] at F;cases F
   exact h1
  rw [<- ak] at hj;obtain ⟨⟨s,bv⟩,hs⟩:∃ p,m[j]?=some p:=⟨m[j]'om_,aj om_⟩;have aq:ks[j]?=some s:=by rw [<- J,QD,hs];rfl
  have H:(seen++[j]).Nodup:=by
   rw [Sa];exact ⟨am,by simp,fun a U b n e=>by rw [QY.1 n] at e;subst e;exact ay U⟩
  have z:∀ i∈seen++[j],i<ks.length:=fun i V=>by
   rcases QS.1 V with h | h
   ·exact an i h
   rw [QY.1 h];exact hj
  have aL:(seen++[j]).length<=ks.length:=by
   have:=List.Nodup.length_le_of_subset H (l₂:=List.range ks.length) (fun i V=>QU.2 (z i V));simpa using this
  have aM:(seen++[j]).length=seen.length+1:=by simp
  have d:=Du aq (seen:=seen);have az:0<=s.1:=O s (aX aq);refine Ul fun R c=>V3 kI2.enc (Mem.get n mup) hs ag Z Z Z Z Z Z Z<|Uk U6<|UB U5 fun b8=>Us (j:=0) U12<|Un [1,6,7,8,19] c Z<|Ui 1 Z fun R c=>UE (1) U9 ah U2<|Uo ag U9<|UE (0) U9 ah U2<|Uo ag U9<|UA [.int .i64 s.2,.int .i64 s.1] U8<|V9 kI2 (fun _=>(Mem.get n mup)) Z Z Z Z Z Z Z Z Z (lW _ (dY m (s.2,s.1))) Z Z<|C6 5 [1,6,7,8,10,19] c Z<|Uh 1 [1,6,7,8,19,34] Z<|G.cd (fun W=>?_) fun W=>?_
  ·have X:ju ks s=false:=by
    have h:(dY m (s.2,s.1)).isSome=true:=W;rw [Q] at h;simpa using h
   rw [X] at d;simp only [Rz,R4,Q2] at d;refine UY 0 Z<|Uz (L':=[.obj E (bq b m.length (seen++[j])),.obj l (aV keyZ.enc (uB (fw ks (seen++[j]))))]) (by rw [d];rfl)<|Uw (m':=ks.length-(seen++[j]).length) om_ mup (hn_ [1,6,7,19] Z) ⟨seen++[j],f,⟨H,z,by rw [d];exact K,by rw [d];exact L⟩,Z,Z,Z⟩
  have X:ju ks s=true:=by
   have h:(dY m (s.2,s.1)).isSome=false:=W;rw [Q] at h;simpa using h
  rw [X] at d;simp only [SC] at d;refine Ui 1 Z fun R c=>UE (0) U9 ah U2<|Uo ag U9<|VD keyZ ac Z Z Z Z Z Z Z Z kr_ Z (lW _ (dY (uB (fw ks seen)) s.1)) Z Z<|C6 5 [1,6,7,8,12,19] c Z<|Uh 1 [1,6,7,8,19,42] Z<|G.cd (fun Y=>?_) fun Y=>?_
  ·have x:(dY (uB (fw ks seen)) s.1).isSome=true:=Y;rw [ib] at x;have aa:EM ks=none:=by
    cases k:dY (fw ks seen) s.1 with
    | none=>rw [k] at x;cases x
    | some q=>exact DL (B:=fw ks seen) (s:=s) (t:=(s.1,q)) (by rw [<- d];exact yU hn H z) (by rw [<- d];exact FE z) (gk k) rfl
   have I:xi ks=[]:=by unfold xi;rw [aa];rfl
   refine Uh 2 [4,5] Z<|Uv (G.dropAll (UH U3 ?_));exact ⟨Z,.slice none 0 0,by rw [I];rfl,by rw [I];exact Sl.nil _ _⟩
  have x:(dY (uB (fw ks seen)) s.1).isSome=false:=Y;have ab:dY (fw ks seen) s.1=none:=by
   rw [ib] at x;cases k:dY (fw ks seen) s.1 with
   | none=>rfl
   | some q=>rw [k] at x;cases x
  have ar:((fw ks (seen++[j])).map (·.1)).Nodup:=by
   rw [d,Rh,Sa];refine ⟨K,by simp,fun a U b n e=>?_⟩;rw [List.map_singleton,QY] at n;subst n;subst e;exact (cC.1 ab) U
  have N:=qj L s az;refine Ui 1 Z fun R c=>UE (0) U9 ah U2<|Uo ag U9<|UE (1) U9 ah U2<|Uo ag U9<|D.mapUpdate keyZ (j:=2) Z Z Z Z Z Z Z Z Z Z kr_<|Un [1,6,7,8,19] c Z<|Ui 3 Z fun R c=>UE (0) U9 ah U2<|Uo ae U9<|Um 2 Z<|UN U8<|Un [1,6,7,8,19,55] c Z<|G.cd (fun ad=>?_) fun ad=>?_
  ·have af:f<0∨s.1<f:=by simpa using ad
   rw [aJ af] at N;refine Ul fun R c=>UE (0) U9 ah U2<|Uo ae U9<|C6 1 [1,6,7,19] c Z<|UY 1 Z<|G.perm (L':=[.obj E (bq b m.length (seen++[j])),.obj l (aV keyZ.enc (uB (fw ks (seen++[j]))))]) (by
    rw [d,<- BY ab];exact List.Perm.swap _ _ _) ?_
   refine Uw (m':=ks.length-(seen++[j]).length) om_ mup (hn_ [1,6,7,19] Z) ⟨seen++[j],s.1,⟨H,z,ar,by rw [d];exact N⟩,Z,Z,Z⟩
  have af:¬ (f<0∨s.1<f):=by simpa using ad
  rw [aF af] at N;refine UY 1 Z<|G.perm (L':=[.obj E (bq b m.length (seen++[j])),.obj l (aV keyZ.enc (uB (fw ks (seen++[j]))))]) (by
   rw [d,<- BY ab];exact List.Perm.swap _ _ _) ?_
  refine Uw (m':=ks.length-(seen++[j]).length) om_ mup (hn_ [1,6,7,19] Z) ⟨seen++[j],f,⟨H,z,ar,by rw [d];exact N⟩,Z,Z,Z⟩
 obtain ⟨aN,rfl,au⟩:ao=false/\M=seen/\∀ j,j<m.length->j∈seen:=by
  rcases ap with h1 | ⟨h1,_⟩
  ·exact h1
  rw [h1] at F;cases F
 rw [<- ak] at au;have hp:(fw ks M).Perm (ks.filter (ju ks)):=(pk am an au).filter _;obtain ⟨B,d⟩:∃ B,fw ks M=B:=⟨_,rfl⟩;rw [d] at hp K L;have hO:=JJ hp K O L;have aO:B.length<=ks.length:=by rw [hp.length_eq];exact Sm _ _
 refine Uh 1 [6,7,13] Z<|Uh 2 [6,7,13,14] Z<|UY 0 Z<|G.nilArr 3 1<|Uz (L':=[.arr (.slice none 0 0) 3 1 0 [],.obj l (aV keyZ.enc (uB B))]) (by rw [d];rfl)<|G.loop (fun fr C' o S=>∃ (out:List Int)(w:Value)(p:Int),(out.length<=B.length/\iO B f (B.length-out.length) p out=EM ks)/\fr=[(6,[],.map (some l)),(7,[],.int .i64 f),(13,[],w),(14,[],.int .i64 p)]/\o=[.arr w 3 1 out.length (out.map (Value.int .i64)),.obj l (aV keyZ.enc (uB B))]/\S=B.length-out.length) (hn_ [6,7,13,14] Z) ⟨[],_,f,⟨QH _,hO.symm⟩,Z,Z,Z⟩ (fun fr aP aQ m _ T=>?_);obtain ⟨out,w,p,⟨aR,A⟩,rfl,rfl,rfl⟩:=T;refine WY ag (fun Aw cw hw aS aT aU=>?_);subst hw;refine UI [(3,1)] Z fun R c=>Um 3 Z<|Wc keyZ.enc ae Z Z Z Z Z Z Z Z Z<|C6 1 [6,7,13,14,63] c Z<|G.cd (fun ai=>?_) fun ai=>?_
 ·have aW:out.length<B.length:=by
   simp only [QK,BZ] at ai;omega
  obtain ⟨r,hr⟩:∃ r,B.length-out.length=r+1:=⟨B.length-out.length-1,by omega⟩;rw [hr] at A;refine Ui 2 Z fun R c=>VD keyZ ae Z Z Z Z Z Z Z Z kr_ Z (lW _ (dY (uB B) p)) Z Z<|C6 5 [6,7,13,14,16] c Z<|Ui 10 Z fun R c=>UJ U8<|UN U8<|Un [6,7,13,14,84] c Z<|G.cd (fun g=>?_) fun g=>?_
  ·have aa:EM ks=none:=by
    rw [<- A];refine Df ?_;rw [ib] at g;cases k:dY B p with
    | none=>exact .inl rfl
    | some q =>
     rw [k] at g;simp only [Sf,Option.isSome_some,Bool.not_true,Bool.false_or,QR,Sj,QK] at g;exact .inr ⟨g.1,fun e=>by rw [e] at g;simp at g⟩
   have I:xi ks=[]:=by unfold xi;rw [aa];rfl
   refine Uh 2 [4,5] Z<|Uv (G.dropAll (UH U3 ?_));exact ⟨Z,.slice none 0 0,by rw [I];rfl,by rw [I];exact Sl.nil _ _⟩
  obtain ⟨q,k⟩:∃ q,dY B p=some q:=by
   rw [ib] at g;cases k:dY B p with
   | some q=>exact ⟨q,rfl⟩
   | none=>rw [k] at g;simp at g
  have aA:¬ (p=f/\out≠[]):=by
   rintro ⟨e1,e2⟩;rw [ib,k] at g;have:=Rn.2 e2;simp [e1] at g;exact e2 g
  rw [De k aA] at A;have aY:(out++[p]).length=out.length+1:=by simp
  refine Ui 2 Z fun R c=>UF [oy p] U12 fun aZ _ _ aB=>D.append (j:=0) U11 aB Z ax (by simp only [QA];omega) fl_ fun av=>C6 1 [6,7,13,14] c Z<|Ui 2 Z fun R c=>VD keyZ ae Z Z Z Z Z Z Z Z kr_ Z (by rw [ib,k];rfl:lX _ false (dY (uB B) p)=.int .i64 q) Z Z<|C6 1 [6,7,13,14] c Z<|Uz (L':=[.arr av 3 1 (out++[p]).length ((out++[p]).map (Value.int .i64)),.obj l (aV keyZ.enc (uB B))]) (by simp [oy])<|Uw (m':=B.length-(out++[p]).length) om_ mup (hn_ [6,7,13,14] Z) ⟨out++[p],av,q,⟨by omega,by rw [show B.length-(out++[p]).length=r by omega];exact A⟩,Z,Z,Z⟩
 have a0:B.length<=out.length:=by
  simp only [Q7,BZ] at ai;omega
 have aw:xi ks=out:=by
  rw [show B.length-out.length=0 by omega] at A;unfold xi;rw [<- A];rfl
 refine Uh 6 [4,5] Z<|Uz (L':=[.arr (.slice Aw out.length cw) 3 1 out.length (out.map oy).flatten,.obj l (aV keyZ.enc (uB B))]) (by rw [show (out.map oy).flatten=out.map (Value.int .i64) from eE _ _])<|G.freezeArr 0 (out.map oy) rfl rfl (by intro r hr;obtain ⟨y,_,rfl⟩:=QE.1 hr;rfl) al fun Cg hg aC=>Uv (G.dropAll (UH U3 ?_));refine ⟨Z,_, ?_,by rw [aw];exact aC⟩;rw [aw];have:decide ((out.length:Int) > 0)=decide (out≠[]):=by
  rw [Ry,<- Rn];omega
 rw [<- this]
def rJ (pts:List Pt)(cyc:List Nat)(i:Nat):Pt:=pts.getD (cyc.getD (i % cyc.length) 0) (0,0)
def upB (p q:Pt):Bool:=decide (p.2<q.2) || (decide (p.2=q.2) && decide (p.1<q.1))
def Kg (pts:List Pt)(cyc:List Nat)(i:Nat):Bool:=!upB (rJ pts cyc i) (rJ pts cyc (i+1)) && upB (rJ pts cyc (i+1)) (rJ pts cyc (i+1+1))
def xu (pts:List Pt)(cyc:List Nat)(i:Nat):Bool:=decide (0<=cj (rJ pts cyc i) (rJ pts cyc (i+1)) (rJ pts cyc (i+2)))
def JM (pts:List Pt)(cyc:List Nat):Bool:=(List.range cyc.length).all (xu pts cyc) && decide (((List.range cyc.length).filter (Kg pts cyc)).length=1)
structure OnceC (C:Mem)(b2 b3 b5:Nat)(pts:List Pt)(cyc:List Nat):Prop where
 ex:∃ v1 v2,C b2=some (.cells ⟨[v1,v2]⟩ 39 (0,0))/\Sl C 2 v1 (pts.map gl)
 ey:∃ cv,C b3=some (.cells ⟨[cv]⟩ 57 (0,0))/\Sl C 1 cv (cyc.map aT)
 ez:C b5=some (.cells ⟨[.int .i64 (cyc.length:Nat)]⟩ 3 (0,0))
 ne:0<cyc.length
 ins:∀ z∈cyc,z<pts.length
 q:∀ p∈pts,QP 1 p
theorem OnceC.mono {C D:Mem}{b c d:Nat}{e:List Pt}{f:List Nat}(h:OnceC C b c d e f)(a:C.le D):OnceC D b c d e f:=by
 obtain ⟨g,i,h1,h2⟩:=h.ex;obtain ⟨j,h3,h4⟩:=h.ey;exact ⟨⟨g,i,a _ _ h1,h2.mono a⟩,⟨j,a _ _ h3,h4.mono a⟩,a _ _ h.ez,h.ne,h.ins,h.q⟩
theorem OnceC.m_ {D:Mem}{a b c:Nat}{d:List Pt}(h:OnceC C a b c d cyc)(e:C.le D:=by exact mup):OnceC D a b c d cyc:=OnceC.mono h e
theorem LP {a:List Pt}(h:0<cyc.length)(c:∀ z∈cyc,z<a.length)(i:Nat):∃ z,cyc[i % cyc.length]?=some z/\a[z]?=some (rJ a cyc i):=by
 have b:=Rj i h;refine ⟨cyc[i % cyc.length],aj b, ?_⟩;have d:=c _ (Rv b);simp [rJ,aj b,aj d]
theorem LO {a:List Pt}(h:0<cyc.length)(b:∀ z∈cyc,z<a.length)(c:∀ p∈a,QP 1 p)(i:Nat):QP 1 (rJ a cyc i):=by
 obtain ⟨z,_,h2⟩:=LP h b i;exact c _ (aX h2)
theorem pF (C:Mem)(e f c:Nat)(b:List Pt)(a:List Nat)(h:OnceC C e f c b a)(i:Nat) :
  Gives cx.P 258 [.int .i64 i,.pointer (some ⟨e,0,none⟩),.pointer (some ⟨f,0,none⟩),.pointer (some ⟨c,0,none⟩)] C (ptV (rJ b a i)):=by
 obtain ⟨q,r,g,h1⟩:=h.ex;obtain ⟨s,k,h3⟩:=h.ey;have l:=h.ez;have t:=h.ne;obtain ⟨z,m,n⟩:=LP h.ne h.ins i;obtain ⟨u,v,rfl,w,x,_⟩:=id h1;obtain ⟨y,A,rfl,B,D,_⟩:=id h3;simp only [ar] at h1 h3 g k;refine Ur func258 16 U3 fun w0=>Ul fun R d=>UB U5 fun c=>Un [0,1,2,3,5] d Z<|UD [0,1,2,3,4,5,6,7,8,9,10] [] Z kr_ fun R E d=>Uk U6<|Uj (PtrTo.block (Mem.get g mup) _) U8<|Uj (PtrTo.block (Mem.get k mup) _) U8<|Uk U6<|Uj (PtrTo.block (Mem.get l mup) _) U8<|Vc (i) (a.length) U6 om_ U2<|Uy h3.m_ U10 om_ (by rw [QD,show ((i % a.length:Nat):Int).toNat=i % a.length from Z,m];rfl:(a.map aT)[((i % a.length:Nat):Int).toNat]?=some (aT z)) fl_ fun F o=>Uj o U8<|Uy h1.m_ U10 om_ (by rw [QD,show ((z:Nat):Int).toNat=z from Z,n];rfl:(b.map gl)[((z:Nat):Int).toNat]?=some (gl (rJ b a i))) fl_ fun G p=>Uj p U8<|Us (j:=0) U12<|Un [5] d Z<|Uv (Va ag U4 ?_);exact ⟨Z,Z⟩
def fn1V (b2 b3 b5:Nat):Value:=.func (.func 258) #[] #[.pointer (some ⟨b2,0,none⟩),.pointer (some ⟨b3,0,none⟩),.pointer (some ⟨b5,0,none⟩)]
theorem HQ (a b:Rat):decide (jt a b > 0)=decide (b<a):=by
 unfold jt;by_cases h1:a<b
 ·have:¬ b<a:=by grind
  simp [h1,this]
 by_cases h2:b<a <;> simp [h1,h2]
theorem NW (a b:Rat):(jt a b == 0)=decide (b=a):=by
 unfold jt;by_cases h1:a<b
 ·have:¬ b=a:=by grind
  simp [h1,this]
 by_cases h2:b<a
 ·have:¬ b=a:=by grind
  simp [h1,h2,this]
 have:b=a:=by grind
 subst this;simp [h1]
theorem K9 (C:Mem)(k:Tabs C)(c d e l:Nat)(a:List Pt)(b:List Nat)(h:OnceC C c d e a b)(f:C l=some (.cells ⟨[fn1V c d e]⟩ 352 (0,0)))(i:Nat)(n:i<=1000000) :
  Gives cx.P 259 [.int .i64 i,.pointer (some ⟨l,0,none⟩)] C (.bool (upB (rJ a b i) (rJ a b (i+1)))):=by
 have g:=fun i=>LO h.ne h.ins h.q i;unfold fn1V at f;refine Ur func259 34 U3 fun w0=>Uh 1 [0,1] Z<|UD [0,1,2,3,4,5,6,7,8,9,10] [(3,1),(7,1),(9,1)] Z kr_ fun R m j=>Uj (PtrTo.block (Mem.get f mup) _) U8<|Uk U6<|Uq _ Z U6<|US (fun _=>(pF _ c d e a b h.m_ (i+1))) U9<|Vx U12<|Uj (PtrTo.block (Mem.get f mup) _) U8<|Uk U6<|US (fun _=>(pF _ c d e a b h.m_ i)) U9<|Vx U12<|UG (fun _=>(gX _ k.m_ (rJ a b (i+1)).2 (rJ a b i).2 1 dc_ dc_ (g (i+1)).2 (g i).2)) U9<|C6 1 [0,1,4] j Z<|UD [0,1,2,3,4,5,6,7,8,9,10,11,12,13,14,15,16,17,18,19] [] Z kr_ fun R m j=>Um 6 Z<|UM U6 (fun _=>PtrTo.block (Mem.get f mup) _) U3<|Uk U6<|Uq _ Z U6<|US (fun _=>(pF _ c d e a b h.m_ (i+1))) U9<|Vx U12<|UM U6 (fun _=>PtrTo.block (Mem.get f mup) _) U3<|Uk U6<|US (fun _=>(pF _ c d e a b h.m_ i)) U9<|Vx U12<|UG (fun _=>(gX _ k.m_ (rJ a b (i+1)).1 (rJ a b i).1 1 dc_ dc_ (g (i+1)).1 (g i).1)) U9<|Uk U6<|UJ U8<|UN U8<|C6 1 [3] j Z<|Up U2<|⟨?_,Z⟩;rw [HQ,NW,HQ];rfl
theorem Fv (q:Rat):decide (eH q.num<0)=!decide (0<=q):=by
 rw [<- decide_not,Ry,<- Rat.num_nonneg];rcases eC q.num with h | h | h <;> omega
theorem Nc (C:Mem)(r:Tabs C)(s B D:Value)(b:List Pt)(a:List Nat)(I:Sl C 2 s (b.map gl))(t:Sl C 1 D (a.map aT))(J:0<a.length)(K:∀ z∈a,z<b.length)(L:∀ p∈b,QP 1 p)(W:a.length<=100000) :
  Gives cx.P 197 [.agg ⟨[s,B]⟩,D] C (.bool (JM b a)):=by
 obtain ⟨X,Y,rfl,aa,ab,_⟩:=id t;simp only [ar] at t ⊢;refine Ur func197 46 U3 fun w0=>Ul fun R c=>UC U6 fun e=>UC U6 fun f=>C6 1 [2,3] c Z<|Ul fun R c=>Uo ag U9<|Uk U6<|UB U5 fun g=>Us (j:=0) U12<|Un [2,3,5] c Z<|Ui 1 Z fun R c=>UB U5 fun o=>Us (j:=0) U12<|Un [5,6] c Z<|G.freeze 0 Z fun _ _ h=>G.freeze 0 Z fun _ _ E=>G.freeze 0 Z fun _ _ M=>G.freeze 0 Z (fun N _ O=>?_);have d:OnceC N e f g b a:=⟨⟨s,B,O,I.mono mup⟩,⟨_,Mem.get M mup,t.mono mup⟩,Mem.get E mup,J,K,L⟩;have u:=fun i=>LO d.ne d.ins d.q i;refine Uh 2 [5,6,7] Z<|Uh 1 [5,6,7,8] Z<|Ul fun R c=>Uj (PtrTo.block (Mem.get E mup) _) U8<|C6 1 [6,7,8,14,15] c Z<|G.loop (fun fr C' Q S=>∃ (i k:Nat),(i<=a.length/\(List.range i).all (xu b a)=true/\((List.range i).filter (Kg b a)).length=k)/\fr=[(6,[],.pointer (some ⟨o,0,none⟩)),(7,[],.func (.func 259) #[] #[.pointer (some ⟨o,0,none⟩)]),(8,[],.int .i64 k),(14,[],.int .i64 a.length),(15,[],.int .i64 i)]/\Q=[]/\S=a.length-i) (hn_ [6,7,8,14,15] Z) ⟨0,0,⟨QH _,Z,Z⟩,Z,Z,Z⟩ (fun fr ac ad m F T=>?_);obtain ⟨i,k,⟨hi,v,l⟩,rfl,rfl,rfl⟩:=T;refine Uh 1 [6,7,8,14,15,16] Z<|G.cd (fun w=>?_) fun w=>?_
 ·have x:i<a.length:=by simpa using w
  have ae:k<=i:=by
   rw [<- l];exact QW (Sm _ _) al
  refine Uh 2 [6,7,8,9,14,15] Z<|UD [0,1,2,3,4,5,6,7,8,9,10,11,12] [(2,1),(6,1),(10,1),(11,1)] Z kr_ fun R hB c=>Uj (PtrTo.block (Mem.get h mup) _) U8<|Uk U6<|US (fun _=>(pF _ e f g b a d.m_ i)) U9<|Uj (PtrTo.block (Mem.get h mup) _) U8<|Uk U6<|Uq _ Z U6<|US (fun _=>(pF _ e f g b a d.m_ (i+1))) U9<|Uj (PtrTo.block (Mem.get h mup) _) U8<|Uk U6<|Uq _ Z U6<|US (fun _=>(pF _ e f g b a d.m_ (i+2))) U9<|UG (fun _=>(oU _ r.m_ (rJ b a i) (rJ b a (i+1)) (rJ b a (i+2)) 1 dc_ dc_ (u i) (u (i+1)) (u (i+2)))) U9<|C6 1 [6,7,8,9,14,15,30] c Z<|G.cd (fun n=>?_) fun n=>?_
  ·have U:xu b a i=false:=by
    rw [Fv] at n;simpa [xu] using n
   refine Uh 1 [4] Z<|Up U2<|⟨?_,Z⟩;have:(List.range a.length).all (xu b a)=false:=Tn.2 ⟨i,QU.2 x,by rw [U];decide⟩;unfold JM;rw [this];rfl
  have V:xu b a i=true:=by
   rw [Fv] at n;simpa [xu] using n
  have H:(List.range (i+1)).all (xu b a)=true:=by rw [RW,T8,v];simp [V]
  refine Ui 2 Z fun R c=>Uu (K9 _ r.m_ e f g o b a d.m_ (Mem.get h mup) i om_) U7 fl_<|Um 4 Z<|Uq _ Z U6<|UG (fun _=>(K9 _ r.m_ e f g o b a d.m_ (Mem.get h mup) (i+1) om_)) U9<|UJ U8<|Un [6,7,8,14,15,40] c Z<|G.cd (fun y=>?_) fun y=>?_
  ·have A:Kg b a i=true:=y;refine Ui 1 Z fun R c=>Uq _ Z U6<|C6 1 [6,7,8,14,15] c Z<|Ul fun R c=>Uq _ Z U6<|C6 1 [6,7,8,14,15] c Z<|Uw (m':=a.length-(i+1)) om_ F (hn_ [6,7,8,14,15] Z) ⟨i+1,k+1,⟨by omega,H,by rw [RW,Se,QG,l];simp [A]⟩,Z,Z,Z⟩
  have A:Kg b a i=false:=y;refine Ul fun R c=>Uq _ Z U6<|C6 1 [6,7,8,14,15] c Z<|Uw (m':=a.length-(i+1)) om_ F (hn_ [6,7,8,14,15] Z) ⟨i+1,k,⟨by omega,H,by rw [RW,Se,QG,l];simp [A]⟩,Z,Z,Z⟩
 have x:i=a.length:=by
  have:¬ i<a.length:=by simpa using w
  omega
 refine Uh 3 [4] Z<|Up U2<|⟨?_,Z⟩;rw [x] at v l;unfold JM;rw [v,l,TT];congr 1;rw [T6,QK];simp;omega
/-! The sides of triangles, in order. -/
def pi (t:Tri):List fy:=[nZ t 0,nZ t 1,nZ t 2]
def bO (tris:List Tri):List fy:=tris.flatMap pi
theorem Bt (t:Tri)(a:k<3):(pi t)[k]?=some (nZ t k):=by
 rcases (by omega:k=0∨k=1∨k=2) with rfl | rfl | rfl <;> rfl
theorem pM (m:Om)(i:Nat)(t:Tri):∀ k,k<=3->(m.map (·.1)++(pi t).take k).Nodup->(EL m i t k).map (·.1)=m.map (·.1)++(pi t).take k
 | 0,_,_=>by simp [EL]
 | k+1,e,a=>by
  have h3:=Bt t (show k<3 by omega);rw [Q4,h3,R5,<- Q8] at a ⊢;have b:=(Sa.1 a);have c:=pM m i t k om_ b.1;have d:dY (EL m i t k) (nZ t k)=none:=by
   rw [cC,c];intro h;exact b.2.2 _ h _ al Z
  rw [EL,jS d,Rh,c];rfl
theorem pg {a:List Tri}{t:Tri}(h:a[n]?=some t):bO (a.take (n+1))=bO (a.take n)++pi t:=by
 unfold bO;rw [Q4,h,List.flatMap_append];simp
theorem rT {a:List Tri}(h:(bO a).Nodup)(n:Nat):(bO (a.take n)).Nodup:=by
 have:bO a=bO (a.take n)++bO (a.drop n):=by
  unfold bO;rw [<- List.flatMap_append,RB]
 rw [this] at h;exact (Sa.1 h).1
theorem fK {a:List Tri}(h:(bO a).Nodup):∀ n,n<=a.length->(xh a n).map (·.1)=bO (a.take n)
 | 0,_=>by simp [xh,bO]
 | n+1,d=>by
  have b:a[n]?=some a[n]:=aj om_;have h1:=rT h (n+1);rw [pg b] at h1 ⊢;have c:=fK h n om_;rw [xh,am,b];show (EL (xh a n) n a[n] 3).map (·.1)=_;rw [pM _ _ _ 3 (Qz _) (by rw [c];exact h1),c];rfl
theorem sn {a:List Tri}(h:(bO a).Nodup)(i:Nat)(t:Tri)(k:Nat)(b:a[i]?=some t)(d:k<3):dY (EL (xh a i) i t k) (nZ t k)=none:=by
 have e:=(aL.1 b).1;have h1:=rT h (i+1);rw [pg b] at h1;have c:=fK h i om_;have h3:=Bt t d;have h2:(bO (a.take i)++(pi t).take (k+1)).Nodup:=by
  refine List.Nodup.sublist (List.Sublist.append (List.Sublist.refl _) (List.take_sublist _ _)) h1
 rw [Q4,h3,R5,<- Q8] at h2;have h4:=Sa.1 h2;rw [cC,pM _ _ _ k om_ (by rw [c];exact h4.1),c];intro h5;exact h4.2.2 _ h5 _ al Z
theorem vT {B:List fy}{d:Int}:∀ (k:Nat)(p:Int)(out r:List Int),iO B d k p out=some r->(∀ z∈out,z∈B.map (·.1))->∀ z∈r,z∈B.map (·.1)
 | 0,p,out,r,h,b=>by simp only [iO,Rk] at h;subst h;exact b
 | k+1,p,out,r,h,b=>by
  simp only [iO] at h;cases c:dY B p with
  | none=>rw [c] at h;cases h
  | some q =>
   rw [c] at h;simp only at h;split at h
   ·cases h
   refine vT k q _ r h (fun z a=>?_);rcases QS.1 a with a | a
   ·exact b z a
   rw [QY.1 a];exact SN (f:=(·.1)) (gk c)
theorem vU {B:List fy}{b:Int}:∀ (k:Nat)(p:Int)(out r:List Int),iO B b k p out=some r->r.length=out.length+k
 | 0,p,out,r,h=>by simp only [iO,Rk] at h;subst h;rfl
 | k+1,p,out,r,h=>by
  simp only [iO] at h;cases a:dY B p with
  | none=>rw [a] at h;cases h
  | some q =>
   rw [a] at h;simp only at h;split at h
   ·cases h
   have:=vU k q _ r h;simp at this;omega
theorem BV {c:List fy}:∀ z∈xi c,z∈c.map (·.1):=by
 intro z a;unfold xi at a;cases b:EM c with
 | none=>rw [b] at a;simp at a
 | some r =>
  rw [b] at a;simp only [RT] at a;unfold EM at b;split at b
  ·have:=vT _ _ _ _ b al z a;obtain ⟨s,hs,rfl⟩:=QE.1 this;exact SN (f:=(·.1)) (R7.1 hs).1
  cases b
theorem JK (a:List fy):(xi a).length<=a.length:=by
 unfold xi;cases b:EM a with
 | none=>simp
 | some r =>
  unfold EM at b;split at b
  ·have:=vU _ _ _ _ b;have h2:=Sm (ju a) a;simp at this ⊢;omega
  cases b
def nD (n:Nat)(t:Tri):Prop:=t.1<n/\t.2.1<n/\t.2.2<n
theorem I6 {t:Tri}(h:nD n t):∀ s∈pi t,0<=s.1/\s.1.toNat<n:=by
 obtain ⟨h1,h2,h3⟩:=h;intro s hs;simp only [pi,QQ,RJ,S5] at hs;rcases hs with rfl | rfl | rfl <;> simp [nZ,EK] <;> omega
theorem ph {a:List Tri}(h:∀ t∈a,nD n t):∀ s∈bO a,0<=s.1/\s.1.toNat<n:=by
 intro s hs;obtain ⟨t,b,hs⟩:=List.mem_flatMap.1 hs;exact I6 (h t b) s hs
theorem mX (a:List Tri):(bO a).length=3*a.length:=by
 induction a with
 | nil=>rfl
 | cons t l b =>
  have:bO (t::l)=pi t++bO l:=rfl;rw [this,QG,b];simp [pi];omega
def fR (tris:List Tri):List Nat:=(xi (bO tris)).map Int.toNat
theorem Ep {a:List Tri}(h:∀ t∈a,nD n t):∀ z∈fR a,z<n:=by
 intro z b;obtain ⟨y,hy,rfl⟩:=QE.1 b;obtain ⟨s,hs,rfl⟩:=QE.1 (BV y hy);exact (ph h s hs).2
theorem Aa {a:List Tri}(h:∀ t∈a,nD n t):(xi (bO a)).map oy=(fR a).map aT:=by
 unfold fR;rw [RC];refine List.map_congr_left (fun y hy=>?_);obtain ⟨s,hs,rfl⟩:=QE.1 (BV y hy);have:=(ph h s hs).1;show oy s.1=aT s.1.toNat;unfold oy aT;rw [Int.toNat_of_nonneg this]
/-! Sets of ints as maps. -/
def Iv (ks:List Int):List (Int × Value):=ks.map fun z=>(z,.bool true)
def PI (ks:List Int)(z:Int):List Int:=if z∈ks then ks else ks++[z]
theorem Jd (a:List Int):(Iv a).length=a.length:=by simp [Iv]
theorem xo:∀ {ks:List Int}{z:Int},iK (Iv ks) z (.bool true)=Iv (PI ks z)
 | [],z=>by simp [Iv,iK,PI]
 | k::ks,z=>by
  have a:=xo (ks:=ks) (z:=z);unfold Iv at a ⊢;simp only [Ri,iK];by_cases e:k=z
  ·subst e;simp [PI]
  have b:¬ z=k:=fun h=>e h.symm;rw [aF e,a];unfold PI;by_cases h:z∈ks
  ·simp [h]
  simp [h,b]
def Mi (ks:List Int)(t:Tri):Nat->List Int
 | 0=>ks
 | k+1=>PI (Mi ks t k) (EK t k)
def vZ (tris:List Tri):Nat->List Int
 | 0=>[]
 | n+1=>Mi (vZ tris n) (tris.getD n (0,0,0)) 3
theorem qI (t:Tri)(a:k<3):(iu t)[k]?=some (.int .i64 (EK t k)):=by
 rcases (by omega:k=0∨k=1∨k=2) with rfl | rfl | rfl <;> rfl
theorem Eo {a:List Tri}(h:decide (xi (bO a)≠[])=true):0<(fR a).length:=by
 unfold fR;rw [ar];exact Rn.2 (PZ h)
theorem H3 (a:List Tri):decide (xi (bO a)≠[])=decide (fR a≠[]):=by
 rw [Ry];unfold fR;simp
def nH (pts:List Pt)(tris:List Tri):Bool:=decide (fR tris≠[]) && (decide ((vZ tris tris.length).length=pts.length) && JM pts (fR tris))
theorem tO (C:Mem)(J:Tabs C)(x y:Value)(c:List Pt)(a:List Tri)(K:a≠[])(k:Sl C 2 x (c.map gl))(g:Sl C 3 y (a.map iu))(d:(bO a).Nodup)(l:∀ t∈a,nD c.length t)(L:∀ p∈c,QP 1 p)(z:a.length<=10000) :
  Gives cx.P 130 [.agg ⟨[x,y]⟩] C (.bool (nH c a)):=by
 obtain ⟨V,W,rfl,M,X,_⟩:=id k;obtain ⟨A2,c2,rfl,N,Y,_⟩:=id g;have aa:maxLen<=9223372036854775807:=by simp [maxLen]
 simp only [ar] at k g M N ⊢;refine Ur func130 55 U3 fun w0=>Ul fun R b=>UC U6 fun A=>C6 1 [1] b Z<|G.freeze 0 Z fun _ B e=>Ul fun R b=>Uj (PtrTo.block (Mem.get e mup) _) U8<|UR (xg _ _ _ a K g.m_ (sn d)) U7 (fun ab _ _ O=>?_);obtain ⟨n,rfl,Q⟩:=O;refine C6 5 [1,3,4] b Z<|Uh 2 [1,3,18] Z<|G.cd (fun E=>?_) fun E=>?_
 ·exact absurd E dc_
 refine Ul fun R b=>D.makeMap keyZ Z Z Z Z fl_ fun f=>C6 1 [1,3,5] b Z<|Ui 1 Z fun R b=>Uj (PtrTo.block (Mem.get e mup) _) U8<|C6 2 [1,3,5,21,22,23] b Z<|G.loop (fun fr S h o=>∃ (i:Nat),(i<=a.length)/\fr=[(1,[],.pointer (some ⟨A,0,none⟩)),(3,[],.map (some n)),(5,[],.map (some f)),(21,[],.slice A2 a.length c2),(22,[],.int .i64 a.length),(23,[],.int .i64 i)]/\h=[.obj f (aV keyZ.enc (Iv (vZ a i)))]/\o=a.length-i) (hn_ [1,3,5,21,22,23] Z) ⟨0,QH _,Z,Z,Z⟩ (fun fr ac ad m _ q=>?_);obtain ⟨i,hi,rfl,rfl,rfl⟩:=q;refine Uh 1 [1,3,5,21,22,23,24] Z<|G.cd (fun r=>?_) fun r=>?_
 ·have u:i<a.length:=by simpa using r
  obtain ⟨t,F⟩:∃ t,a[i]?=some t:=⟨a[i],aj u⟩;refine Ul fun R b=>Uy g.m_ U10 om_ (by rw [QD,F];rfl:(a.map iu)[i]?=some (iu t)) fl_ fun ae T=>Uj T U8<|UB U5 fun b7=>Us (j:=0) U12<|Un [1,3,5,7,21,22,23] b Z<|Ul fun R b=>Uo ag U9<|C6 1 [1,3,5,21,22,23,27,28] b Z<|UY 0 Z<|G.loop (fun fr S h o=>∃ (j:Nat),(j<=3)/\fr=[(1,[],.pointer (some ⟨A,0,none⟩)),(3,[],.map (some n)),(5,[],.map (some f)),(21,[],.slice A2 a.length c2),(22,[],.int .i64 a.length),(23,[],.int .i64 i),(27,[],.agg ⟨iu t⟩),(28,[],.int .i64 j)]/\h=[.obj f (aV keyZ.enc (Iv (Mi (vZ a i) t j)))]/\o=3-j) (hn_ [1,3,5,21,22,23,27,28] Z) ⟨0,QH _,Z,Z,Z⟩ (fun fr af ah m B q=>?_);obtain ⟨j,hj,rfl,rfl,rfl⟩:=q;refine Uh 1 [1,3,5,21,22,23,27,28,29] Z<|G.cd (fun v=>?_) fun v=>?_
  ·have w:j<3:=by
    simp only [QK] at v;omega
   refine Ul fun R b=>Vj U11 (fun _=>⟨by omega,by omega,qI t w⟩) U2<|C6 1 [1,3,5,9,21,22,23,27,28] b Z<|Ui 2 Z fun R b=>D.mapUpdate keyZ (j:=0) Z Z Z Z Z Z Z Z Z Z kr_<|Un [1,3,5,21,22,23,27,28] b Z<|Ul fun R b=>Uq _ Z U6<|C6 1 [1,3,5,21,22,23,27,28] b Z ?_;rw [xo];refine Uw (m':=3-(j+1)) om_ B (hn_ [1,3,5,21,22,23,27,28] Z) ⟨j+1,om_,Z,Z,Z⟩
  have w:j=3:=by
   simp only [Q7] at v;omega
  subst w;refine Ul fun R b=>Uq _ Z U6<|C6 1 [1,3,5,21,22,23] b Z<|Uz (L':=[.obj f (aV keyZ.enc (Iv (vZ a (i+1))))]) (by rw [vZ,am,F];rfl)<|Uw (m':=a.length-(i+1)) om_ mup (hn_ [1,3,5,21,22,23] Z) ⟨i+1,om_,Z,Z,Z⟩
 have u:i=a.length:=by
  have:¬ i<a.length:=by simpa using r
  omega
 subst u;refine Ul fun R b=>Uj (PtrTo.block (Mem.get e mup) _) U8<|Uk U6<|UK (JI _ _ _ n (xh a a.length) (Mem.get Q mup) (by rw [fK d _ (Qz _),QM];exact d) (by rw [fK d _ (Qz _),QM];exact fun s hh=>(ph l s hh).1) (by have:=congrArg List.length (fK d _ (Qz _));rw [QM,mX,ar] at this;omega)) U7 fl_ (fun ai _ _ H=>?_);rw [fK d _ (Qz _),QM] at H;obtain ⟨bv,rfl,I⟩:=H;rw [Aa l] at I;refine C6 5 [1,5,10,11] b Z<|UI [(3,1)] Z fun R b=>Um 3 Z<|Wc keyZ.enc ag Z Z Z Z Z Z Z Z Z<|Uk U6<|UM U6 (fun _=>PtrTo.block (Mem.get e mup) _) U3<|Um 2 Z<|UJ U8<|Uk U6<|UM U6 (fun _=>PtrTo.block (Mem.get e mup) _) U3<|Uk U6<|UG (fun U=>(Nc _ J.m_ _ _ bv c (fR a) k.m_ I.m_ (by exact Eo (T7.1 (show (decide (xi (bO a)≠[]) && _)=true/\True from U).1).1) (Ep l) L (by have:=JK (bO a);rw [mX] at this;unfold fR;rw [ar];omega))) U9<|UJ U8<|C6 1 [2] b Z<|Up U2<|⟨?_,Z⟩;have z:(((Iv (vZ a a.length)).length:Int) == (c.length:Int))=decide ((vZ a a.length).length=c.length):=by
  rw [Jd,T6,Sj,QK];omega
 unfold nH;rw [<- H3,<- z,<- Bool.and_assoc]
noncomputable def kP2:KeyP cx.P 34 (Str × Str):=Ql rfl rfl rfl dc_ dc_ rfl rfl kr_
def ptK (p:Pt):Str × Str:=(qtx p.1,qtx p.2)
theorem MZ {p q:Pt}(h:ptK p=ptK q):p=q:=by
 have h1:=lO (congrArg (·.1) h);have h2:=lO (congrArg (·.2) h);exact Prod.ext h1 h2
def JU (l:List Pt):List ((Str × Str) × Value):=l.map fun p=>(ptK p,.bool true)
theorem Cc {l:List Pt}{p:Pt}(h:p ∉ l):dY (JU l) (ptK p)=none:=by
 rw [cC];unfold JU;rw [RC];intro hm;obtain ⟨q,a,b⟩:=QE.1 hm;exact h (MZ b ▸ a)
theorem Nq {l:List Pt}{p:Pt}(h:p ∉ l):iK (JU l) (ptK p) (.bool true)=JU (l++[p]):=by
 rw [jS (Cc h)];simp [JU]
def oB (n:Nat)(X:Nat->Nat->Bool):Bool:=(List.range n).any fun i=>(List.range i).any fun k=>X i k
def zl (pts:List Pt)(tris:List Tri)(X:Nat->Nat->Bool):Int:=if tris=[] then 13 else if nH pts tris then 0 else if oB tris.length X then 26 else 25
structure MeshOk (pts:List Pt)(tris:List Tri):Prop where
 q:∀ p∈pts,QP 1 p
 nd:pts.Nodup
 ins:∀ t∈tris,nD pts.length t
 pos:∀ t∈tris,0<cj (pts.getD t.1 (0,0)) (pts.getD t.2.1 (0,0)) (pts.getD t.2.2 (0,0))
 sides:(bO tris).Nodup
 lt:tris.length<=800
 lp:pts.length<=400
theorem pE {a:List Pt}(h:i<a.length):a[i]?=some (a.getD i (0,0)):=by
 rw [am,aj h];rfl
theorem BI {a:List Pt}(h:i<a.length):a.getD i (0,0)∈a:=aX (pE h)
def dw (t:Tri)(j:Nat):Nat:=if j=0 then t.1 else if j=1 then t.2.1 else t.2.2
theorem Bb (t:Tri)(j:Nat):EK t j=(dw t j:Nat):=by
 unfold EK dw;split
 ·rfl
 split <;> rfl
theorem eo {t:Tri}(h:nD n t)(j:Nat):dw t j<n:=by
 obtain ⟨h1,h2,h3⟩:=h;unfold dw;split
 ·exact h1
 split <;> assumption
theorem OP (q:Rat):decide (eH q.num<=0)=!decide (0<q):=by
 have h1:=uk q;have h2:q.num=0 ↔ q=0:=Tj;rw [<- decide_not,Ry];have h3:¬ 0<q ↔ (q<0∨q=0):=by grind
 rw [h3,<- h1,<- h2];rcases eC q.num with h | h | h <;> omega
theorem GD (C:Mem)(H:Tabs C)(I J:Value)(c:List Pt)(b:List Tri)(X:Nat->Nat->Bool)(r:Sl C 2 I (c.map gl))(x:Sl C 3 J (b.map iu))(d:MeshOk c b)
  (V:b≠[]->nH c b=false->∀ D:Mem,C.le D->∀ i k:Nat,i<b.length->k<i->Gives cx.P 131 [.agg ⟨[I,J]⟩,.int .i64 i,.int .i64 k] D (.bool (X i k))) :
  Gives cx.P 65 [.agg ⟨[I,J]⟩] C (.int .i64 (zl c b X)):=by
 obtain ⟨A1,c1,rfl,ai,aA,_⟩:=id r;obtain ⟨A2,c2,rfl,ak,aB,_⟩:=id x;have aC:maxLen<=9223372036854775807:=by simp [maxLen]
 have aD:=d.lt;have aE:=d.lp;simp only [ar] at r x ai ak V ⊢;refine Ur func65 105 U3 fun w0=>Ul fun R a=>UC U6 fun u=>C6 1 [1] a Z<|G.freeze 0 Z fun _ _ f=>Ui 1 Z fun R a=>Uj (PtrTo.block (Mem.get f mup) _) U8<|C6 3 [1,12] a Z<|G.cd (fun y=>?_) fun y=>?_
 ·have h0:b=[]:=by
   have h:((b.length:Nat):Int)=0:=by simpa using y
   exact Rt om_
  exact Uh 1 [2] Z<|Up U2<|⟨by unfold zl;rw [aJ h0],Z⟩
 have h0:b≠[]:=by
  intro e;rw [e] at y;exact absurd y dc_
 refine Ui 1 Z fun R a=>Uj (PtrTo.block (Mem.get f mup) _) U8<|Um 4 Z<|UM U6 (fun _=>PtrTo.block (Mem.get f mup) _) U3<|Um 2 Z<|UN U8<|C6 1 [1,17] a Z<|G.cd (fun W=>?_) fun W=>?_
 ·exfalso;simp only [SA,QK] at W;omega
 refine Ul fun R a=>V7 kP2 Z Z Z Z fl_ fun K=>C6 1 [1,3] a Z<|Ui 1 Z fun R a=>Uj (PtrTo.block (Mem.get f mup) _) U8<|C6 2 [1,3,30,31,32] a Z<|G.loop (fun fr z g l=>∃ (i:Nat),(i<=c.length)/\fr=[(1,[],.pointer (some ⟨u,0,none⟩)),(3,[],.map (some K)),(30,[],.slice A1 c.length c1),(31,[],.int .i64 c.length),(32,[],.int .i64 i)]/\g=[.obj K (aV Ec (JU (c.take i)))]/\l=c.length-i) (hn_ [1,3,30,31,32] Z) ⟨0,QH _,Z,Z,Z⟩ (fun fr aG aH m _ n=>?_);obtain ⟨i,hi,rfl,rfl,rfl⟩:=n;refine Uh 1 [1,3,30,31,32,33] Z<|G.cd (fun Y=>?_) fun Y=>?_
 ·have o:i<c.length:=by simpa using Y
  obtain ⟨p,A⟩:∃ p,c[i]?=some p:=⟨c[i],aj o⟩;have B:=d.q p (aX A);have aa:p ∉ c.take i:=by
   intro hm;obtain ⟨j,v⟩:=Sc hm;rw [Rs] at v;split at v
   ·rename_i aI;have h3:=(aL.1 v);have h4:=(aL.1 A);have:=(List.getElem_inj d.nd).1 (h3.2.trans h4.2.symm);omega
   cases v
  have al:JU (c.take (i+1))=JU (c.take i++[p]):=by rw [Q4,A];rfl
  refine Ul fun R a=>Uy r.m_ U10 om_ (by rw [QD,A];rfl:(c.map gl)[i]?=some (gl p)) fl_ fun aK am=>Uj am U8<|UB U5 fun b5=>Us (j:=0) U12<|Un [1,3,5,30,31,32] a Z<|Ul fun R a=>Uo ag U9<|Uu (iG _ H.m_ (qtx p.1) (qtx p.2) (by have:=bg B.1 dc_;omega) (by have:=bg B.2 dc_;omega)) U7 fl_<|C6 1 [1,3,5,30,31,32,38] a Z<|G.cd (fun L=>?_) fun L=>?_
  ·exfalso;rw [bi (B.1.le dc_),bi (B.2.le dc_)] at L;exact absurd L dc_
  refine Ui 1 Z fun R a=>Uo ag U9<|V8 kP2 ae Z Z Z Z Z Z Z Z Z (congrArg (lX (.bool false) false) (Cc aa)) Z Z<|Un [1,3,5,30,31,32,41] a Z<|G.cd (fun ab=>?_) fun ab=>?_
  ·exact absurd ab dc_
  refine Ui 1 Z fun R a=>Uo ag U9<|V1 kP2 (j:=1) (key:=ptK p) Z Z Z Z Z Z Z Z Z Z<|Un [1,3,30,31,32] a Z<|Ul fun R a=>Uq _ Z U6<|C6 1 [1,3,30,31,32] a Z<|UY 1 Z<|Uz (L':=[.obj K (aV Ec (JU (c.take (i+1))))]) (by rw [al,<- Nq aa];rfl)<|Uw (m':=c.length-(i+1)) om_ mup (hn_ [1,3,30,31,32] Z) ⟨i+1,om_,Z,Z,Z⟩
 refine Ui 1 Z fun R a=>Uj (PtrTo.block (Mem.get f mup) _) U8<|C6 2 [1,46,47,48] a Z<|G.dropAll<|G.loop (fun fr z g l=>∃ (i:Nat),(i<=b.length)/\fr=[(1,[],.pointer (some ⟨u,0,none⟩)),(46,[],.slice A2 b.length c2),(47,[],.int .i64 b.length),(48,[],.int .i64 i)]/\g=[]/\l=b.length-i) (hn_ [1,46,47,48] Z) ⟨0,QH _,Z,Z,Z⟩ (fun fr aM aN m _ n=>?_);obtain ⟨i,hi,rfl,rfl,rfl⟩:=n;refine Uh 1 [1,46,47,48,49] Z<|G.cd (fun M=>?_) fun M=>?_
 ·have o:i<b.length:=by simpa using M
  obtain ⟨t,ht⟩:∃ t,b[i]?=some t:=⟨b[i],aj o⟩;have ac:=aX ht;have s:=d.ins t ac;have an:=d.pos t ac;refine Ul fun R a=>Uy x.m_ U10 om_ (by rw [QD,ht];rfl:(b.map iu)[i]?=some (iu t)) fl_ fun aO ao=>Uj ao U8<|UB U5 fun b7=>Us (j:=0) U12<|Un [1,7,46,47,48] a Z<|Ul fun R a=>Uo ag U9<|C6 1 [1,7,46,47,48,52,53] a Z<|G.loop (fun fr z g l=>∃ (j:Nat),(j<=3)/\fr=[(1,[],.pointer (some ⟨u,0,none⟩)),(7,[],.pointer (some ⟨b7,0,none⟩)),(46,[],.slice A2 b.length c2),(47,[],.int .i64 b.length),(48,[],.int .i64 i),(52,[],.agg ⟨iu t⟩),(53,[],.int .i64 j)]/\g=[.obj b7 (.cells ⟨iu t⟩ 65 (0,0))]/\l=3-j) (hn_ [1,7,46,47,48,52,53] Z) ⟨0,QH _,Z,Z,Z⟩ (fun fr aP aQ m ap n=>?_);obtain ⟨j,v,rfl,rfl,rfl⟩:=n;refine Uh 1 [1,7,46,47,48,52,53,54] Z<|G.cd (fun N=>?_) fun N=>?_
  ·have aq:j<3:=by
    simp only [QK] at N;omega
   have aR:=eo s j;refine Ul fun R a=>Vj U11 (fun _=>⟨by omega,by omega,(show (iu t)[((j:Nat):Int).toNat]?=some (.int .i64 ((dw t j:Nat):Int)) from by rw [<- Bb];exact qI t aq)⟩) U2<|C6 1 [1,7,9,46,47,48,52,53] a Z<|Ui 5 Z fun R a=>UM U6 (fun _=>PtrTo.block (Mem.get f mup) _) U3<|Um 2 Z<|UN U8<|Un [1,7,46,47,48,52,53,64] a Z<|G.cd (fun ad=>?_) fun ad=>?_
   ·exfalso;simp only [SA,QK] at ad;omega
   refine Ul fun R a=>Uq _ Z U6<|C6 1 [1,7,46,47,48,52,53] a Z<|Uw (m':=3-(j+1)) om_ ap (hn_ [1,7,46,47,48,52,53] Z) ⟨j+1,om_,Z,Z,Z⟩
  clear N;refine UD [0,1,2,3,4,5,6,7,8,9,10,11,12,13,14,15,16,17,18,19] [(18,1)] Z kr_ fun R hB a=>Uk U6<|Uj (PtrTo.block (Mem.get f mup) _) U8<|UE (0) U9 ah U2<|Uo ag U9<|Uy r.m_ U10 om_ (by rw [QD,show (((t.1:Nat):Int)).toNat=t.1 from Z,pE s.1];rfl:(c.map gl)[(((t.1:Nat):Int)).toNat]?=some (gl (c.getD t.1 (0,0)))) fl_ fun aS au=>Uj au U8<|Uk U6<|Uj (PtrTo.block (Mem.get f mup) _) U8<|UE (1) U9 ah U2<|Uo ag U9<|Uy r.m_ U10 om_ (by rw [QD,show (((t.2.1:Nat):Int)).toNat=t.2.1 from Z,pE s.2.1];rfl:(c.map gl)[(((t.2.1:Nat):Int)).toNat]?=some (gl (c.getD t.2.1 (0,0)))) fl_ fun aT av=>Uj av U8<|Uk U6<|Uj (PtrTo.block (Mem.get f mup) _) U8<|UE (2) U9 ah U2<|Uo ag U9<|Uy r.m_ U10 om_ (by rw [QD,show (((t.2.2:Nat):Int)).toNat=t.2.2 from Z,pE s.2.2];rfl:(c.map gl)[(((t.2.2:Nat):Int)).toNat]?=some (gl (c.getD t.2.2 (0,0)))) fl_ fun aU aw=>Uj aw U8<|UG (fun _=>(oU _ H.m_ (c.getD t.1 (0,0)) (c.getD t.2.1 (0,0)) (c.getD t.2.2 (0,0)) 1 dc_ dc_ (d.q _ (BI s.1)) (d.q _ (BI s.2.1)) (d.q _ (BI s.2.2)))) U9<|C6 1 [1,46,47,48,85] a Z<|G.cd (fun O=>?_) fun O=>?_
  ·exfalso;rw [OP,QV an] at O;exact absurd O dc_
  refine Ul fun R a=>Uq _ Z U6<|C6 1 [1,46,47,48] a Z<|G.dropAll<|Uw (m':=b.length-(i+1)) om_ mup (hn_ [1,46,47,48] Z) ⟨i+1,om_,Z,Z,Z⟩
 clear M;refine Ul fun R a=>Uj (PtrTo.block (Mem.get f mup) _) U8<|Uu (tO _ H.m_ _ _ c b h0 r.m_ x.m_ d.sides d.ins d.q om_) U7 fl_<|Un [1,88] a Z<|G.cd (fun Q=>?_) fun Q=>?_
 ·have w:nH c b=true:=Q;exact Uh 1 [2] Z<|Up U2<|⟨by unfold zl;rw [aF h0,aJ w],Z⟩
 have w:nH c b=false:=Q;refine Ui 1 Z fun R a=>Uj (PtrTo.block (Mem.get f mup) _) U8<|C6 2 [1,91,92] a Z<|G.loop (fun fr z g l=>∃ (i:Nat),(i<=b.length/\oB i X=false)/\fr=[(1,[],.pointer (some ⟨u,0,none⟩)),(91,[],.int .i64 b.length),(92,[],.int .i64 i)]/\g=[]/\l=b.length-i) (hn_ [1,91,92] Z) ⟨0,⟨QH _,Z⟩,Z,Z,Z⟩ (fun fr aW aY m _ n=>?_);obtain ⟨i,⟨aZ,E⟩,rfl,rfl,rfl⟩:=n;refine Uh 1 [1,91,92,93] Z<|G.cd (fun S=>?_) fun S=>?_
 ·have o:i<b.length:=by simpa using S
  refine Uh 2 [1,10,91,92] Z<|Uh 2 [1,10,91,92,95,96] Z<|G.loop (fun fr z g l=>∃ (k:Nat),(k<=i/\(List.range k).any (fun k=>X i k)=false)/\fr=[(1,[],.pointer (some ⟨u,0,none⟩)),(10,[],.int .i64 i),(91,[],.int .i64 b.length),(92,[],.int .i64 i),(95,[],.int .i64 i),(96,[],.int .i64 k)]/\g=[]/\l=i-k) (hn_ [1,10,91,92,95,96] Z) ⟨0,⟨QH _,Z⟩,Z,Z,Z⟩ (fun fr a0 a1 m ax n=>?_);obtain ⟨k,⟨a2,af⟩,rfl,rfl,rfl⟩:=n;refine Uh 1 [1,10,91,92,95,96,97] Z<|G.cd (fun T=>?_) fun T=>?_
  ·have F:k<i:=by simpa using T
   refine Uh 2 [1,10,11,91,92,95,96] Z<|Ul fun R a=>Uj (PtrTo.block (Mem.get f mup) _) U8<|Um 2 Z<|Ut (V h0 w _ mup i k o F) U7<|Un [1,10,91,92,95,96,102] a Z<|G.cd (fun U=>?_) fun U=>?_
   ·have ay:X i k=true:=U;have hc:oB b.length X=true:=Tz.2 ⟨i,QU.2 o,Tz.2 ⟨k,QU.2 F,ay⟩⟩;exact Uh 1 [2] Z<|Up U2<|⟨by unfold zl;rw [aF h0,w,aF dc_,aJ hc],Z⟩
   have az:X i k=false:=U;refine Ul fun R a=>Uq _ Z U6<|C6 1 [1,10,91,92,95,96] a Z<|Uw (m':=i-(k+1)) om_ ax (hn_ [1,10,91,92,95,96] Z) ⟨k+1,⟨by omega,by rw [RW,List.any_append,af];simp [az]⟩,Z,Z,Z⟩
  have F:k=i:=by
   have:¬ k<i:=by simpa using T
   omega
  subst F;refine Ul fun R a=>Uq _ Z U6<|C6 1 [1,91,92] a Z<|Uw (m':=b.length-(k+1)) om_ mup (hn_ [1,91,92] Z) ⟨k+1,⟨by omega,by unfold oB at E ⊢;rw [RW,List.any_append,E];simp [af]⟩,Z,Z,Z⟩
 have o:i=b.length:=by
  have:¬ i<b.length:=by simpa using S
  omega
 refine Uh 1 [2] Z<|Up U2<|⟨?_,Z⟩;rw [o] at E;unfold zl;rw [aF h0,w,aF dc_,E];rfl
structure Good (pts:List Pt)(tris:List Tri):Prop where
 ok:MeshOk pts tris
 ne:tris≠[]
 whole:nH pts tris=true
structure MeshIn (C:Mem)(mv:Value)(pts:List Pt)(tris:List Tri):Prop where
 ex:∃ v1 v2,mv=.agg ⟨[v1,v2]⟩/\Sl C 2 v1 (pts.map gl)/\Sl C 3 v2 (tris.map iu)
theorem MeshIn.mono {C D:Mem}{a:Value}{b:List Pt}{c:List Tri}(h:MeshIn C a b c)(d:C.le D):MeshIn D a b c:=by
 obtain ⟨e,f,h1,h2,h3⟩:=h.ex;exact ⟨e,f,h1,h2.mono d,h3.mono d⟩
theorem MeshIn.m_ {D:Mem}{a:Value}{b:List Pt}{c:List Tri}(h:MeshIn C a b c)(d:C.le D:=by exact mup):MeshIn D a b c:=MeshIn.mono h d
def nox:Nat->Nat->Bool:=fun _ _=>false
theorem gG (C:Mem)(f:Tabs C)(d:Value)(a:List Pt)(b:List Tri)(g:MeshIn C d a b)(c:Good a b):Gives cx.P 65 [d] C (.int .i64 0):=by
 obtain ⟨i,j,rfl,h1,h2⟩:=g.ex;have h:=GD C f i j a b nox h1 h2 c.ok (fun _ h3=>by rw [c.whole] at h3;cases h3);have e:zl a b nox=0:=by unfold zl;rw [aF c.ne,aJ c.whole]
 rwa [e] at h
def cor (pts:List Pt)(t:Tri)(j:Nat):Pt:=pts.getD (dw t j) (0,0)
def zu (pts:List Pt)(p:Pt)(t:Tri):Bool:=decide (0<=cj (cor pts t 0) (cor pts t 1) p) && decide (0<=cj (cor pts t 1) (cor pts t 2) p) && decide (0<=cj (cor pts t 2) (cor pts t 0) p)
def jU (pts:List Pt)(tris:List Tri)(p:Pt):List Nat:=(List.range tris.length).filter fun i=>zu pts p (tris.getD i (0,0,0))
theorem nS {a:List Pt}{b:List Tri}(h:MeshOk a b){t:Tri}(c:t∈b)(j:Nat):QP 1 (cor a t j):=h.q _ (BI (eo (h.ins t c) j))
theorem QP.le {k m:Nat}{p:Pt}(h:QP k p)(a:k<=m):QP m p:=⟨h.1.le a,h.2.le a⟩
theorem tj (C:Mem)(d:Value)(a:List Pt)(b:List Tri)(f:MeshIn C d a b)(g:MeshOk a b)(i:Nat)(t:Tri)(e:b[i]?=some t) :
  Gives cx.P 68 [d,.int .i64 i] C (NS (cor a t 0) (cor a t 1) (cor a t 2)):=by
 obtain ⟨h,j,rfl,h1,h2⟩:=f.ex;have c:=g.ins t (aX e);exact Eh C h j a b i t _ _ _ h1 h2 e (pE c.1) (pE c.2.1) (pE c.2.2)
theorem FN {p:Pt}(h:QP k p)(a:k<=1000):(qtx p.1).length<=999998/\(qtx p.2).length<=999998:=by
 have h1:=bg (h.1.le (S6 k)) om_;have h2:=bg (h.2.le (S6 k)) om_;exact ⟨by omega,by omega⟩
def PtR (p:Pt):Prop:=aW (qtx p.1)=true/\aW (qtx p.2)=true
theorem iF (C:Mem)(c:Tabs C)(p:Pt)(a:QP 23 p)(b:PtR p):Gives cx.P 66 [ptV p] C (.int .i64 0):=by
 have h:=iG C c (qtx p.1) (qtx p.2) (FN a dc_).1 (FN a dc_).2;rw [b.1,b.2] at h;exact h
theorem lY (C:Mem)(f:Tabs C)(A:Value)(c:List Pt)(a:List Tri)(p:Pt)(B:MeshIn C A c a)(E:Good c a)(F:QP 23 p)(g:PtR p) :
  Pur cx.P 18 [A,ptV p] C fun u D=>∃ v,u=.tuple #[v,.int .i64 0]/\Sl D 1 v ((jU c a p).map aT):=by
 have d:=E.ok;have V:=d.lt;have W:maxLen<=9223372036854775807:=by simp [maxLen]
 have h:=B;obtain ⟨X,Y,rfl,h1,h2⟩:=id B.ex;obtain ⟨A1,c1,rfl,aa,ab,_⟩:=id h1;obtain ⟨A2,c2,rfl,ac,ad,_⟩:=id h2;simp only [ar] at h1 h2 h ⊢;refine Ur func18 34 U3 fun w0=>Ul fun R b=>UC U6 fun N=>UC U6 fun O=>C6 2 [2,3] b Z<|G.freeze 1 Z fun _ _ k=>G.freeze 0 Z fun _ _ H=>Ul fun R b=>Uj (PtrTo.block (Mem.get k mup) _) U8<|Ut (gG _ f.m_ _ c a h.m_ E) U7<|C6 1 [2,3,6] b Z<|Uh 2 [2,3,6,12] Z<|G.cd (fun I=>?_) fun I=>?_
 ·exact absurd I dc_
 refine Ul fun R b=>Uj (PtrTo.block (Mem.get H mup) _) U8<|Ut (iF _ f.m_ p F g) U7<|C6 1 [2,3,16] b Z<|G.cd (fun J=>?_) fun J=>?_
 ·exact absurd J dc_
 refine Uh 1 [2,3,7] Z<|Ui 1 Z fun R b=>Uj (PtrTo.block (Mem.get k mup) _) U8<|C6 2 [2,3,7,19,20] b Z<|G.nilArr 3 1<|G.loop (fun fr C' K Q=>∃ (i:Nat)(out:List Nat)(w:Value),(i<=a.length/\out=(List.range i).filter (fun i=>zu c p (a.getD i (0,0,0))))/\fr=[(2,[],.pointer (some ⟨N,0,none⟩)),(3,[],.pointer (some ⟨O,0,none⟩)),(7,[],w),(19,[],.int .i64 a.length),(20,[],.int .i64 i)]/\K=[.arr w 3 1 out.length (out.map aT).flatten]/\Q=a.length-i) (hn_ [2,3,7,19,20] Z) ⟨0,[],_,⟨QH _,Z⟩,Z,Z,Z⟩ (fun fr ae af m _ S=>?_);obtain ⟨i,out,w,⟨hi,e⟩,rfl,rfl,rfl⟩:=S;refine Uh 1 [2,3,7,19,20,21] Z<|G.cd (fun l=>?_) fun l=>?_
 ·have n:i<a.length:=by simpa using l
  obtain ⟨t,o⟩:∃ t,a[i]?=some t:=⟨a[i],aj n⟩;have q:=aX o;have L:a.getD i (0,0,0)=t:=by rw [am,o];rfl
  have ag:out.length<=i:=by
   rw [e];exact QW (Sm _ _) al
  refine Uh 2 [2,3,7,8,19,20] Z<|UD [0,1,2,3,4] [(2,1),(4,1)] Z kr_ fun R hB b=>Uj (PtrTo.block (Mem.get k mup) _) U8<|Uk U6<|US (fun _=>(tj _ _ c a h.m_ d i t o)) U9<|Uj (PtrTo.block (Mem.get H mup) _) U8<|UG (fun _=>(G3 _ f.m_ (cor c t 0) (cor c t 1) (cor c t 2) p 23 dc_ dc_ ((nS d q 0).le dc_) ((nS d q 1).le dc_) ((nS d q 2).le dc_) F)) U9<|Un [2,3,7,8,19,20,27] b Z<|G.cd (fun s=>?_) fun s=>?_
  ·have x:zu c p t=true:=s;have z:(List.range (i+1)).filter (fun i=>zu c p (a.getD i (0,0,0)))=out++[i]:=by rw [RW,Se,<- e,List.filter_cons,L,x];rfl
   refine Ui 2 Z fun R b=>UF [aT i] U12 fun ah _ _ T=>D.append (j:=0) U11 T Z ax (by simp only [QA];omega) fl_ fun M=>C6 1 [2,3,7,19,20] b Z<|Ul fun R b=>Uq _ Z U6<|C6 1 [2,3,7,19,20] b Z<|Uz (L':=[.arr M 3 1 (out++[i]).length ((out++[i]).map aT).flatten]) (by simp [aT])<|Uw (m':=a.length-(i+1)) om_ mup (hn_ [2,3,7,19,20] Z) ⟨i+1,out++[i],M,⟨by omega,z.symm⟩,Z,Z,Z⟩
  have x:zu c p t=false:=s;have z:(List.range (i+1)).filter (fun i=>zu c p (a.getD i (0,0,0)))=out:=by rw [RW,Se,<- e,List.filter_cons,L,x];simp
  refine Ul fun R b=>Uq _ Z U6<|C6 1 [2,3,7,19,20] b Z<|Uw (m':=a.length-(i+1)) om_ mup (hn_ [2,3,7,19,20] Z) ⟨i+1,out,w,⟨by omega,z.symm⟩,Z,Z,Z⟩
 have n:i=a.length:=by
  have:¬ i<a.length:=by simpa using l
  omega
 refine Uh 3 [4,5] Z<|G.freezeArr 0 (out.map aT) rfl rfl (by intro r g;obtain ⟨y,_,rfl⟩:=QE.1 g;rfl) al fun Cg hg U=>Uv (G.dropAll (UH U3 ?_));refine ⟨Z,_,Z, ?_⟩;rw [n] at e;unfold jU;rw [<- e];exact U
theorem qR (C:Mem)(g:Tabs C)(d:Value)(a:List Pt)(b:List Tri)(p:Pt)(e:MeshIn C d a b)(h:Good a b)(i:QP 23 p)(j:PtR p) :
  Gives cx.P 117 [d,ptV p] C (.tuple #[.bool (decide (jU a b p≠[])),.int .i64 0]):=by
 have k:=e;obtain ⟨n,o,rfl,h1,h2⟩:=id e.ex;refine Ur func117 18 U3 fun w0=>Ul fun R c=>UC U6 fun q=>UC U6 fun r=>C6 2 [2,3] c Z<|Ul fun R c=>Uo ae U9<|Uo ag U9<|UR (lY _ g.m_ _ a b p k.m_ h i j) U7 (fun s _ _ l=>?_);obtain ⟨t,rfl,m⟩:=l;obtain ⟨u,v,f,_⟩:=id m;rw [ar] at f;subst f;refine C6 5 [6,7] c Z<|Uh 6 [4,5] Z<|Uv (G.dropAll (UH U3 ?_));refine ⟨?_,Z⟩;have:decide (((jU a b p).length:Int) > 0)=decide (jU a b p≠[]):=by
  rw [Ry,<- Rn];omega
 rw [<- this]
theorem zU (C:Mem)(j:Tabs C)(d:Value)(c:List Pt)(b:List Tri)(i:Nat)(e:MeshIn C d c b)(k:Good c b)(l:i<b.length) :
  Gives cx.P 69 [d,.int .i64 i] C (.int .i64 0):=by
 have f:=e;obtain ⟨m,n,rfl,h1,h2⟩:=id e.ex;obtain ⟨A2,c2,rfl,o,p,_⟩:=id h2;simp only [ar] at h1 h2 f ⊢;refine Ur func69 20 U3 fun w0=>Ul fun R a=>UC U6 fun q=>C6 1 [1,2] a Z<|Ul fun R a=>Uo ag U9<|Ut (gG _ j.m_ _ c b f.m_ k) U7<|C6 1 [1,2,5] a Z<|Uh 2 [1,2,5,9] Z<|G.cd (fun g=>?_) fun g=>?_
 ·exact absurd g dc_
 refine Ui 5 Z fun R a=>Uo ag U9<|Um 2 Z<|UN U8<|Un [19] a Z<|G.cd (fun h=>?_) fun h=>?_
 ·exfalso;simp only [SA,QK] at h;omega
 exact Uh 1 [4] Z<|Up U2<|⟨Z,Z⟩
def wgt (pts:List Pt)(t:Tri)(p:Pt)(j:Nat):Rat:=cj p (cor pts t ((j+1) % 3)) (cor pts t ((j+2) % 3)) / cj (cor pts t 0) (cor pts t 1) (cor pts t 2)
theorem ip {a:List Pt}{b:List Tri}(c:MeshOk a b){t:Tri}(d:t∈b):cj (cor a t 0) (cor a t 1) (cor a t 2)≠0:=by
 have h:=c.pos t d;intro e;have f:cj (a.getD t.1 (0,0)) (a.getD t.2.1 (0,0)) (a.getD t.2.2 (0,0))=0:=e;rw [f] at h;exact absurd h dc_
theorem wE (C:Mem)(g:Tabs C)(x:Value)(c:List Pt)(h:List Tri)(p:Pt)(i:Nat)(t:Tri)(y:MeshIn C x c h)(z:Good c h)(l:QP 23 p)(O:PtR p)(o:h[i]?=some t)(q:∀ j,QB 22 (wgt c t p j)) :
  Gives cx.P 19 [x,.int .i64 i,ptV p] C (.tuple #[.agg ⟨[af (qtx (wgt c t p 0)),af (qtx (wgt c t p 1)),af (qtx (wgt c t p 2))]⟩,.int .i64 0]):=by
 have r:=z.ok;have A:=aX o;have Q:=(aL.1 o).1;have B:=y;obtain ⟨v1,v2,rfl,h1,h2⟩:=id y.ex;have e:=fun j=>(nS r A j).le (show 1<=23 by decide);have s:=ip r A;have u:∀ a b,QP 23 a->QP 23 b->QB 189 (cj p a b):=fun a b S T=>(Am l S T).le dc_;have v:QB 189 (cj (cor c t 0) (cor c t 1) (cor c t 2)):=(Am (e 0) (e 1) (e 2)).le dc_;refine Ur func19 69 U3 fun w0=>Ul fun R d=>UC U6 fun b3=>UC U6 fun U=>UB U5 fun D=>C6 1 [1,3,5,6] d Z<|G.freeze 2 Z fun _ _ E=>G.freeze 1 Z fun _ _ n=>Ul fun R d=>Uj (PtrTo.block (Mem.get E mup) _) U8<|Uk U6<|Ut (zU _ g.m_ _ c h i B.m_ z Q) U7<|C6 1 [1,3,5,6,8] d Z<|Uh 2 [1,3,5,6,8,18] Z<|G.cd (fun F=>?_) fun F=>?_
 ·exact absurd F dc_
 refine Ul fun R d=>Uj (PtrTo.block (Mem.get n mup) _) U8<|Ut (iF _ g.m_ p l O) U7<|C6 1 [1,3,5,6,23] d Z<|G.cd (fun H=>?_) fun H=>?_
 ·exact absurd H dc_
 refine Ul fun R d=>Uj (PtrTo.block (Mem.get E mup) _) U8<|Uk U6<|Ut (tj _ _ c h B.m_ r i t o) U7<|UB U5 fun V=>Us (j:=0) U12<|Un [5,6,9] d Z<|G.freeze 0 Z fun _ _ f=>Ul fun R d=>UB U5 fun I=>Un [5,6,9,10] d Z<|Uh 1 [5,6,9,10,28] Z<|G.loop (fun fr C' W X=>∃ (j:Nat),(j<=3)/\fr=[(5,[],.pointer (some ⟨U,0,none⟩)),(6,[],.pointer (some ⟨D,0,none⟩)),(9,[],.pointer (some ⟨V,0,none⟩)),(10,[],.pointer (some ⟨I,0,none⟩)),(28,[],.int .i64 j)]/\W=[.obj I (.cells ⟨(List.range 3).map fun k=>if k<j then af (qtx (wgt c t p k)) else af []⟩ 61 (0,0)),.obj D (.cells ⟨[af [],af [],af []]⟩ 61 (0,0))]/\X=3-j) (hn_ [5,6,9,10,28] Z) ⟨0,QH _,Z,Z,Z⟩ (fun fr aa ab m _ Y=>?_);obtain ⟨j,hj,rfl,rfl,rfl⟩:=Y;refine Uh 1 [5,6,9,10,28,29] Z<|G.cd (fun w=>?_) fun w=>?_
 ·have J:j<3:=by
   simp only [QK] at w;omega
  rcases (by omega:j=0∨j=1∨j=2) with rfl | rfl | rfl
  ·refine Uh 2 [5,6,9,10,11,28] Z<|UD [0,1,2,3,4,5,6,7,8,9,10,11,12,13,14,15,16,17,18,19,20,21,22,23,24,25] [(12,1),(19,1),(20,1)] Z kr_ fun R K d=>Uk U6<|Uj (PtrTo.block (Mem.get n mup) _) U8<|Uk U6<|Uq _ Z U6<|Vt U6 om_ om_ U2<|UE (_) U9 ah U2<|Uj (bkT f 2) U8<|Uk U6<|Uq _ Z U6<|Vt U6 om_ om_ U2<|UE (_) U9 ah U2<|Uj (bkT f 2) U8<|UG (fun _=>(li _ g.m_ p (cor c t ((0+1) % 3)) (cor c t ((0+2) % 3)) 23 dc_ dc_ l (e _) (e _))) U9<|UE (0) U9 ah U2<|Uj (bkT f 2) U8<|UE (2) U9 ah U2<|Uj (bkT f 2) U8<|UE (4) U9 ah U2<|Uj (bkT f 2) U8<|UG (fun _=>(li _ g.m_ (cor c t 0) (cor c t 1) (cor c t 2) 23 dc_ dc_ (e 0) (e 1) (e 2))) U9<|UG (fun _=>(gW _ g.m_ _ _ 189 dc_ dc_ (u _ _ (e _) (e _)) v s)) U9<|Um 3 Z<|UE (_) U9 ah U2<|Us (j:=0) U12<|Un [5,6,9,10,11,28] d Z<|Ui 1 Z fun R d=>UE (_) U9 ah U2<|Uo ag U9<|Ut (ug _ g.m_ (wgt c t p 0) (q 0)) U7<|C6 5 [5,6,9,10,13,28] d Z<|Uh 2 [5,6,9,10,13,28,64] Z<|G.cd (fun L=>?_) fun L=>?_
   ·exact absurd L dc_
   refine Ul fun R d=>Uq _ Z U6<|C6 1 [5,6,9,10,28] d Z<|Uw (m':=2) om_ mup (hn_ [5,6,9,10,28] Z) ⟨1,by decide,Z,Z,Z⟩
  ·refine Uh 2 [5,6,9,10,11,28] Z<|UD [0,1,2,3,4,5,6,7,8,9,10,11,12,13,14,15,16,17,18,19,20,21,22,23,24,25] [(12,1),(19,1),(20,1)] Z kr_ fun R K d=>Uk U6<|Uj (PtrTo.block (Mem.get n mup) _) U8<|Uk U6<|Uq _ Z U6<|Vt U6 om_ om_ U2<|UE (_) U9 ah U2<|Uj (bkT f 2) U8<|Uk U6<|Uq _ Z U6<|Vt U6 om_ om_ U2<|UE (_) U9 ah U2<|Uj (bkT f 2) U8<|UG (fun _=>(li _ g.m_ p (cor c t ((1+1) % 3)) (cor c t ((1+2) % 3)) 23 dc_ dc_ l (e _) (e _))) U9<|UE (0) U9 ah U2<|Uj (bkT f 2) U8<|UE (2) U9 ah U2<|Uj (bkT f 2) U8<|UE (4) U9 ah U2<|Uj (bkT f 2) U8<|UG (fun _=>(li _ g.m_ (cor c t 0) (cor c t 1) (cor c t 2) 23 dc_ dc_ (e 0) (e 1) (e 2))) U9<|UG (fun _=>(gW _ g.m_ _ _ 189 dc_ dc_ (u _ _ (e _) (e _)) v s)) U9<|Um 3 Z<|UE (_) U9 ah U2<|Us (j:=0) U12<|Un [5,6,9,10,11,28] d Z<|Ui 1 Z fun R d=>UE (_) U9 ah U2<|Uo ag U9<|Ut (ug _ g.m_ (wgt c t p 1) (q 1)) U7<|C6 5 [5,6,9,10,13,28] d Z<|Uh 2 [5,6,9,10,13,28,64] Z<|G.cd (fun M=>?_) fun M=>?_
   ·exact absurd M dc_
   refine Ul fun R d=>Uq _ Z U6<|C6 1 [5,6,9,10,28] d Z<|Uw (m':=1) om_ mup (hn_ [5,6,9,10,28] Z) ⟨2,by decide,Z,Z,Z⟩
  refine Uh 2 [5,6,9,10,11,28] Z<|UD [0,1,2,3,4,5,6,7,8,9,10,11,12,13,14,15,16,17,18,19,20,21,22,23,24,25] [(12,1),(19,1),(20,1)] Z kr_ fun R K d=>Uk U6<|Uj (PtrTo.block (Mem.get n mup) _) U8<|Uk U6<|Uq _ Z U6<|Vt U6 om_ om_ U2<|UE (_) U9 ah U2<|Uj (bkT f 2) U8<|Uk U6<|Uq _ Z U6<|Vt U6 om_ om_ U2<|UE (_) U9 ah U2<|Uj (bkT f 2) U8<|UG (fun _=>(li _ g.m_ p (cor c t ((2+1) % 3)) (cor c t ((2+2) % 3)) 23 dc_ dc_ l (e _) (e _))) U9<|UE (0) U9 ah U2<|Uj (bkT f 2) U8<|UE (2) U9 ah U2<|Uj (bkT f 2) U8<|UE (4) U9 ah U2<|Uj (bkT f 2) U8<|UG (fun _=>(li _ g.m_ (cor c t 0) (cor c t 1) (cor c t 2) 23 dc_ dc_ (e 0) (e 1) (e 2))) U9<|UG (fun _=>(gW _ g.m_ _ _ 189 dc_ dc_ (u _ _ (e _) (e _)) v s)) U9<|Um 3 Z<|UE (_) U9 ah U2<|Us (j:=0) U12<|Un [5,6,9,10,11,28] d Z<|Ui 1 Z fun R d=>UE (_) U9 ah U2<|Uo ag U9<|Ut (ug _ g.m_ (wgt c t p 2) (q 2)) U7<|C6 5 [5,6,9,10,13,28] d Z<|Uh 2 [5,6,9,10,13,28,64] Z<|G.cd (fun N=>?_) fun N=>?_
  ·exact absurd N dc_
  refine Ul fun R d=>Uq _ Z U6<|C6 1 [5,6,9,10,28] d Z<|Uw (m':=0) om_ mup (hn_ [5,6,9,10,28] Z) ⟨3,by decide,Z,Z,Z⟩
 have J:j=3:=by
  simp only [Q7] at w;omega
 subst J;refine Ul fun R d=>Uo ag U9<|Us (j:=1) U12<|C6 1 [6,7] d Z<|Uv (Vy ag U5 ?_);exact ⟨Z,Z⟩
end Go.Proofs.YtfjcldheldflbaaGreatDoor
