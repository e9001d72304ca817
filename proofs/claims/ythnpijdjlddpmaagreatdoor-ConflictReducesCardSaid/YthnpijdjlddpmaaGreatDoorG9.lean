/- Laws that the proofs of this seat share, part 9. -/
import Derived.Test.YthnpijdjlddpmaaGreatDoorG8
import Derived.Test.YthnpijdjlddpmaaGreatDoorShelf
set_option maxHeartbeats 4000000
namespace Go.Proofs.YthnpijdjlddpmaaGreatDoor
open Go.Proofs.Tryz
open Go Go.Jog
set_option maxRecDepth 100000
variable {C:Mem}{a b:Nat}{bv:Value}{i:Nat}{l:List Lay}{n:Nat}{v:Value}{vs:List Value}{x:Lay}{z:Int}
def GP (x:Lay):Bool:=match x.max with
 | none=>false
 | some m=>decide (m<x.min)
def LX (pre:List Lay)(x:Lay):Int:=if cY x.unit=false then 8 else if 0<=kf (isU x.unit) pre 0 then 9 else if x.min<0 then 3 else if GP x then 6 else 0
def Eb (l:List Lay):Nat->Int
 | 0=>0
 | n+1=>if Eb l n≠0 then Eb l n else LX (l.take n) (l.getD n ⟨[],0,none⟩)
def sS (l:List Lay):Int:=if l=[] then 13 else if 60<l.length then 4 else Eb l l.length
theorem xt {l:List Lay}{n:Nat}(h:Eb l n≠0):∀ m,n<=m->Eb l m=Eb l n
 | 0,hm=>by rw [show n=0 by omega]
 | m+1,hm=>by
  rcases Rr m n with h1 | h1
  ·rw [show n=m+1 by omega]
  have a:=xt h m h1;simp only [Eb,a];rw [aW h]
theorem LW (h:l[i]?=some x):l.getD i ⟨[],0,none⟩=x:=by rw [au,h,R9]
theorem Ch (a:Eb l i=0)(b:l[i]?=some x):Eb l (i+1)=LX (l.take i) x:=by
 simp only [Eb,a];rw [az dc_,LW b]
theorem uT (d:Eb l i=0)(a:l[i]?=some x)(b:LX (l.take i) x=z)(f:z≠0)(g:¬ 60<l.length):sS l=z:=by
 have c:=(aD.1 a).1;have h1:=Ch d a;unfold sS;rw [az (fun e=>by rw [e] at c;simp at c),az g,xt (n:=i+1) (by rw [h1,b];exact f) l.length om_,h1,b]
theorem N7 (C:Mem)(c:Tabs C)(a:Option Rat)(b:Rat)(d:QB 22 b)(e:∀ q,a=some q->QB 22 q)(h:(!((⟨(vy a).toArray⟩:ByteArray).data.toList == (⟨#[]⟩:ByteArray).data.toList))=true) :
  Gives cx.P 107 [ai (vy a),ai (qtx b)] C (.int .i64 (sU (a.getD 0) b)):=by
 rw [pH] at h;cases a with
 | none=>cases h
 | some q=>exact gX C c q b 22 dc_ dc_ (e q rfl) d
theorem BI (x:Lay):(x.max.isSome && decide (sU (x.max.getD 0) x.min<0))=GP x:=by
 unfold GP;cases x.max with
 | none=>rfl
 | some q =>
  show (true && decide (sU q x.min<0))=decide (q<x.min);unfold sU;by_cases h:q<x.min
  ·simp [h]
  rw [az h,Rj h];split <;> rfl
theorem uo (q:Rat):decide (eN q.num<0)=decide (q<0):=by
 rw [RC,<- Bd];rcases ep q.num with h | h | h <;> omega
theorem qI (C:Mem)(y:Tabs C)(v:Value)(l:List Lay)(k:Sl C 3 v (l.map yX))(F:∀ x∈l,Oz x)(S:l.length<=1000000):Gives cx.P 68 [v] C (.int .i64 (sS l)):=by
 obtain ⟨A,c0,rfl,H,T,_⟩:=id k;have U:maxLen<=9223372036854775807:=by simp [maxLen]
 simp only [al] at k H ⊢;refine UD func68 57 U3 fun w0=>Uu 1 [0] Z<|Uu 4 [0,6] Z<|Ux (fun n=>?_) fun n=>?_
 ·have h0:l=[]:=by
   have h:((l.length:Nat):Int)=0:=by simpa using n
   exact RB om_
  exact Uu 1 [2] Z<|UC U2<|⟨by rw [h0];rfl,Z⟩
 have h0:l≠[]:=by
  intro e;rw [e] at n;exact absurd n dc_
 refine Uu 4 [0,10] Z<|Ux (fun o=>?_) fun o=>?_
 ·have h60:60<l.length:=by
   simp only [QZ] at o;omega
  exact Uu 1 [2] Z<|UC U2<|⟨by unfold sS;rw [az h0,aW h60],Z⟩
 have h60:¬ 60<l.length:=by
  simp only [Ri] at o;omega
 refine Uu 3 [0,14,15,16] Z<|G.loop (fun fr C' I J=>∃ (i:Nat),(i<=l.length/\Eb l i=0)/\fr=[(0,[],.slice A l.length c0),(14,[],.slice A l.length c0),(15,[],.int .i64 l.length),(16,[],.int .i64 i)]/\I=[]/\J=l.length-i) (hn_ [0,14,15,16] Z) ⟨0,⟨QT _,Z⟩,Z,Z,Z⟩ (fun fr V W m K L=>?_);obtain ⟨i,⟨X,b⟩,rfl,rfl,rfl⟩:=L;refine Uu 1 [0,14,15,16,17] Z<|Ux (fun p=>?_) fun p=>?_
 ·have q:i<l.length:=by simpa using p
  obtain ⟨x,c⟩:∃ x,l[i]?=some x:=⟨l[i],aj q⟩;obtain ⟨r,B,M⟩:=F x (QQ c);have D:=Sl.sub k (l:=0) (h:=i) (m:=c0) (QT _) ap om_ (QO _);rw [R0,<- SC] at D;refine Uv 1 Z fun R a=>UK k.m_ U10 om_ (bY c) fl_ fun Y N=>Uw N U8<|UP U5 fun b4=>Uy U6<|UG (j:=0) U12<|UA [0,3,4,14,15,16] a Z<|Uz fun R a=>UE af U9<|UI (Kc _ y.m_ x ⟨r,B,M⟩) U7<|C4 1 [0,3,4,5,14,15,16] a Z<|Uu 2 [0,3,4,5,14,15,16,24] Z<|Ux (fun E=>?_) fun E=>?_
  ·exact absurd E dc_
  refine Uv 1 Z fun R a=>UE af U9<|UM (il _ x.unit om_) U7 fl_<|C4 2 [0,3,4,14,15,16,26] a Z<|Ux (fun s=>?_) fun s=>?_
  ·have d:cY x.unit=false:=by simpa using s
   exact Uu 1 [2] Z<|UC U2<|⟨by rw [uT (z:=8) b c (by unfold LX;rw [aW d]) dc_ h60],Z⟩
  have d:¬ cY x.unit=false:=by
   have h:cY x.unit=true:=by simpa using s
   rw [h];decide
  refine US [0,1,2,3,4,5,6,7] [(5,1)] Z kr_ fun R hB a=>UB 2 Z<|Vq 0 i c0 U12 (fun _=>⟨.inl ⟨Z,Z⟩,.inr ⟨_,Z⟩,.inl ⟨Z,Z⟩,by omega,by omega,by omega⟩) U2<|Uy U6<|UE af U9<|Vb (fun _=>(Ci _ _ (l.take i) x.unit D.m_)) U9<|C4 2 [0,4,14,15,16,31] a Z<|Ux (fun t=>?_) fun t=>?_
  ·have f:0<=kf (isU x.unit) (l.take i) 0:=by simpa using t
   exact Uu 1 [2] Z<|UC U2<|⟨by rw [uT (z:=9) b c (by unfold LX;rw [az d,aW f]) dc_ h60],Z⟩
  have f:¬ 0<=kf (isU x.unit) (l.take i) 0:=by simpa using t
  refine Uv 1 Z fun R a=>UE af U9<|UI (fX _ x.min (Do r)) U7<|C4 2 [0,4,14,15,16,39] a Z<|Ux (fun g=>?_) fun g=>?_
  ·have hs:x.min<0:=by
    rw [uo] at g;exact aJ g
   exact Uu 1 [2] Z<|UC U2<|⟨by rw [uT (z:=3) b c (by unfold LX;rw [az d,az f,aW hs]) dc_ h60],Z⟩
  have hs:¬ x.min<0:=by
   rw [uo] at g;exact QS g
  refine Uv 1 Z fun R a=>UE af U9<|UB 3 Z<|UE af U9<|Uy U6<|UE af U9<|UT (fun O=>(N7 _ y.m_ x.max x.min r B (by exact O.1))) U9<|Uy U6<|UU U8<|C4 1 [0,14,15,16,44] a Z<|Ux (fun u=>?_) fun u=>?_
  ·have w:GP x=true:=by
    rw [<- BI,<- pH];exact u
   exact Uu 1 [2] Z<|UC U2<|⟨by rw [uT (z:=6) b c (by unfold LX;rw [az d,az f,az hs,aW w]) dc_ h60],Z⟩
  have w:GP x=false:=by
   rw [<- BI,<- pH];exact u
  have Q:Eb l (i+1)=0:=by rw [Ch b c];unfold LX;rw [az d,az f,az hs,w];rfl
  refine Uz fun R a=>UF _ U7<|C4 1 [0,14,15,16] a Z<|G.dropAll<|UH (m':=l.length-(i+1)) om_ K (hn_ [0,14,15,16] Z) ⟨i+1,⟨by omega,Q⟩,Z,Z,Z⟩
 have q:i=l.length:=by
  have:¬ i<l.length:=by simpa using p
  omega
 refine Uu 1 [2] Z<|UC U2<|⟨?_,Z⟩;rw [q] at b;unfold sS;rw [az h0,az h60,b]
theorem zj (C:Mem)(f:Tabs C)(v:Value)(l:List Lay)(u:Str)(c:Sl C 3 v (l.map yX))(g:∀ x∈l,Oz x)(a:sS l=0)(i:Nat)(j:kf (isU u) l 0=(i:Nat)):Gives cx.P 197 [v,ai u] C (.tuple #[.int .i64 (i:Nat),.bool true,.int .i64 0]):=by
 have k:l.length<=1000000:=by
  unfold sS at a;split at a
  ·cases a
  split at a
  ·cases a
  omega
 refine UD func197 20 U3 fun w0=>Uu 3 [0,1] Z<|Uv 1 Z fun R b=>UM (by have h:=qI _ f.m_ v l c.m_ g k;rw [a] at h;exact h) U7 fl_<|C4 1 [0,1,7] b Z<|Uu 2 [0,1,7,12] Z<|Ux (fun d=>?_) fun d=>?_
 ·exact absurd d dc_
 refine Uv 2 Z fun R b=>UM (by have h:=Ci _ v l u c.m_;rw [j] at h;exact h) U7 fl_<|C4 1 [8] b Z<|Uu 2 [8,18] Z<|Ux (fun e=>?_) fun e=>?_
 ·refine Uu 4 [4,5,6] Z<|UJ (G.dropAll (Vv U4 ?_));exact ⟨Z,Z⟩
 exfalso;simp only [Ri] at e;omega
structure Obs where
 kind:Int
 name:Str
 x:Str
 y:Str
 depth:Str
 upper:Str
 lower:Str
 nx:Str
 ny:Str
 nz:Str
def Ix (o:Obs):List Value:=[.int .i64 o.kind,ai o.name,ai o.x,ai o.y,ai o.depth,ai o.upper,ai o.lower,ai o.nx,ai o.ny,ai o.nz]
structure ObsR (o:Obs):Prop where
 name:o.name.length<=999998
 x:o.x.length<=999998
 y:o.y.length<=999998
 depth:o.depth.length<=999998
 upper:o.upper.length<=999998
 lower:o.lower.length<=999998
 nx:o.nx.length<=999998
 ny:o.ny.length<=999998
 nz:o.nz.length<=999998
def kM (o:Obs):Bool:=(!cY o.name || !cY o.upper) || ((!(o.kind == 1)) && !cY o.lower)
def lK (o:Obs):Bool:=(!(bg o.x && bg o.y) || ((o.kind == 2) && !bg o.depth)) || ((o.kind == 3) && !(bg o.nx && bg o.ny && bg o.nz))
def kQ (o:Obs):Bool:=(((o.kind == 1) && !(o.lower == [])) || ((!(o.kind == 2)) && !(o.depth == []))) || ((!(o.kind == 3)) && !(decide (o.nx=[]/\o.ny=[]/\o.nz=[])))
def dQ (o:Obs):Int:=if o.kind<1∨3<o.kind then 12 else if kM o then 8 else if lK o then 2 else if kQ o then 7 else 0
theorem nil3 (a b c:Str):(!((a == []) && ((b == []) && ((c == []) && true))))=!decide (a=[]/\b=[]/\c=[]):=by
 cases a <;> cases b <;> cases c <;> rfl
theorem HS (b:Bool):(qK b != 0)=!b:=by cases b <;> rfl
theorem Je (C:Mem)(h:Tabs C)(o:Obs)(b:ObsR o):Gives cx.P 108 [.agg ⟨Ix o⟩] C (.int .i64 (dQ o)):=by
 have h1:=b.name;have h2:=b.upper;have h3:=b.lower;refine UD func108 87 U3 fun w0=>Uz fun R c=>UQ U6 fun m=>C4 1 [1] c Z<|G.freeze 0 Z fun _ _ a=>Uv 1 Z fun R c=>Uw (bkT a 1) U8<|UB 3 Z<|UY U6 (fun _=>PtrTo.blockT (Mem.get a mup) _ 1) U3<|Uy U6<|U1 U8<|UA [1,10] c Z<|Ux (fun i=>?_) fun i=>?_
 ·have d:o.kind<1∨3<o.kind:=by simpa using i
  exact Uu 1 [2] Z<|UC U2<|⟨by unfold dQ;rw [aW d],Z⟩
 have d:¬ (o.kind<1∨3<o.kind):=by simpa using i
 refine Uv 1 Z fun R c=>Uw (bkT a 1) U8<|UM (il _ o.name om_) U7 fl_<|UB 3 Z<|UY U6 (fun _=>PtrTo.blockT (Mem.get a mup) _ 1) U3<|UT (fun _=>(il _ o.upper om_)) U9<|Uy U6<|U1 U8<|UB 2 Z<|UY U6 (fun _=>PtrTo.blockT (Mem.get a mup) _ 1) U3<|UB 3 Z<|UY U6 (fun _=>PtrTo.blockT (Mem.get a mup) _ 1) U3<|UT (fun _=>(il _ o.lower om_)) U9<|Uy U6<|UU U8<|U1 U8<|UA [1,31] c Z<|Ux (fun j=>?_) fun j=>?_
 ·have e:kM o=true:=j;exact Uu 1 [2] Z<|UC U2<|⟨by unfold dQ;rw [az d,aW e],Z⟩
 have e:¬ kM o=true:=by rw [show kM o=false from j];decide
 refine Uv 1 Z fun R c=>Uw (bkT a 2) U8<|UI (iz _ h.m_ o.x o.y b.x b.y) U7<|UB 3 Z<|UY U6 (fun _=>PtrTo.blockT (Mem.get a mup) _ 1) U3<|UB 3 Z<|UY U6 (fun _=>PtrTo.blockT (Mem.get a mup) _ 1) U3<|Vb (fun _=>(dX _ h.m_ o.depth b.depth)) U9<|Uy U6<|UU U8<|U1 U8<|UB 2 Z<|UY U6 (fun _=>PtrTo.blockT (Mem.get a mup) _ 1) U3<|UB 3 Z<|UY U6 (fun _=>PtrTo.blockT (Mem.get a mup) _ 3) U3<|Vb (fun _=>(rC _ h.m_ o.nx o.ny o.nz b.nx b.ny b.nz)) U9<|Uy U6<|UU U8<|U1 U8<|UA [1,57] c Z<|Ux (fun f=>?_) fun f=>?_
 ·have g:lK o=true:=by
   simp only [HS] at f;exact f
  exact Uu 1 [2] Z<|UC U2<|⟨by unfold dQ;rw [az d,az e,aW g],Z⟩
 have g:¬ lK o=true:=by
  simp only [HS] at f;rw [show lK o=false from f];decide
 refine Uv 1 Z fun R c=>Uw (bkT a 1) U8<|UB 3 Z<|UY U6 (fun _=>PtrTo.blockT (Mem.get a mup) _ 1) U3<|Uy U6<|UU U8<|UB 2 Z<|UY U6 (fun _=>PtrTo.blockT (Mem.get a mup) _ 1) U3<|UB 3 Z<|UY U6 (fun _=>PtrTo.blockT (Mem.get a mup) _ 1) U3<|Uy U6<|UU U8<|U1 U8<|UB 2 Z<|UY U6 (fun _=>PtrTo.blockT (Mem.get a mup) _ 1) U3<|UB 3 Z<|UY U6 (fun _=>PtrTo.blockT (Mem.get a mup) _ 3) U3<|UO [ai [],ai [],ai []] U8<|WQ (!decide (o.nx=[]/\o.ny=[]/\o.nz=[])) kr_ Z Z Z Z Z Z Z Z (fun _=>(nil3 o.nx o.ny o.nz)) Z Z<|UU U8<|U1 U8<|UA [86] c Z<|Ux (fun k=>?_) fun k=>?_
 ·have l:kQ o=true:=k;exact Uu 1 [2] Z<|UC U2<|⟨by unfold dQ;rw [az d,az e,az g,aW l],Z⟩
 have l:¬ kQ o=true:=by rw [show kQ o=false from k];decide
 exact Uu 1 [2] Z<|UC U2<|⟨by unfold dQ;rw [az d,az e,az g,az l],Z⟩
noncomputable def dz (s:Str):Rat:=if h:bg s=true then (LH h).choose else 0
theorem dL {s:Str}(h:bg s=true):s=qtx (dz s)/\QB 23 (dz s):=by
 unfold dz;rw [dif_pos h];exact (LH h).choose_spec
theorem di {q:Rat}(h:bg (qtx q)=true):dz (qtx q)=q:=(lD (dL h).1).symm
noncomputable def ptO (o:Obs):Pt:=(dz o.x,dz o.y)
noncomputable def Iy (pts:List Pt)(tris:List Tri)(o:Obs):Bool:=decide (lO pts tris (ptO o)≠[])
def Mw (col:List Lay)(o:Obs):Bool:=decide (kf (isU o.upper) col 0<0) || ((!(o.kind == 1)) && decide (kf (isU o.lower) col 0<0))
def Nn (col:List Lay)(o:Obs):Bool:=(!(o.kind == 1)) && decide (kf (isU o.upper) col 0<=kf (isU o.lower) col 0)
noncomputable def KE (o:Obs):Bool:=(o.kind == 2) && decide (dz o.depth<0)
def Lq (o:Obs):Bool:=(o.kind == 3) && decide (o.nz=[48])
noncomputable def gD (pts:List Pt)(tris:List Tri)(col:List Lay)(o:Obs):Int :=
 if dQ o≠0 then dQ o else if Iy pts tris o=false then 28 else if Mw col o then 10 else if Nn col o then 6 else if KE o then 3 else if Lq o then 17 else 0
theorem rO {o:Obs}(h:dQ o=0):bg o.x=true/\bg o.y=true/\(o.kind=2->bg o.depth=true):=by
 unfold dQ at h;split at h
 ·cases h
 split at h
 ·cases h
 split at h
 ·cases h
 rename_i b;have a:lK o=false:=by simpa using b
 unfold lK at a;rw [Sq,Sq] at a;obtain ⟨⟨h1,h2⟩,_⟩:=a;have h3:(bg o.x && bg o.y)=true:=by simpa using h1
 rw [Q1] at h3;refine ⟨h3.1,h3.2,fun c=>?_⟩;rw [c] at h2;simpa using h2
theorem Pd {o:Obs}(h:dQ o=0):ptV (ptO o)=.agg ⟨[ai o.x,ai o.y]⟩/\QP 23 (ptO o)/\PtR (ptO o):=by
 obtain ⟨h1,h2,_⟩:=rO h;obtain ⟨a,c⟩:=dL h1;obtain ⟨b,d⟩:=dL h2;refine ⟨?_,⟨c,d⟩, ?_, ?_⟩
 ·unfold ptV gt ptO;rw [<- a,<- b]
 ·unfold ptO;rw [<- a];exact h1
 unfold ptO;rw [<- b];exact h2
theorem dU {k:Int}(h:(k == z)=true):k=z:=by simpa using h
theorem I7 (C:Mem)(s:Str)(h:bg s=true)(a:s.length<=999998):Gives cx.P 58 [ai s] C (.int .i64 (eN (dz s).num)):=by
 have e:=(dL h).1;have h2:=fX C (dz s) (by have:=a;exact Rb (bJ (dL h).2 dc_) dc_)
 rwa [<- e] at h2
theorem Nl (C:Mem)(u:Tabs C)(v w:Value)(d:List Pt)(f:List Tri)(b:List Lay)(o:Obs)(x:MeshIn C v d f)(A:Good d f)(y:Sl C 3 w (b.map yX))(z:ObsR o) :
  Gives cx.P 69 [v,w,.agg ⟨Ix o⟩] C (.int .i64 (gD d f b o)):=by
 have B:=x;obtain ⟨L,M,rfl,h1,h2⟩:=id x.ex;refine UD func69 79 U3 fun w0=>Uz fun R a=>UQ U6 fun N=>UQ U6 fun O=>C4 1 [1,3,5] a Z<|G.freeze 1 Z fun _ _ D=>G.freeze 0 Z fun E _ c=>Uz fun R a=>Uw (bkT c 10) U8<|UI (Je _ u.m_ o z) U7<|C4 1 [1,3,5,7] a Z<|Uu 2 [1,3,5,7,15] Z<|Ux (fun m=>?_) fun m=>?_
 ·have hs:dQ o≠0:=by
   intro e;rw [e] at m;exact absurd m dc_
  exact Uu 2 [6] Z<|UC U2<|⟨by unfold gD;rw [aW hs],Z⟩
 have hs:dQ o=0:=by simpa using m
 have i:¬ dQ o≠0:=fun h=>h hs;obtain ⟨F,H,I⟩:=Pd hs;have J:=(rO hs).2.2;refine Uz fun R a=>Uw (PtrTo.block (Mem.get D mup) _) U8<|Uy U6<|Uw (bkT c 2) U8<|UM (by have h:=qH E u.m_ _ d f (ptO o) B.m_ A H I;rw [F] at h;exact h) U7 fl_<|C4 5 [1,5,8,9] a Z<|Uv 5 Z fun R a=>U1 U8<|UA [1,5,29] a Z<|Ux (fun p=>?_) fun p=>?_
 ·have g:Iy d f o=false:=by
   have h:(!Iy d f o)=true:=p;simpa using h
  exact Uu 1 [6] Z<|UC U2<|⟨by unfold gD;rw [az i,aW g],Z⟩
 have g:¬ Iy d f o=false:=by
  have h:(!Iy d f o)=false:=p;have h2:Iy d f o=true:=by simpa using h
  rw [h2];decide
 refine US [0,1,2,3,4,5,6,7,8,9] [(3,1),(7,1)] Z kr_ fun R Q a=>UB 2 Z<|Uw (bkT c 1) U8<|Vb (fun _=>(jV _ _ b o.upper y.m_)) U9<|UB 2 Z<|Uw (bkT c 1) U8<|Vb (fun _=>(jV _ _ b o.lower y.m_)) U9<|C4 2 [5,10,11] a Z<|Uv 4 Z fun R a=>UY U6 (fun _=>PtrTo.blockT (Mem.get c mup) _ 1) U3<|UB 4 Z<|UU U8<|U1 U8<|C4 1 [5,10,11,38] a Z<|Ux (fun q=>?_) fun q=>?_
 ·have j:Mw b o=true:=q;exact Uu 1 [6] Z<|UC U2<|⟨by unfold gD;rw [az i,az g,aW j],Z⟩
 have j:¬ Mw b o=true:=by rw [show Mw b o=false from q];decide
 refine Uv 1 Z fun R a=>Uw (bkT c 1) U8<|UB 5 Z<|UU U8<|C4 1 [5,50] a Z<|Ux (fun r=>?_) fun r=>?_
 ·have k:Nn b o=true:=r;exact Uu 1 [6] Z<|UC U2<|⟨by unfold gD;rw [az i,az g,az j,aW k],Z⟩
 have k:¬ Nn b o=true:=by rw [show Nn b o=false from r];decide
 refine Uv 1 Z fun R a=>Uw (bkT c 1) U8<|UB 3 Z<|UY U6 (fun _=>PtrTo.blockT (Mem.get c mup) _ 1) U3<|UT (fun K=>(I7 _ o.depth (J (by exact dU K.1)) z.depth)) U9<|Uy U6<|UU U8<|C4 1 [5,59] a Z<|Ux (fun l=>?_) fun l=>?_
 ·have n:KE o=true:=by
   rw [uo] at l;exact l
  exact Uu 1 [6] Z<|UC U2<|⟨by unfold gD;rw [az i,az g,az j,az k,aW n],Z⟩
 have n:¬ KE o=true:=by
  rw [uo] at l;rw [show KE o=false from l];decide
 refine Uv 1 Z fun R a=>Uw (bkT c 1) U8<|UB 4 Z<|UY U6 (fun _=>PtrTo.blockT (Mem.get c mup) _ 1) U3<|Uy U6<|UU U8<|C4 1 [69] a Z<|Ux (fun s=>?_) fun s=>?_
 ·have t:Lq o=true:=by
   unfold Lq;rw [<- IX];exact s
  exact Uu 1 [6] Z<|UC U2<|⟨by unfold gD;rw [az i,az g,az j,az k,az n,aW t],Z⟩
 have t:¬ Lq o=true:=by
  unfold Lq;rw [<- IX];intro h;rw [show ((o.kind == 3) && ((⟨o.nz.toArray⟩:ByteArray).data.toList == (⟨([48]:Str).toArray⟩:ByteArray).data.toList))=false from s] at h;cases h
 exact Uu 1 [6] Z<|UC U2<|⟨by unfold gD;rw [az i,az g,az j,az k,az n,az t],Z⟩
structure Bk where
 pts:List Pt
 tris:List Tri
 terr:List Str
 col:List Lay
 obs:List Obs
structure BookIn (C:Mem)(bv:Value)(B:Bk):Prop where
 ex:∃ v1 v2 tv cv ov,bv=.agg ⟨[v1,v2,tv,cv,ov]⟩/\Sl C 2 v1 (B.pts.map gt)/\Sl C 3 v2 (B.tris.map kC)/\Sl C 1 tv (B.terr.map nN)/\Sl C 3 cv (B.col.map yX)/\Sl C 10 ov (B.obs.map Ix)
theorem BookIn.mono {C D:Mem}{b:Value}{B:Bk}(h:BookIn C b B)(a:C.le D):BookIn D b B:=by
 obtain ⟨c,d,e,f,g,h1,h2,h3,h4,h5,i⟩:=h.ex;exact ⟨c,d,e,f,g,h1,h2.mono a,h3.mono a,h4.mono a,h5.mono a,i.mono a⟩
theorem BookIn.m_ {D:Mem}{B:Bk}(h:BookIn C bv B)(a:C.le D:=by exact mup):BookIn D bv B:=BookIn.mono h a
structure BookR (B:Bk):Prop where
 terr:∀ s∈B.terr,s.length<=999998
 col:∀ x∈B.col,Oz x
 lcol:B.col.length<=1000000
 obs:∀ o∈B.obs,ObsR o
noncomputable def obZ (B:Bk)(pre:List Obs)(o:Obs):Int:=if gD B.pts B.tris B.col o≠0 then gD B.pts B.tris B.col o else if o.name∈pre.map Obs.name then 9 else 0
def JU:Obs:=⟨0,[],[],[],[],[],[],[],[],[]⟩
noncomputable def re (B:Bk):Nat->Int
 | 0=>0
 | n+1=>if re B n≠0 then re B n else obZ B (B.obs.take n) (B.obs.getD n JU)
noncomputable def iB (B:Bk):Int:=if BU B.pts.length B.terr≠0 then BU B.pts.length B.terr else if sS B.col≠0 then sS B.col else if 100<B.obs.length then 4 else re B B.obs.length
theorem wH {B:Bk}{n:Nat}(h:re B n≠0):∀ m,n<=m->re B m=re B n
 | 0,hm=>by rw [show n=0 by omega]
 | m+1,hm=>by
  rcases Rr m n with h1 | h1
  ·rw [show n=m+1 by omega]
  have a:=wH h m h1;simp only [re,a];rw [aW h]
theorem Pp {l:List Obs}{x:Obs}(h:l[i]?=some x):l.getD i JU=x:=by rw [au,h,R9]
theorem uk {B:Bk}{x:Obs}(a:re B i=0)(b:B.obs[i]?=some x):re B (i+1)=obZ B (B.obs.take i) x:=by
 simp only [re,a];rw [az dc_,Pp b]
theorem Gl {B:Bk}{x:Obs}(c:re B i=0)(a:B.obs[i]?=some x)(b:obZ B (B.obs.take i) x=z)(d:z≠0):re B B.obs.length=z:=by
 have e:=(aD.1 a).1;have h1:=uk c a;rw [wH (n:=i+1) (by rw [h1,b];exact d) B.obs.length om_,h1,b]
def Gx (l:List Obs):List (Str × Value):=l.map fun o=>(o.name,.bool true)
theorem Gw (l:List Obs)(s:Str):kN (.bool false) false (dq (Gx l) s)=.bool (decide (s∈l.map Obs.name)):=by
 have a:(Gx l).map (·.1)=l.map Obs.name:=by unfold Gx;rw [RG];rfl
 cases h:dq (Gx l) s with
 | none =>
  have h1:=cH.1 h;rw [a] at h1;rw [Rj h1];rfl
 | some v =>
  have h1:=ga h;have h2:=Tf (f:=(·.1)) h1;rw [a] at h2;obtain ⟨o,_,b⟩:=QX.1 h1;cases b
  rw [Ra h2];rfl
theorem JZ {l:List Obs}{o:Obs}(h:o.name ∉ l.map Obs.name):fU (Gx l) o.name (.bool true)=Gx (l++[o]):=by
 have a:(Gx l).map (·.1)=l.map Obs.name:=by unfold Gx;rw [RG];rfl
 rw [jJ (by rw [cH,a];exact h)];simp [Gx]
theorem kT (C:Mem)(n:Tabs C)(F:Value)(B:Bk)(L:BookIn C F B)(t:Good B.pts B.tris)(o:BookR B) :
  Gives cx.P 36 [F] C (.int .i64 (iB B)):=by
 obtain ⟨H,I,Y,cv,ov,rfl,h1,h2,h3,h4,h5⟩:=id L.ex;obtain ⟨M,N,rfl,O,aa,_⟩:=id h5;have ab:maxLen<=9223372036854775807:=by simp [maxLen]
 simp only [al] at h5 O ⊢;have hm:MeshIn C (.agg ⟨[H,I]⟩) B.pts B.tris:=⟨H,I,rfl,h1,h2⟩;refine UD func36 59 U3 fun w0=>Uz fun R a=>UQ U6 fun Q=>C4 1 [1] a Z<|G.freeze 0 Z fun _ _ b=>Uv 1 Z fun R a=>Uw (bkT b 2) U8<|UI (jN _ n.m_ _ B.pts B.tris hm.m_ t) U7<|C4 1 [1,3] a Z<|Uu 2 [1,3,14] Z<|Ux (fun J=>?_) fun J=>?_
 ·exact absurd J dc_
 refine Uv 1 Z fun R a=>Uw (bkT b 2) U8<|Uy U6<|Uw (bkT b 1) U8<|UI (uF _ n.m_ _ _ B.pts B.tris B.terr hm.m_ t h3.m_ o.terr) U7<|C4 1 [1,4] a Z<|Uu 2 [1,4,22] Z<|Ux (fun p=>?_) fun p=>?_
 ·have c:BU B.pts.length B.terr≠0:=by
   intro e;rw [e] at p;exact absurd p dc_
  exact Uu 2 [2] Z<|UC U2<|⟨by unfold iB;rw [aW c],Z⟩
 have c:¬ BU B.pts.length B.terr≠0:=by
  have h:BU B.pts.length B.terr=0:=by simpa using p
  exact fun h2=>h2 h
 refine Uv 1 Z fun R a=>Uw (bkT b 1) U8<|UI (qI _ n.m_ _ B.col h4.m_ o.col o.lcol) U7<|C4 1 [1,5] a Z<|Uu 2 [1,5,28] Z<|Ux (fun q=>?_) fun q=>?_
 ·have d:sS B.col≠0:=by
   intro e;rw [e] at q;exact absurd q dc_
  exact Uu 2 [2] Z<|UC U2<|⟨by unfold iB;rw [az c,aW d],Z⟩
 have d:¬ sS B.col≠0:=by
  have h:sS B.col=0:=by simpa using q
  exact fun h2=>h2 h
 refine Uv 1 Z fun R a=>Uw (bkT b 1) U8<|C4 2 [1,33] a Z<|Ux (fun u=>?_) fun u=>?_
 ·have g:100<B.obs.length:=by
   simp only [QZ] at u;omega
  exact Uu 1 [2] Z<|UC U2<|⟨by unfold iB;rw [az c,az d,aW g],Z⟩
 have g:¬ 100<B.obs.length:=by
  simp only [Ri] at u;omega
 refine Uz fun R a=>D.makeMap keyS Z Z Z Z fl_ fun v=>C4 1 [1,6] a Z<|Uv 1 Z fun R a=>Uw (bkT b 1) U8<|C4 2 [1,6,36,37,38] a Z<|G.loop (fun fr C' K S=>∃ (i:Nat),(i<=B.obs.length/\re B i=0)/\fr=[(1,[],.pointer (some ⟨Q,0,none⟩)),(6,[],.map (some v)),(36,[],.slice M B.obs.length N),(37,[],.int .i64 B.obs.length),(38,[],.int .i64 i)]/\K=[.obj v (aR keyS.enc (Gx (B.obs.take i)))]/\S=B.obs.length-i) (hn_ [1,6,36,37,38] Z) ⟨0,⟨QT _,Z⟩,Z,Z,Z⟩ (fun fr ac ad m _ T=>?_);obtain ⟨i,⟨hi,k⟩,rfl,rfl,rfl⟩:=T;refine Uu 1 [1,6,36,37,38,39] Z<|Ux (fun w=>?_) fun w=>?_
 ·have y:i<B.obs.length:=by simpa using w
  obtain ⟨x,f⟩:∃ x,B.obs[i]?=some x:=⟨B.obs[i],aj y⟩;have U:=o.obs x (QQ f);have V:B.obs.take (i+1)=B.obs.take i++[x]:=by rw [Rm,f];rfl
  refine Uz fun R a=>UK h5.m_ U10 om_ (bY f) fl_ fun ag W=>Uw W U8<|UP U5 fun b8=>UG (j:=0) U12<|UA [1,6,8,36,37,38] a Z<|Uv 1 Z fun R a=>Uw (bkT b 2) U8<|Uy U6<|Uw (bkT b 1) U8<|UE af U9<|UI (Nl _ n.m_ _ _ B.pts B.tris B.col x hm.m_ t h4.m_ U) U7<|C4 1 [1,6,8,9,36,37,38] a Z<|Uu 2 [1,6,8,9,36,37,38,49] Z<|Ux (fun r=>?_) fun r=>?_
  ·have l:gD B.pts B.tris B.col x≠0:=by
    intro e;rw [e] at r;exact absurd r dc_
   have A:=Gl k f (z:=gD B.pts B.tris B.col x) (by unfold obZ;rw [aW l]) l;exact Uu 2 [2] Z<|UC U2<|⟨by unfold iB;rw [az c,az d,az g,A],Z⟩
  have l:¬ gD B.pts B.tris B.col x≠0:=by
   have h:gD B.pts B.tris B.col x=0:=by simpa using r
   exact fun h2=>h2 h
  refine Uv 2 Z fun R a=>UE af U9<|VP keyS ae Z Z Z Z Z Z Z Z kr_ Z (Gw (B.obs.take i) x.name) Z Z<|UA [1,6,8,36,37,38,54] a Z<|Ux (fun E=>?_) fun E=>?_
  ·have s:x.name∈(B.obs.take i).map Obs.name:=aJ E;have A:=Gl k f (z:=9) (by unfold obZ;rw [az l,aW s]) dc_;exact Uu 1 [2] Z<|UC U2<|⟨by unfold iB;rw [az c,az d,az g,A],Z⟩
  have s:x.name ∉ (B.obs.take i).map Obs.name:=QS E;have X:re B (i+1)=0:=by rw [uk k f];unfold obZ;rw [az l,az s]
  refine Uv 2 Z fun R a=>UE af U9<|D.mapUpdate keyS (j:=1) Z Z Z Z Z Z Z Z Z Z kr_<|UA [1,6,36,37,38] a Z<|Uz fun R a=>UF _ U7<|C4 1 [1,6,36,37,38] a Z<|Vo 1 Z<|UN (L':=[.obj v (aR keyS.enc (Gx (B.obs.take (i+1))))]) (by rw [V,<- JZ s];rfl)<|UH (m':=B.obs.length-(i+1)) om_ mup (hn_ [1,6,36,37,38] Z) ⟨i+1,⟨by omega,X⟩,Z,Z,Z⟩
 have y:i=B.obs.length:=by
  have:¬ i<B.obs.length:=by simpa using w
  omega
 refine Uu 1 [2] Z<|UC U2<|⟨?_,Z⟩;rw [y] at k;unfold iB;rw [az c,az d,az g,k]
theorem mm (C:Mem)(g:Tabs C)(b:Value)(B:Bk)(c:BookIn C b B)(j:Good B.pts B.tris)(k:BookR B)(l:iB B=0)(i:Nat)(n:i<B.obs.length) :
  Gives cx.P 240 [b,.int .i64 i] C (.int .i64 0):=by
 have d:=c;obtain ⟨o,p,q,r,s,rfl,h1,h2,h3,h4,h5⟩:=id c.ex;obtain ⟨t,u,rfl,m,v,_⟩:=id h5;have w:maxLen<=9223372036854775807:=by simp [maxLen]
 simp only [al] at h5 m d ⊢;refine UD func240 20 U3 fun w0=>Uz fun R a=>UQ U6 fun x=>C4 1 [1,2] a Z<|Uz fun R a=>UE af U9<|UM (by have h:=kT _ g.m_ _ B d.m_ j k;rw [l] at h;exact h) U7 fl_<|C4 1 [1,2,5] a Z<|Uu 2 [1,2,5,9] Z<|Ux (fun e=>?_) fun e=>?_
 ·exact absurd e dc_
 refine Uv 5 Z fun R a=>UE af U9<|UB 2 Z<|U1 U8<|UA [19] a Z<|Ux (fun f=>?_) fun f=>?_
 ·exfalso;simp only [Sm,QZ] at f;omega
 exact Uu 1 [4] Z<|UC U2<|⟨Z,Z⟩
noncomputable def kA (o:Obs)(z:Rat):Rat:=if o.kind=2 then z-dz o.depth else z
structure ObsAt (o:Obs)(p:Pt):Prop where
 x:o.x=qtx p.1
 y:o.y=qtx p.2
 q:QP 23 p
 r:PtR p
 d:o.kind=2->bg o.depth=true
theorem wI {o:Obs}{p:Pt}(h:ObsAt o p):(.agg ⟨[ai o.x,ai o.y]⟩:Value)=ptV p:=by unfold ptV gt;rw [h.x,h.y]
structure Terr (B:Bk)(fs:List Rat):Prop where
 e:B.terr=fs.map qtx
 l:fs.length=B.pts.length
 q:∀ q∈fs,QB 22 q
theorem OM {B:Bk}{a:List Rat}(h:Terr B a):∀ q∈a,bg (qtx q)=true:=fun q b=>bO (h.q q b)
theorem Ha (C:Mem)(k:Tabs C)(m:Value)(B:Bk)(i:List Rat)(o:Obs)(p:Pt)(z:Rat)(v:BookIn C m B)(w:Good B.pts B.tris)(b:Terr B i)(c:ObsAt o p)(x:EQ B.pts B.tris i p=.tuple #[ai (qtx z),.int .i64 0])(y:QB 22 z) :
  Gives cx.P 241 [m,.agg ⟨Ix o⟩] C (.tuple #[ai (qtx (kA o z)),.int .i64 0]):=by
 obtain ⟨n,s,E,F,H,rfl,h1,h2,h3,h4,h5⟩:=id v.ex;have hm:MeshIn C (.agg ⟨[n,s]⟩) B.pts B.tris:=⟨n,s,rfl,h1,h2⟩;rw [b.e,<- yW] at h3;refine UD func241 31 U3 fun w0=>Uz fun R a=>UQ U6 fun I=>UQ U6 fun J=>C4 2 [2,3] a Z<|G.freeze 1 Z fun _ _ t=>G.freeze 0 Z fun u _ j=>Uv 1 Z fun R a=>Uw (bkT t 2) U8<|Uy U6<|Uw (bkT t 1) U8<|Uy U6<|Uw (bkT j 2) U8<|UM (by have h:=IJ u k.m_ _ _ B.pts B.tris i 22 dc_ dc_ hm.m_ w h3.m_ b.l b.q (OM b) p c.q c.r;rw [x,<- wI c] at h;exact h) U7 fl_<|C4 5 [3,6,7] a Z<|Uv 4 Z fun R a=>UY U6 (fun _=>PtrTo.blockT (Mem.get j mup) _ 1) U3<|Uy U6<|UU U8<|UA [3,6,7,24] a Z<|Ux (fun f=>?_) fun f=>?_
 ·have g:o.kind=2:=dU (R3.1 f).2;obtain ⟨A,D⟩:=dL (c.d g);refine Uv 2 Z fun R a=>Uw (bkT j 1) U8<|UM (by have h:=eg u k.m_ z (dz o.depth) 23 dc_ dc_ (y.le dc_) D;rw [<- A] at h;exact h) U7 fl_<|C4 1 [6,7] a Z<|Uu 4 [4,5] Z<|UJ (G.dropAll (UX U3 ?_));exact ⟨by unfold kA;rw [aW g],Z⟩
 have g:¬ o.kind=2:=by
  intro e;rw [show ((((0:Int) == 0) && (o.kind == 2))=true) by rw [e];rfl] at f;cases f
 refine Uu 4 [4,5] Z<|UJ (G.dropAll (UX U3 ?_));exact ⟨by unfold kA;rw [az g],Z⟩
theorem DQ (C:Mem)(c:Tabs C)(h:Value)(B:Bk)(d:List Rat)(i:Nat)(o:Obs)(p:Pt)(z:Rat)(b:BookIn C h B)(j:Good B.pts B.tris)(q:BookR B)(r:iB B=0)(s:Terr B d)(k:B.obs[i]?=some o)(t:ObsAt o p)(u:EQ B.pts B.tris d p=.tuple #[ai (qtx z),.int .i64 0])(v:QB 22 z)(l:QB 22 (kA o z)) :
  Gives cx.P 193 [h,.int .i64 i] C (.tuple #[ai (qtx (kA o z)),.int .i64 0]):=by
 have e:=b;have w:=(aD.1 k).1;obtain ⟨A,D,E,F,H,rfl,h1,h2,h3,h4,h5⟩:=id b.ex;obtain ⟨I,J,rfl,x,K,_⟩:=id h5;have L:maxLen<=9223372036854775807:=by simp [maxLen]
 simp only [al] at h5 x e ⊢;refine UD func193 36 U3 fun w0=>?_;refine Uz fun R a=>?_;refine UQ U6 (fun M=>?_);refine C4 2 [1,2] a Z ?_;clear a R;refine G.freeze 0 Z (fun _ _ f=>?_);refine Uz fun R a=>?_;refine Uw (bkT f 5) U8 ?_;refine Uy U6 ?_;refine UI (mm _ c.m_ _ B e.m_ j q r i w) U7 ?_;refine C4 1 [1,2,6] a Z ?_;clear a R;refine Uu 2 [1,2,6,13] Z ?_;refine Ux (fun m=>?_) fun m=>?_
 ·exact absurd m dc_
 refine US [0,1,2,3,4,5,6,7,8,9,10,11] [(6,1)] Z kr_ (fun R b a=>?_);refine Uw (bkT f 5) U8 ?_;refine Uy U6 ?_;refine Uw (bkT f 1) U8 ?_;refine Uy U6 ?_;refine UK h5.m_ U10 om_ (bY k) fl_ (fun N y=>?_);refine Uw y U8 ?_;refine Vb (fun _=>(Ha _ c.m_ _ B d o p z e.m_ j s t u v)) U9 ?_;refine UB 5 Z ?_;refine UA [7,8] a Z ?_;clear a b R;refine Uv 4 Z fun R a=>?_;refine Vb (fun _=>(dX _ c.m_ _ (tW l))) U9 ?_;refine Uy U6 ?_;refine UU U8 ?_;refine UA [7,8,31] a Z ?_;clear a R;refine Ux (fun g=>?_) fun g=>?_
 ·exfalso;rw [xw l] at g;exact absurd g dc_
 refine Uu 2 [7,8,33] Z ?_;refine Ux (fun n=>?_) fun n=>?_
 ·exact absurd n dc_
 refine Uu 3 [4,5] Z ?_;refine UJ (G.dropAll (UX U3 ?_));exact ⟨Z,Z⟩
def vQ (lo hi:Int)(n:Nat):List Nat:=(List.range n).filter fun k:Nat=>decide (lo<=(k:Int)/\(k:Int)<hi)
def E4 (col:List Lay)(o:Obs):Int:=if o.kind=1 then kf (isU o.upper) col 0-1 else kf (isU o.lower) col 0
def E5 (col:List Lay)(o:Obs):Int:=if o.kind=1 then kf (isU o.upper) col 0+1 else kf (isU o.upper) col 0
def cJ (col:List Lay)(o:Obs):List Nat:=vQ (E4 col o) (E5 col o) (col.length-1)
theorem IU {a b:Int}(j:max a 0<=(i:Int))(l:(i:Int)<=max (max a 0) (min b n))(o:min b (n:Int)<=(i:Int)):(List.range i).filter (fun k:Nat=>decide (a<=(k:Int)))=vQ a b n:=by
 unfold vQ;have hs:∀ m:Nat,(List.range (i+m)).filter (fun k:Nat=>decide (a<=(k:Int)/\(k:Int)<b/\k<n))=(List.range i).filter (fun k:Nat=>decide (a<=(k:Int)/\(k:Int)<b/\k<n)):=by
  intro m;induction m with
  | zero=>rfl
  | succ m c =>
   rw [show i+(m+1)=i+m+1 by omega,RY,Si,c,List.filter_cons];rw [az (by simp only [QZ];omega)];simp
 have f:(List.range i).filter (fun k:Nat=>decide (a<=(k:Int)))=(List.range i).filter (fun k:Nat=>decide (a<=(k:Int)/\(k:Int)<b/\k<n)):=by
  refine List.filter_congr (fun k d=>?_);rw [Q9] at d;rw [RC];omega
 have g:(List.range n).filter (fun k:Nat=>decide (a<=(k:Int)/\(k:Int)<b))=(List.range n).filter (fun k:Nat=>decide (a<=(k:Int)/\(k:Int)<b/\k<n)):=by
  refine List.filter_congr (fun k d=>?_);rw [Q9] at d;rw [RC];omega
 rw [f,g];rcases Nat.le_total i n with e | e
 ·obtain ⟨m,rfl⟩:=Nat.exists_eq_add_of_le e;exact (hs m).symm
 have h:∀ m:Nat,(List.range (n+m)).filter (fun k:Nat=>decide (a<=(k:Int)/\(k:Int)<b/\k<n))=(List.range n).filter (fun k:Nat=>decide (a<=(k:Int)/\(k:Int)<b/\k<n)):=by
  intro m;induction m with
  | zero=>rfl
  | succ m c =>
   rw [show n+(m+1)=n+m+1 by omega,RY,Si,c,List.filter_cons];rw [az (by simp only [QZ];omega)];simp
 obtain ⟨m,rfl⟩:=Nat.exists_eq_add_of_le e;exact h m
theorem sq {a:Type}(p:a->Bool)(l:List a):-1<=kf p l 0/\kf p l 0<=(l.length:Int):=by
 rcases mY p l with ⟨h,_⟩ | ⟨i,x,h,h2,_⟩
 ·omega
 have:=(aD.1 h2).1;omega
theorem yd (C:Mem)(_ab:Tabs C)(F:Value)(B:Bk)(o:Obs)(q:BookIn C F B)(ac:B.col.length<=1000)(M:B.col≠[]) :
  Pur cx.P 242 [F,.agg ⟨Ix o⟩] C fun u D=>Sl D 1 u ((cJ B.col o).map aM):=by
 obtain ⟨v1,v2,tv,cv,ov,rfl,h1,h2,h3,h4,h5⟩:=id q.ex;obtain ⟨A4,c4,rfl,N,ad,_⟩:=id h4;have ae:maxLen<=9223372036854775807:=by simp [maxLen]
 have af:=RD.2 M;have O:=sq (isU o.lower) B.col;have Q:=sq (isU o.upper) B.col;obtain ⟨lw,H⟩:∃ z,kf (isU o.lower) B.col 0=z:=⟨_,rfl⟩;obtain ⟨up,I⟩:∃ z,kf (isU o.upper) B.col 0=z:=⟨_,rfl⟩;obtain ⟨lo,b⟩:∃ z,E4 B.col o=z:=⟨_,rfl⟩;obtain ⟨c,d⟩:∃ z,E5 B.col o=z:=⟨_,rfl⟩;obtain ⟨n,S⟩:∃ n,B.col.length-1=n:=⟨_,rfl⟩;unfold cJ;rw [b,d,S];unfold E4 at b;unfold E5 at d;rw [H] at O b;rw [I] at Q b d;simp only [al] at h4 N ⊢;have ag:-2<=lo/\lo<=1000:=by rw [<- b];split <;> omega
 have ah:-2<=c/\c<=1001:=by rw [<- d];split <;> omega
 refine UD func242 43 U3 fun w0=>?_;refine Uz fun R a=>?_;refine UQ U6 (fun J=>?_);refine UQ U6 (fun b3=>?_);refine C4 1 [2,3] a Z ?_;clear a R;refine G.freeze 1 Z (fun _ _ s=>?_);refine G.freeze 0 Z (fun K _ t=>?_);refine US [0,1,2,3,4,5,6,7,8,9,10,11] [(4,1),(9,1)] Z kr_ (fun R q a=>?_);refine Uy U6 ?_;refine Uw (bkT s 1) U8 ?_;refine Uy U6 ?_;refine Uw (bkT t 1) U8 ?_;refine UT (fun _=>(by have h:=jV K _ B.col o.lower h4.m_;rw [H] at h;exact h)) U9 ?_;refine Uy U6 ?_;refine Uw (bkT s 1) U8 ?_;refine Uy U6 ?_;refine Uw (bkT t 1) U8 ?_;refine UT (fun _=>(by have h:=jV K _ B.col o.upper h4.m_;rw [I] at h;exact h)) U9 ?_;refine UB 2 Z ?_;refine UA [2,3,5,6] a Z ?_;clear a q R;refine Uv 1 Z fun R a=>?_;refine Uw (bkT t 1) U8 ?_;refine C4 1 [2,5,6,21] a Z ?_;clear a R;refine G.cut (fun fr C' g v=>(True)/\fr=[(2,[],.pointer (some ⟨J,0,none⟩)),(5,[],.int .i64 lo),(6,[],.int .i64 c)]/\g=[]) ?_ (fun fr _ ai v _ x=>?_)
 ·refine Ux (fun l=>?_) fun l=>?_
  ·have f:o.kind=1:=dU l;rw [aW f] at b d;subst b d;refine Uv 1 Z fun R a=>?_;refine UF _ U7 ?_;refine Uy U6 ?_;refine UF _ U7 ?_;refine C4 2 [2,5,6] a Z ?_;clear a R;refine UL 0 (Mem.le.refl _) (hn_ [2,5,6] Z) ⟨trivial,Z,Z⟩
  have f:¬ o.kind=1:=by
   intro e;rw [show ((o.kind == 1)=true) by rw [e];rfl] at l;cases l
  rw [az f] at b d;subst b d;refine UL 0 (Mem.le.refl _) (hn_ [2,5,6] Z) ⟨trivial,Z,Z⟩
 obtain ⟨_,rfl,rfl⟩:=x;refine Uu 1 [2,5,6,7] Z ?_;obtain ⟨p,T⟩:∃ p:Nat,max lo 0=(p:Int):=⟨(max lo 0).toNat,by omega⟩;refine Uv 1 Z fun R a=>?_;refine D.max (((p:Nat):Int)) U6 T U2 ?_;refine C4 1 [2,6,7,8] a Z ?_;clear a R;refine G.nilArr 3 1 ?_;refine G.loop (fun fr C' g v=>∃ (i:Nat)(out:List Nat)(w:Value),(max lo 0<=(i:Int)/\(i:Int)<=max (max lo 0) (min c n)/\out=(List.range i).filter (fun k:Nat=>decide (lo<=(k:Int))))/\fr=[(2,[],.pointer (some ⟨J,0,none⟩)),(6,[],.int .i64 c),(7,[],w),(8,[],.int .i64 i)]/\g=[.arr w 3 1 out.length (out.map aM).flatten]/\v=2000-i) (hn_ [2,6,7,8] Z) ⟨p,[],_,⟨by omega,by omega,by
  symm;rw [List.filter_eq_nil_iff];intro k f;rw [Q9] at f;simp only [QZ];omega⟩,rfl,rfl,rfl⟩ (fun fr aj ak m _ x=>?_)
 obtain ⟨i,out,w,⟨U,V,A⟩,rfl,rfl,rfl⟩:=x;refine Uv 3 Z fun R a=>?_;refine Uw (bkT s 1) U8 ?_;refine Uy U6 ?_;refine UF _ U7 ?_;refine D.min ((min c (n:Int))) Z Z Z Z Z Z om_ Z Z ?_;refine C4 1 [2,6,7,8,35] a Z ?_;clear a R;refine Ux (fun E=>?_) fun E=>?_
 ·have an:(i:Int)<min c (n:Int):=aJ E;have ao:out.length<=i:=by
   rw [A];exact Rb (R5 _ _) am
  have W:(List.range (i+1)).filter (fun k:Nat=>decide (lo<=(k:Int)))=out++[i]:=by
   rw [RY,Si,<- A,List.filter_cons,aW (by simp only [QZ];omega)];rfl
  refine Uv 2 Z fun R a=>?_;refine UR [aM i] U12 (fun ap _ _ X=>?_);refine D.append (j:=0) U11 X Z ax (by simp only [aK];omega) fl_ (fun L=>?_);refine C4 1 [2,6,7,8] a Z ?_;clear a R;refine Uv 1 Z fun R a=>?_;refine UF _ U7 ?_;refine C4 1 [2,6,7,8] a Z ?_;clear a R;refine UN (L':=[.arr L 3 1 (out++[i]).length ((out++[i]).map aM).flatten]) (by simp [aM]) ?_;refine UH (m':=2000-(i+1)) om_ mup (hn_ [2,6,7,8] Z) ⟨i+1,out++[i],L,⟨by omega,by omega,W.symm⟩,Z,Z,Z⟩
 have Y:min c (n:Int)<=(i:Int):=by
  have:=QS E;omega
 refine Uu 2 [4] Z ?_;refine G.freezeArr 0 (out.map aM) rfl rfl (by intro r hr;obtain ⟨y,_,rfl⟩:=QX.1 hr;rfl) am (fun Cg hg aa=>?_);refine UC U2 ?_;exact ⟨Z,by rw [<- IU U V Y,<- A];exact aa⟩
theorem vP (C:Mem)(j:Tabs C)(k:Value)(B:Bk)(i:Nat)(o:Obs)(d:BookIn C k B)(p:Good B.pts B.tris)(q:BookR B)(a:iB B=0)(l:B.obs[i]?=some o) :
  Pur cx.P 194 [k,.int .i64 i] C fun u D=>∃ v,u=.tuple #[v,.int .i64 0]/\Sl D 1 v ((cJ B.col o).map aM):=by
 have f:=d;have r:=(aD.1 l).1;have b:sS B.col=0:=by
  unfold iB at a;split at a
  ·rename_i h;exact absurd a h
  split at a
  ·rename_i h;exact absurd a h
  rename_i h;exact Rq h
 have m:B.col≠[]:=by
  intro e;rw [e] at b;exact absurd b dc_
 have s:B.col.length<=1000:=by
  unfold sS at b;rw [az m] at b;split at b
  ·exact absurd b dc_
  omega
 obtain ⟨y,z,A,E,F,rfl,h1,h2,h3,h4,h5⟩:=id d.ex;obtain ⟨H,I,rfl,t,J,_⟩:=id h5;have K:maxLen<=9223372036854775807:=by simp [maxLen]
 simp only [al] at h5 t f ⊢;refine UD func194 20 U3 fun w0=>Uz fun R c=>UQ U6 fun L=>C4 2 [1,2] c Z<|G.freeze 0 Z fun _ _ g=>Uz fun R c=>Uw (bkT g 5) U8<|Uy U6<|UI (mm _ j.m_ _ B f.m_ p q a i r) U7<|C4 1 [1,2,6] c Z<|Uu 2 [1,2,6,11] Z<|Ux (fun n=>?_) fun n=>?_
 ·exact absurd n dc_
 refine US [0,1,2,3,4,5,6,7,8] [] Z kr_ fun R d c=>Uw (bkT g 5) U8<|Uy U6<|Uw (bkT g 1) U8<|Uy U6<|UK h5.m_ U10 om_ (bY l) fl_ fun M w=>Uw w U8<|Ve (yd _ j.m_ _ B o f.m_ s m) U7 fun N _ _ x=>UB 2 Z<|UA [4,5] c Z ?_;clear c d R;refine UJ (G.dropAll (UX U3 ?_));exact ⟨Z,_,Z,x⟩
theorem Gr (x y:Nat)(a:x<18446744073709551616)(b:y<18446744073709551616)(C:Mem):Gives cx.P 125 [.int .u64 x,.int .u64 y] C (.tuple #[.int .u64 ((x*y / 18446744073709551616:Nat):Int),.int .u64 ((x*y % 18446744073709551616:Nat):Int)]) :=
 Gives.ofCalls kr_ (fun w=>Any.bits_Mul Tryz.mul x y a b w) C
theorem fJ {a:Value}{k m:Nat}{b:List Value}(_d:k+m<=n)(c:m<=k)(_e:b.length=n-k) :
  aE (List.replicate k a++b) ((List.replicate k a++b).take m) k=List.replicate (k+m) a++b.drop m:=by
 have h1:(List.replicate k a++b).take m=List.replicate m a:=by
  rw [List.take_append_of_le_length (by simpa using c),List.take_replicate,Sa c]
 have h2:(List.replicate k a++b).take k=List.replicate k a:=by
  rw [List.take_append_of_le_length am,List.take_replicate,Nat.min_self]
 have h3:(List.replicate k a++b).drop (k+m)=b.drop m:=by
  rw [TJ,Sj,Sf am,SI];congr 1;omega
 unfold aE;rw [h1,h2,Sj,h3,List.replicate_append_replicate]
theorem zO (a:Value)(n:Nat):kl [a] n=List.replicate n a:=by
 rw [ek];induction n with
 | zero=>rfl
 | succ n b=>rw [Se,So,b,Se];rfl
theorem lL (n:Nat)(a:n<18446744073709551616)(C:Mem):Gives cx.P 125 [.int .u64 (1:Int),.int .u64 n] C (.tuple #[.int .u64 0,.int .u64 n]):=by
 have h:=Gr 1 n om_ a C;have b:1*n / 18446744073709551616=0:=by omega
 have c:1*n % 18446744073709551616=n:=by omega
 rw [b,c] at h;exact h
theorem rT (C:Mem)(v:Value)(n:Nat)(s:Str)(g:Sl C 1 v [[ai s]])(y:n<=1000000):Jog.Fn cx.P 83 [v,.int .i64 n] C [] fun u _z e=>∃ b,u=.slice (some ⟨b,0,none⟩) n n/\e=[.arr u 56 1 n (List.replicate n (ai s))]:=by
 have p:=g;obtain ⟨A,c,rfl,_⟩:=p;refine UD func83 48 U3 fun w0=>Uu 1 [0,1] Z<|Uu 2 [0,1,10] Z<|Ux (fun h=>?_) fun h=>?_
 ·simp at h;omega
 refine Uv 2 Z fun R d=>Vi (c:=1) U8 Z fl_<|Uy U6<|Vi (c:=(n:Int)) U8 (by rw [IntKind.wrap_u64];omega) fl_<|UM (lL n om_ _) U7 fl_<|C4 5 [0,5,6] d Z<|Uv 5 Z fun R d=>U1 U8<|UA [0,6,26] d Z<|Ux (fun i=>?_) fun i=>?_
 ·simp at i;omega
 refine Uv 1 Z fun R d=>Vi (c:=(n:Int)) U8 (by rw [IntKind.wrap_i64];omega) fl_<|Vy U9 (QO _) (by show 16*n<=281474976710656;omega) (by simp only [maxLen];omega) fl_ fun a=>C4 1 [0,7] d Z<|Uv 2 Z fun R d=>Wa (j:=0) (q:=min 1 n) U12 g U2 (by rw [cV];show 0+min 1 n*1<=n*1;omega) fl_<|C4 1 [7,8] d Z ?_;have r:aE (kl [ai []] n) (([[ai s]]:List (List Value)).take (min 1 n)).flatten 0=List.replicate (min 1 n) (ai s)++List.replicate (n-min 1 n) (ai []):=by
  rw [zO];cases n with
  | zero=>rfl
  | succ n=>rw [show min 1 (n+1)=1 by omega,Se];rfl
 refine UN (L':=[.arr (.slice (some ⟨a,0,none⟩) n n) 56 1 n (List.replicate (min 1 n) (ai s)++List.replicate (n-min 1 n) (ai []))]) (by rw [<- r];rfl)<|G.loop (fun fr C' e t=>∃ (k:Nat),(k<=n/\min 1 n<=k)/\fr=[(7,[],.slice (some ⟨a,0,none⟩) n n),(8,[],.int .i64 k)]/\e=[.arr (.slice (some ⟨a,0,none⟩) n n) 56 1 n (List.replicate k (ai s)++List.replicate (n-k) (ai []))]/\t=n-k) (hn_ [7,8] Z) ⟨min 1 n,⟨Nat.min_le_right _ _,QO _⟩,Z,Z,Z⟩ (fun fr B D m w x=>?_);obtain ⟨k,⟨l,E⟩,rfl,rfl,rfl⟩:=x;refine Uu 4 [7,8,37] Z<|Ux (fun f=>?_) fun f=>?_
 ·simp only [QZ] at f;have o:k<n:=by omega
  have F:1<=k:=by omega
  refine US [0,1,2,3,4,5,6,7,8,9] [] Z kr_ fun R H d=>UB 3 Z<|Vq k n n U12 (fun _=>⟨.inr ⟨_,Z⟩,.inl ⟨Z,Z⟩,.inl ⟨Z,Z⟩,l,QO _,QO _⟩) U2<|UB 2 Z<|Vq 0 k n U12 (fun _=>⟨.inl ⟨Z,Z⟩,.inr ⟨_,Z⟩,.inl ⟨Z,Z⟩,QT _,l,QO _⟩) U2 ?_;refine V9 (j:=0) (off:=k) (g0:=a) (dl:=n-k) (dc:=n-k) (sl:=k-0) (sc:=n-0) (q:=min k (n-k)) U8 (by show some (Value.slice (if n=k then some (⟨a,0,none⟩:Addr) else (some (⟨a,0,none⟩:Addr)).map (·.add (k*1))) (n-k) (n-k))=_;rw [az om_];simp [Addr.add_lit]) (by show some (Value.slice (if n=0 then some (⟨a,0,none⟩:Addr) else (some (⟨a,0,none⟩:Addr)).map (·.add (0*1))) (k-0) (n-0))=_;split <;> simp [Addr.add_lit]) U2 (by simp [lH,ai]) ap fl_ ?_;refine Vf (((k+min k (n-k):Nat):Int)) U4 om_ om_ om_ U2<|C4 1 [7,8] d Z<|UN (L':=[.arr (.slice (some ⟨a,0,none⟩) n n) 56 1 n (List.replicate (k+min k (n-k)) (ai s)++List.replicate (n-(k+min k (n-k))) (ai []))]) (by rw [fJ (n:=n) om_ (Nat.min_le_left _ _) am,List.drop_replicate,Nat.sub_sub];rfl)<|UH (m':=n-(k+min k (n-k))) om_ w (hn_ [7,8] Z) ⟨k+min k (n-k),⟨by omega,by omega⟩,Z,Z,Z⟩
 simp only [Ri] at f;have o:k=n:=by omega
 subst o;refine Uu 2 [4] Z<|UJ (Vj Z Z ?_);exact ⟨a,Z,by simp⟩
theorem mP (C:Mem)(v:Value)(n:Nat)(s:Str)(g:Sl C 1 v [[ai s]])(y:n<=1000000):Jog.Fn cx.P 243 [v,.int .i64 n] C [] fun u _z e=>∃ b,u=.slice (some ⟨b,0,none⟩) n n/\e=[.arr u 56 1 n (List.replicate n (ai s))]:=by
 have p:=g;obtain ⟨A,c,rfl,_⟩:=p;refine UD func243 48 U3 fun w0=>Uu 1 [0,1] Z<|Uu 2 [0,1,10] Z<|Ux (fun h=>?_) fun h=>?_
 ·simp at h;omega
 refine Uv 2 Z fun R d=>Vi (c:=1) U8 Z fl_<|Uy U6<|Vi (c:=(n:Int)) U8 (by rw [IntKind.wrap_u64];omega) fl_<|UM (lL n om_ _) U7 fl_<|C4 5 [0,5,6] d Z<|Uv 5 Z fun R d=>U1 U8<|UA [0,6,26] d Z<|Ux (fun i=>?_) fun i=>?_
 ·simp at i;omega
 refine Uv 1 Z fun R d=>Vi (c:=(n:Int)) U8 (by rw [IntKind.wrap_i64];omega) fl_<|Vy U9 (QO _) (by show 16*n<=281474976710656;omega) (by simp only [maxLen];omega) fl_ fun a=>C4 1 [0,7] d Z<|Uv 2 Z fun R d=>Wa (j:=0) (q:=min 1 n) U12 g U2 (by rw [cV];show 0+min 1 n*1<=n*1;omega) fl_<|C4 1 [7,8] d Z ?_;have r:aE (kl [ai []] n) (([[ai s]]:List (List Value)).take (min 1 n)).flatten 0=List.replicate (min 1 n) (ai s)++List.replicate (n-min 1 n) (ai []):=by
  rw [zO];cases n with
  | zero=>rfl
  | succ n=>rw [show min 1 (n+1)=1 by omega,Se];rfl
 refine UN (L':=[.arr (.slice (some ⟨a,0,none⟩) n n) 56 1 n (List.replicate (min 1 n) (ai s)++List.replicate (n-min 1 n) (ai []))]) (by rw [<- r];rfl)<|G.loop (fun fr C' e t=>∃ (k:Nat),(k<=n/\min 1 n<=k)/\fr=[(7,[],.slice (some ⟨a,0,none⟩) n n),(8,[],.int .i64 k)]/\e=[.arr (.slice (some ⟨a,0,none⟩) n n) 56 1 n (List.replicate k (ai s)++List.replicate (n-k) (ai []))]/\t=n-k) (hn_ [7,8] Z) ⟨min 1 n,⟨Nat.min_le_right _ _,QO _⟩,Z,Z,Z⟩ (fun fr B D m w x=>?_);obtain ⟨k,⟨l,E⟩,rfl,rfl,rfl⟩:=x;refine Uu 4 [7,8,37] Z<|Ux (fun f=>?_) fun f=>?_
 ·simp only [QZ] at f;have o:k<n:=by omega
  have F:1<=k:=by omega
  refine US [0,1,2,3,4,5,6,7,8,9] [] Z kr_ fun R H d=>UB 3 Z<|Vq k n n U12 (fun _=>⟨.inr ⟨_,Z⟩,.inl ⟨Z,Z⟩,.inl ⟨Z,Z⟩,l,QO _,QO _⟩) U2<|UB 2 Z<|Vq 0 k n U12 (fun _=>⟨.inl ⟨Z,Z⟩,.inr ⟨_,Z⟩,.inl ⟨Z,Z⟩,QT _,l,QO _⟩) U2 ?_;refine V9 (j:=0) (off:=k) (g0:=a) (dl:=n-k) (dc:=n-k) (sl:=k-0) (sc:=n-0) (q:=min k (n-k)) U8 (by show some (Value.slice (if n=k then some (⟨a,0,none⟩:Addr) else (some (⟨a,0,none⟩:Addr)).map (·.add (k*1))) (n-k) (n-k))=_;rw [az om_];simp [Addr.add_lit]) (by show some (Value.slice (if n=0 then some (⟨a,0,none⟩:Addr) else (some (⟨a,0,none⟩:Addr)).map (·.add (0*1))) (k-0) (n-0))=_;split <;> simp [Addr.add_lit]) U2 (by simp [lH,ai]) ap fl_ ?_;refine Vf (((k+min k (n-k):Nat):Int)) U4 om_ om_ om_ U2<|C4 1 [7,8] d Z<|UN (L':=[.arr (.slice (some ⟨a,0,none⟩) n n) 56 1 n (List.replicate (k+min k (n-k)) (ai s)++List.replicate (n-(k+min k (n-k))) (ai []))]) (by rw [fJ (n:=n) om_ (Nat.min_le_left _ _) am,List.drop_replicate,Nat.sub_sub];rfl)<|UH (m':=n-(k+min k (n-k))) om_ w (hn_ [7,8] Z) ⟨k+min k (n-k),⟨by omega,by omega⟩,Z,Z,Z⟩
 simp only [Ri] at f;have o:k=n:=by omega
 subst o;refine Uu 2 [4] Z<|UJ (Vj Z Z ?_);exact ⟨a,Z,by simp⟩
theorem fV (C:Mem)(s p:Nat)(h:s*p<=100000):Jog.Fn cx.P 191 [gx s p] C [] fun u _f c=>∃ b,u=.slice (some ⟨b,0,none⟩) (s*p:Nat) (s*p:Nat)/\c=[.arr u 56 1 (s*p) (List.replicate (s*p) (ai [48]))]:=by
 refine UD func191 7 U3 fun w0=>Uz fun R a=>UQ U6 fun g=>C4 1 [1] a Z<|UW [(3,3)] Z fun R a=>UR [[ai [48]]] U12 fun i _ _ d=>UE af U9<|UM (lB _ s p om_) U7 fl_<|D.call (rT _ _ (s*p) [48] d.m_ om_) Z (.inr dc_) U6 (QW _) fl_ fun j _ k _ e=>C4 1 [2] a Z ?_;obtain ⟨b,rfl,rfl⟩:=e;refine Vo 1 Z<|UJ (Vj Z Z ?_);exact ⟨b,Z,Z⟩
def ofE (z:Int)(s p:Nat):Int:=if z≠0 then z else if 60<s*p then 4 else 0
def ofS (e:Int)(s p:Nat):Value:=if e=0 then gx s p else gx 0 0
structure BookZ (C:Mem)(bv:Value)(B:Bk)(z:Int):Prop where
 i:BookIn C bv B
 ch:∀ D:Mem,C.le D->Gives cx.P 36 [bv] D (.int .i64 z)
 ne:z=0->B.col≠[]
 lc:B.col.length<=1000
 lp:B.pts.length<=400
theorem BookZ.mono {C D:Mem}{a:Value}{B:Bk}{z:Int}(h:BookZ C a B z)(c:C.le D):BookZ D a B z:=⟨h.i.mono c,fun E d=>h.ch E (fun b o e=>d b o (c b o e)),h.ne,h.lc,h.lp⟩
theorem BookZ.m_ {D:Mem}{B:Bk}(h:BookZ C bv B z)(a:C.le D:=by exact mup):BookZ D bv B z:=BookZ.mono h a
def bs (B:Bk):Nat:=B.col.length-1
def bp (B:Bk):Nat:=B.pts.length
theorem OQ {B:Bk}(h:BookZ C bv B z):bs B*bp B<=400000:=by
 have h1:=h.lc;have h2:=h.lp;have:bs B*bp B<=1000*400:=SA (by unfold bs;omega) (by unfold bp;omega);omega
theorem Pn (C:Mem)(l:Value)(B:Bk)(z:Int)(c:BookZ C l B z):Gives cx.P 64 [l] C (.tuple #[ofS (ofE z (bs B) (bp B)) (bs B) (bp B),.int .i64 (ofE z (bs B) (bp B))]):=by
 obtain ⟨n,o,p,q,r,rfl,h1,h2,h3,h4,h5⟩:=id c.i.ex;obtain ⟨s,t,rfl,u,v,_⟩:=id h1;obtain ⟨w,x,rfl,y,A,_⟩:=id h4;have D:=OQ c;have E:=c.lc;have m:=c.ch;have F:maxLen<=9223372036854775807:=by simp [maxLen]
 simp only [al] at m ⊢;refine UD func64 26 U3 fun w0=>Uz fun R a=>UQ U6 fun H=>UP U5 fun I=>C4 1 [1,2] a Z<|G.freeze 1 Z fun _ _ g=>Uz fun R a=>Uw (bkT g 5) U8<|UI (m _ mup) U7<|C4 1 [1,2,4] a Z<|Uu 2 [1,2,4,9] Z<|Ux (fun f=>?_) fun f=>?_
 ·have b:z≠0:=by
   intro e;rw [e] at f;exact absurd f dc_
  have d:ofE z (bs B) (bp B)=z:=by unfold ofE;rw [aW b]
  refine Uz fun R a=>UO [.int .i64 0,.int .i64 0] U8<|Uy U6<|UG (j:=0) U12<|C4 1 [2,3] a Z<|UJ (VF af U5 ?_);exact ⟨by rw [d];unfold ofS;rw [az b];rfl,Z⟩
 have b:z=0:=by simpa using f
 have J:=RD.2 (c.ne b);have K:bs B+1=B.col.length:=by unfold bs;omega
 refine Uv 1 Z fun R a=>Uw (bkT g 1) U8<|Uy U6<|Vf (((bs B:Nat):Int)) U4 om_ om_ om_ U2<|UB 2 Z<|Uw (bkT g 1) U8<|Uy U6<|UO [.int .i64 (bs B:Nat),.int .i64 (bp B:Nat)] U8<|UP U5 fun L=>UG (j:=0) U12<|UA [2,5] a Z<|Uz fun R a=>UE af U9<|UM (lB _ (bs B) (bp B) om_) U7 fl_<|C4 1 [2,5,23] a Z<|Ux (fun h=>?_) fun h=>?_
 ·have k:60<bs B*bp B:=by
   have:=aJ h;omega
  have d:ofE z (bs B) (bp B)=4:=by unfold ofE;rw [b,az dc_,aW k]
  refine Uz fun R a=>UO [.int .i64 0,.int .i64 0] U8<|UG (j:=1) U12<|C4 1 [2,3] a Z<|UJ (VF af U5 ?_);exact ⟨by rw [d];rfl,Z⟩
 have k:¬ 60<bs B*bp B:=by
  have:=QS h;omega
 have d:ofE z (bs B) (bp B)=0:=by unfold ofE;rw [b,az dc_,az k]
 refine Uz fun R a=>UE af U9<|UG (j:=1) U12<|C4 1 [2,3] a Z<|UJ (VF af U5 ?_);exact ⟨by rw [d];rfl,Z⟩
theorem KN (C:Mem)(c:Value)(B:Bk)(z:Int)(b:BookZ C c B z):Gives cx.P 35 [c] C (.tuple #[.int .i64 (if ofE z (bs B) (bp B)=0 then ((bs B*bp B:Nat):Int) else 0),.int .i64 (ofE z (bs B) (bp B))]):=by
 have s:=OQ b;have g:=b;obtain ⟨k,l,m,n,o,rfl,h1,h2,h3,h4,h5⟩:=id b.i.ex;obtain ⟨e,d⟩:∃ e,ofE z (bs B) (bp B)=e:=⟨_,rfl⟩;have f:∀ D:Mem,C.le D->Gives cx.P 64 [.agg ⟨[k,l,m,n,o]⟩] D (.tuple #[ofS e (bs B) (bp B),.int .i64 e]):=fun D p=>by have h:=Pn D _ B z (g.mono p);rwa [d] at h
 rw [d];have q:ofS e (bs B) (bp B)=.agg ⟨[.int .i64 (if e=0 then ((bs B:Nat):Int) else 0),.int .i64 (if e=0 then ((bp B:Nat):Int) else 0)]⟩:=by unfold ofS gx;split <;> rfl
 have r:∀ D:Mem,Gives cx.P 65 [.agg ⟨[.int .i64 (if e=0 then ((bs B:Nat):Int) else 0),.int .i64 (if e=0 then ((bp B:Nat):Int) else 0)]⟩] D (.int .i64 (if e=0 then ((bs B*bp B:Nat):Int) else 0)):=fun D=>by
  by_cases h:e=0
  ·rw [aW h,aW h,aW h];exact lB D (bs B) (bp B) om_
  rw [az h,az h,az h];exact lB D 0 0 om_
 rw [q] at f;refine UD func35 14 U3 fun w0=>Uz fun R a=>UQ U6 fun t=>C4 2 [1] a Z<|Uz fun R a=>UE af U9<|UI (f _ mup) U7<|UB 3 Z<|UP U5 fun u=>UG (j:=0) U12<|C4 1 [4,5] a Z<|Uz fun R a=>UE af U9<|UI (r _) U7<|C4 3 [2,3] a Z<|UJ (G.dropAll (UX U3 ?_));exact ⟨Z,Z⟩
theorem Qt (C:Mem)(a:Value)(B:Bk)(b:BookZ C a B 0)(c:bs B*bp B<=60):Gives cx.P 64 [a] C (.tuple #[gx (bs B) (bp B),.int .i64 0]):=by
 have h:=Pn C a B 0 b;have e:ofE 0 (bs B) (bp B)=0:=by unfold ofE;rw [az dc_,az om_]
 rw [e] at h;exact h
def rR (n:Nat)(done:List (Nat × Rat)):List Rat:=(List.range n).map fun j=>(dq done j).getD 0
def kY (n:Nat)(done:List (Nat × Rat)):List Value:=(rR n done).map fun q=>ai (qtx q)
theorem ma (n:Nat):List.replicate n (ai [48])=kY n []:=by
 unfold kY rR;rw [RG];symm;rw [List.eq_replicate_iff];refine ⟨by simp,fun v a=>?_⟩;obtain ⟨j,_,rfl⟩:=QX.1 a;show ai (qtx 0)=_;rw [qtx_zero]
theorem mb (n:Nat)(a:List (Nat × Rat)):(kY n a).length=n:=by simp [kY,rR]
theorem fD (b:List (Nat × Rat))(q:Rat)(h:a<n):aE (kY n b) [ai (qtx q)] a=kY n ((a,q)::b):=by
 have g:=mb n b;unfold aE;refine List.ext_getElem? (fun j=>?_);have f:∀ (d:List (Nat × Rat)),(kY n d)[j]?=if j<n then some (ai (qtx ((dq d j).getD 0))) else none:=fun d=>by
  unfold kY rR;rw [RG,QU];split
  ·rename_i c;rw [Rw c];rfl
  rename_i c;rw [QY (by simpa using Nat.le_of_not_lt c)];rfl
 rw [f ((a,q)::b)];have e:((kY n b).take a).length=a:=by rw [Q5,g];omega
 rcases Nat.lt_trichotomy j a with c | rfl | c
 ·rw [Rk,RI (by rw [e];exact c),Rx,aW c,f b,aW om_,aW om_];simp only [dq];rw [az om_]
 ·rw [Rk,Ro (by rw [e];exact QO _),e,SZ,aW h];simp [dq]
 rw [Ro (by rw [QV,e];simp;omega),QV,e,List.getElem?_drop];rw [show a+[ai (qtx q)].length+(j-(a+[ai (qtx q)].length))=j by simp;omega,f b];split
 ·simp only [dq];rw [az om_]
 rfl
theorem wk {d a:List (Nat × Rat)}(h:d.Perm a)(b:(d.map (·.1)).Nodup):rR n d=rR n a:=by
 unfold rR;refine List.map_congr_left (fun j _=>?_);rw [wN h b]
def eK (fm:List (Nat × Rat)):List (Int × Value):=fm.map fun x=>(((x.1:Nat):Int),ai (qtx x.2))
def Iu (p surface:Nat)(sign:Rat)(x:Nat × Rat):Nat × Rat:=(surface*p+x.1,sign*x.2)
theorem mV:QB 1 (-1:Rat):=fe QB_one
theorem yp (C:Mem)(s p a k:Nat)(h:a*p+k<=1000000):Gives cx.P 190 [gx s p,.int .i64 (a:Nat),.int .i64 (k:Nat)] C (.int .i64 ((a*p+k:Nat):Int)):=by
 have e:((a:Nat):Int)*(p:Nat)=((a*p:Nat):Int):=(RN _ _).symm;have h2:=OZ C s p (a:Nat) (k:Nat) (by rw [e];omega) om_;rw [e,<- Tx] at h2;exact h2
def Jn (s p surface:Nat)(fm:List (Nat × Rat))(sign:Rat):List Rat:=rR (s*p) (fm.map (Iu p surface sign))
theorem O4 (C:Mem)(J:Tabs C)(s p f b:Nat)(c:List (Nat × Rat))(g o:Rat)(k:Nat)(K:0<k)(hk:k<=1000)(ab:s*p<=100000)(hs:f<s)(A:C b=some (aR keyZ.enc (eK c)))(ac:(c.map (·.1)).Nodup)(ad:∀ x∈c,x.1<p)(ae:∀ x∈c,QB k x.2)(L:QB k g)(ag:QB k o) :
  Pur cx.P 196 [gx s p,.int .i64 f,.map (some b),ai (qtx g),ai (qtx o)] C fun u D=>∃ v,u=.agg ⟨[v,ai (qtx (g*o))]⟩/\Sl D 1 v ((Jn s p f c g).map fp):=by
 have aw:maxLen<=9223372036854775807:=by simp [maxLen]
 have M:(eK c).length=c.length:=by simp [eK]
 have ax:f*p+p<=s*p:=by
  rw [<- Nat.succ_mul];exact RQ _ hs
 have ay:=(c.map (·.1)).length;refine UD func196 38 U3 fun w0=>Uz fun R l=>UQ U6 fun b5=>UP U5 fun z=>UA [1,2,3,4,5,10] l Z<|G.freeze 1 Z fun _ _ N=>UW [(1,3)] Z fun R l=>Uw (bkT N 2) U8<|D.call (fV _ s p ab) Z (.inr dc_) U6 (QW _) fl_ (fun az _ aA _ ah=>?_);obtain ⟨bz,rfl,rfl⟩:=ah;refine UB 2 Z<|UM (dT _ J.m_ g o k K om_ L ag) U7 fl_<|UO [.slice (some ⟨bz,0,none⟩) (s*p:Nat) (s*p:Nat),ai (qtx (g*o))] U8<|UP U5 fun ak=>UG (j:=0) U12<|UA [1,2,3,5,10,11] l Z<|G.freeze 0 Z fun _ _ O=>UN (L':=[.arr (.slice (some ⟨bz,0,none⟩) (s*p) (s*p)) 56 1 (s*p) (kY (s*p) []),.obj z (.cells ⟨[.slice none 0 0,ai []]⟩ 123 (0,0))]) (by rw [ma];rfl)<|Uv 1 Z fun R l=>WH keyZ (Mem.get A mup) Z Z Z Z Z Z Z fl_ fun E=>UA [1,3,5,10,11,21] l Z<|G.loop (fun fr C' B μ=>∃ (seen:List Nat),(seen.Nodup/\(∀ j∈seen,j<c.length))/\fr=[(1,[],.int .i64 f),(3,[],ai (qtx g)),(5,[],.pointer (some ⟨b5,0,none⟩)),(10,[],.pointer (some ⟨z,0,none⟩)),(11,[],.pointer (some ⟨ak,0,none⟩)),(21,[],.pointer (some ⟨E,0,none⟩))]/\B=[.obj E (bA b (eK c).length seen),.arr (.slice (some ⟨bz,0,none⟩) (s*p) (s*p)) 56 1 (s*p) (kY (s*p) (seen.reverse.map fun i=>Iu p f g (c.getD i (0,0)))),.obj z (.cells ⟨[.slice none 0 0,ai []]⟩ 123 (0,0))]/\μ=c.length-seen.length) (hn_ [1,3,5,10,11,21] Z) ⟨[],⟨List.nodup_nil,by simp⟩,Z,Z,Z⟩ (fun fr aB aC m _ hI=>?_);obtain ⟨seen,⟨Q,S⟩,rfl,rfl,rfl⟩:=hI;refine Uz fun R l=>WM keyZ (q:=0) (Mem.get A mup) Z Z Z Z Z Z fl_ fun T aD t U=>C4 1 [1,3,5,10,11,21,23] l Z<|Ux (fun w=>?_) fun w=>?_
 ·obtain ⟨aE,j,F,al,rfl⟩:T=true/\∃ j,j<(eK c).length/\j ∉ seen/\t=seen++[j]:=by
   rcases U with ⟨h1,_⟩ | h1
   ·rw [h1] at w;cases w
   exact h1
  rw [M] at F;obtain ⟨⟨n,q⟩,H⟩:∃ x,c[j]?=some x:=⟨c[j],aj F⟩;have V:=QQ H;have aF:n<p:=ad _ V;have am:QB k q:=ae _ V;have an:(eK c)[j]?=some (((n:Nat):Int),ai (qtx q)):=by unfold eK;rw [QU,H];rfl
  have ao:c.getD j (0,0)=(n,q):=by rw [au,H];rfl
  have W:(seen++[j]).Nodup:=by
   rw [Sy];exact ⟨Q,by simp,fun a ha b hb e=>by rw [Rc.1 hb] at e;subst e;exact al ha⟩
  have X:∀ i∈seen++[j],i<c.length:=fun i I=>by
   rcases Q6.1 I with h | h
   ·exact S i h
   rw [Rc.1 h];exact F
  have aG:(seen++[j]).length<=c.length:=by
   have:=List.Nodup.length_le_of_subset W (l₂:=List.range c.length) (fun i I=>Q9.2 (X i I));simpa using this
  have aH:(seen++[j]).length=seen.length+1:=by simp
  have ap:f*p+n<s*p:=by omega
  refine Uz fun R l=>WD keyZ (Mem.get A mup) an af Z Z Z Z Z Z Z<|C4 4 [1,3,5,10,11,12,13,21] l Z<|US [0,1,2,3,4,5,6,7,8,9,10] [(5,1),(8,1)] Z kr_ fun R hB l=>Uy U6<|Uw (bkT O 1) U8<|Uw (bkT N 2) U8<|UB 2 Z<|UT (fun _=>(yp _ s p f n om_)) U9<|UB 2 Z<|UT (fun _=>(dT _ J.m_ g q k K om_ L am)) U9<|Va ((f*p+n)) U10 (fun _=>⟨by omega,by omega,(SK _).symm⟩) U2<|Vc (j:=1) U11 (by rw [mb];simp;omega)<|UA [1,3,5,10,11,21] l Z<|G.perm (L':=[.obj E (bA b (eK c).length (seen++[j])),.arr (.slice (some ⟨bz,0,none⟩) (s*p) (s*p)) 56 1 (s*p) (kY (s*p) ((seen++[j]).reverse.map fun i=>Iu p f g (c.getD i (0,0)))),.obj z (.cells ⟨[.slice none 0 0,ai []]⟩ 123 (0,0))]) (by
   rw [List.reverse_append,List.reverse_singleton,List.singleton_append,Rs,ao];unfold Iu;rw [<- fD _ _ ap];exact List.Perm.swap _ _ _) ?_
  refine UH (m':=c.length-(seen++[j]).length) om_ mup (hn_ [1,3,5,10,11,21] Z) ⟨seen++[j],⟨W,X⟩,Z,Z,Z⟩
 obtain ⟨aI,rfl,Y⟩:T=false/\t=seen/\∀ j,j<(eK c).length->j∈seen:=by
  rcases U with h1 | ⟨h1,_⟩
  ·exact h1
  rw [h1] at w;cases w
 rw [M] at Y;have aa:(t.reverse.map fun i=>Iu p f g (c.getD i (0,0))).Perm (c.map (Iu p f g)):=by
  have h1:=(wc (d:=((0:Nat),(0:Rat))) Q S Y).map (Iu p f g);rw [RG] at h1;exact ((List.reverse_perm t).map _).trans h1
 have aq:((c.map (Iu p f g)).map (·.1)).Nodup:=by
  rw [RG];have e:((·.1) ∘ Iu p f g:Nat × Rat->Nat)=(fun k=>f*p+k) ∘ (·.1):=rfl;rw [e,<- RG];rw [List.Nodup,List.pairwise_map];exact ac.imp (fun {a b} h=>by omega)
 have ar:kY (s*p) (t.reverse.map fun i=>Iu p f g (c.getD i (0,0)))=((Jn s p f c g).map fp).flatten:=by
  unfold Jn kY;rw [wk aa ((aa.map (·.1)).nodup_iff.2 aq)];exact (eA (fun q=>ai (qtx q)) _).symm
 refine Vo 0 Z<|G.freezeArr 0 ((Jn s p f c g).map fp) rfl ar (by intro r hr;obtain ⟨y,_,rfl⟩:=QX.1 hr;rfl) (by simp [Jn,rR]) fun Cg hg av=>Uz fun R l=>Uw (bkT O 2) U8<|UG (j:=0) U12<|UA [10] l Z<|UJ (Vm af U4 ?_);exact ⟨Z,_,Z,av⟩
structure RowQ where
 f:List Rat
 b:Rat
def aT (vs:List Value)(rows:List RowQ):List (List Value):=List.zipWith (fun w (r:RowQ)=>[w,ai (qtx r.b)]) vs rows
def RowsOk (C:Mem)(vs:List Value)(rows:List RowQ):Prop:=vs.length=rows.length/\∀ (i:Nat)(w:Value)(r:RowQ),vs[i]?=some w->rows[i]?=some r->Sl C 1 w (r.f.map fp)
theorem RowsOk.mono {C D:Mem}{a:List Value}{b:List RowQ}(h:RowsOk C a b)(c:C.le D):RowsOk D a b:=⟨h.1,fun i w r h1 h2=>(h.2 i w r h1 h2).mono c⟩
theorem RowsOk.m_ {D:Mem}{a:List RowQ}(h:RowsOk C vs a)(b:C.le D:=by exact mup):RowsOk D vs a:=RowsOk.mono h b
theorem RowsOk.nil (C:Mem):RowsOk C [] []:=⟨rfl,fun i w r h1 _=>by simp at h1⟩
theorem RowsOk.snoc {a:List RowQ}{r:RowQ}(h:RowsOk C vs a)(c:Sl C 1 v (r.f.map fp)):RowsOk C (vs++[v]) (a++[r]):=by
 have h0:=h.1;refine ⟨by simp [h0],fun j w d h1 h2=>?_⟩;rcases Rr j vs.length with e | g
 ·rw [RI e] at h1;rw [RI om_] at h2;exact h.2 j w d h1 h2
 rw [Ro g] at h1;rw [Ro om_,<- h0] at h2;cases b:j-vs.length with
 | zero=>rw [b] at h1 h2;simp at h1 h2;subst h1;subst h2;exact c
 | succ q=>rw [b] at h1;simp at h1
theorem fw {a:List RowQ}(h:vs.length=a.length)(v:Value)(r:RowQ):aT (vs++[v]) (a++[r])=aT vs a++[[v,ai (qtx r.b)]]:=by
 unfold aT;rw [List.zipWith_append h];rfl
theorem dy {a:List RowQ}(h:vs.length=a.length):(aT vs a).length=a.length:=by simp [aT,h]
theorem iX (b:List Value)(c:List RowQ):∀ r∈aT b c,r.length=2:=by
 intro r hr;unfold aT at hr;obtain ⟨i,a⟩:=Sg hr;rw [List.getElem?_zipWith] at a;cases h1:b[i]? <;> cases h2:c[i]? <;> rw [h1,h2] at a <;> simp at a
 subst a;rfl
def RowsIn (C:Mem)(v:Value)(rows:List RowQ):Prop:=∃ vs:List Value,RowsOk C vs rows/\Sl C 2 v (aT vs rows)
theorem RowsIn.mono {C D:Mem}{v:Value}{a:List RowQ}(h:RowsIn C v a)(b:C.le D):RowsIn D v a:=by
 obtain ⟨vs,h1,h2⟩:=h;exact ⟨vs,h1.mono b,h2.mono b⟩
theorem RowsIn.m_ {D:Mem}{a:List RowQ}(h:RowsIn C v a)(b:C.le D:=by exact mup):RowsIn D v a:=RowsIn.mono h b
def sk (s p:Nat)(x:Lay)(i k:Nat):RowQ:=⟨rR (s*p) [(i*p+k, -1),((i-1)*p+k,1)], -x.min⟩
def G8 (s p:Nat)(m:Rat)(i k:Nat):RowQ:=⟨rR (s*p) [(i*p+k,1),((i-1)*p+k, -1)],m⟩
def kp (s p:Nat)(x:Lay)(i k:Nat):List RowQ :=
 sk s p x i k::(match x.max with
  | none=>[]
  | some m=>[G8 s p m i k])
def bx (s p:Nat)(x:Lay)(i:Nat):Nat->List RowQ
 | 0=>[]
 | k+1=>bx s p x i k++kp s p x i k
def bj (s p:Nat)(col:List Lay):Nat->List RowQ
 | 0=>[]
 | n+1=>bj s p col n++bx s p (col.getD (n+1) ⟨[],0,none⟩) (n+1) p
theorem mM (s p:Nat)(x:Lay)(i:Nat):∀ k,(bx s p x i k).length<=2*k
 | 0=>QO _
 | k+1=>by
  have:=mM s p x i k;have h2:(kp s p x i k).length<=2:=by unfold kp;split <;> simp
  simp only [bx,QV];omega
theorem jz (s p:Nat)(a:List Lay):∀ n,(bj s p a n).length<=2*(n*p)
 | 0=>by simp [bj]
 | n+1=>by
  have:=jz s p a n;have h2:=mM s p (a.getD (n+1) ⟨[],0,none⟩) (n+1) p;simp only [bj,QV,Nat.succ_mul];omega
theorem cX:qtx (-1)=[45,49]:=by
 rw [gi (q:=1) dc_ dc_,dA]
theorem st2 (c d:Rat)(e:a<n)(f:b<n):aE (aE (List.replicate n (ai [48])) [ai (qtx c)] a) [ai (qtx d)] b=kY n [(b,d),(a,c)]:=by
 rw [ma,fD _ _ e,fD _ _ f]
theorem P3 (c d:Rat)(e:a<n)(f:b<n)(g:a≠b):aE (aE (List.replicate n (ai [48])) [ai (qtx d)] b) [ai (qtx c)] a=kY n [(b,d),(a,c)]:=by
 rw [st2 d c f e];unfold kY;rw [wk (List.Perm.swap _ _ _) (by simp;exact g)]
theorem jp (n:Nat)(d:List (Nat × Rat)):kY n d=((rR n d).map fp).flatten:=(eA (fun q=>ai (qtx q)) _).symm
theorem jD (n:Nat)(d:List (Nat × Rat)):(rR n d).length=n:=by simp [rR]
theorem vN (C:Mem)(_aN:Tabs C)(v:Value)(s p:Nat)(c:List Lay)(J:Sl C 3 v (c.map yX))(hs:s+1=c.length)(aO:s*p<=60)(an:∀ x∈c,Oz x) :
  Pur cx.P 127 [gx s p,v] C fun u D=>RowsIn D u (bj s p c (c.length-2)):=by
 obtain ⟨F,c0,rfl,ao,aP,_⟩:=id J;have aQ:maxLen<=9223372036854775807:=by simp [maxLen]
 simp only [al] at J ao ⊢;refine UD func127 81 U3 fun w0=>Uz fun R d=>UQ U6 fun H=>C4 1 [1,2] d Z<|G.freeze 0 Z fun _ _ K=>Uu 1 [1,2,5] Z<|Uu 1 [1,2,5,6] Z<|G.nilArr 123 2<|G.loop (fun fr C' f t=>∃ (i:Nat)(vs:List Value)(w:Value),(1<=i/\(i+1<=c.length∨i=1)/\RowsOk C' vs (bj s p c (i-1)))/\fr=[(1,[],.slice F c.length c0),(2,[],.pointer (some ⟨H,0,none⟩)),(5,[],w),(6,[],.int .i64 i)]/\f=[.arr w 123 2 (bj s p c (i-1)).length (aT vs (bj s p c (i-1))).flatten]/\t=c.length-i) (hn_ [1,2,5,6] Z) ⟨1,[],_,⟨QO _,.inr Z,RowsOk.nil _⟩,Z,Z,Z⟩ (fun fr aR aS m _ z=>?_);obtain ⟨i,vs,w,⟨aU,aV,O⟩,rfl,rfl,rfl⟩:=z;refine Uv 1 Z fun R d=>UF _ U7<|C4 3 [1,2,5,6,15] d Z<|Ux (fun W=>?_) fun W=>?_
 ·have ac:i+1<c.length:=by
   have:=aJ W;omega
  obtain ⟨x,L⟩:∃ x,c[i]?=some x:=⟨c[i]'om_,aj om_⟩;obtain ⟨M,aW,aX⟩:=an x (QQ L);have aY:=jz s p c (i-1);refine Uv 1 Z fun R d=>Uw (bkT K 1) U8<|C4 1 [1,2,5,6,19,20] d Z<|UN (L':=[.arr w 123 2 (bj s p c (i-1)++bx s p x i 0).length (aT vs (bj s p c (i-1)++bx s p x i 0)).flatten]) (by simp [bx])<|G.loop (fun fr C' f t=>∃ (k:Nat)(g:List Value)(o:Value),(k<=p/\RowsOk C' g (bj s p c (i-1)++bx s p x i k))/\fr=[(1,[],.slice F c.length c0),(2,[],.pointer (some ⟨H,0,none⟩)),(5,[],o),(6,[],.int .i64 i),(19,[],.int .i64 p),(20,[],.int .i64 k)]/\f=[.arr o 123 2 (bj s p c (i-1)++bx s p x i k).length (aT g (bj s p c (i-1)++bx s p x i k)).flatten]/\t=p-k) (hn_ [1,2,5,6,19,20] Z) ⟨0,vs,w,⟨QT _,by simpa [bx] using O⟩,Z,Z,Z⟩ (fun fr aZ a0 m _ z=>?_);obtain ⟨k,g,o,⟨hk,X⟩,rfl,rfl,rfl⟩:=z;refine Uu 1 [1,2,5,6,19,20,21] Z<|Ux (fun Y=>?_) fun Y=>?_
  ·have ad:k<p:=by simpa using Y
   have a1:i*p+p<=s*p:=by
    rw [<- Nat.succ_mul];exact RQ _ om_
   have a2:(i-1)*p+p=i*p:=by
    rw [<- Nat.succ_mul,show (i-1).succ=i by omega]
   have a3:=mM s p x i k;have a4:(i-1)*p<=60:=by omega
   have ag:(bj s p c (i-1)++bx s p x i k).length<=400:=by
    rw [QV];omega
   refine Uu 2 [1,2,5,6,7,19,20] Z<|US [0,1,2,3,4,5,6,7,8,9,10] [(4,1),(8,1)] Z kr_ fun R Q d=>Uw (bkT K 2) U8<|Uy U6<|Vf (((i-1:Nat):Int)) U4 om_ om_ om_ U2<|Uy U6<|UT (fun _=>(yp _ s p (i-1) k om_)) U9<|Uw (bkT K 2) U8<|UB 2 Z<|UT (fun _=>(yp _ s p i k om_)) U9<|C4 2 [1,2,5,6,8,9,19,20] d Z<|G.cut (fun fr C' f t=>∃ (bz e:Nat),(True)/\fr=[(1,[],.slice F c.length c0),(2,[],.pointer (some ⟨H,0,none⟩)),(5,[],o),(6,[],.int .i64 i),(8,[],.int .i64 ((((i-1)*p+k:Nat)):Int)),(9,[],.int .i64 (((i*p+k:Nat)):Int)),(10,[],.pointer (some ⟨e,0,none⟩)),(19,[],.int .i64 p),(20,[],.int .i64 k)]/\f=[.arr (.slice (some ⟨bz,0,none⟩) (s*p) (s*p)) 56 1 (s*p) (List.replicate (s*p) (ai [48])),.obj e (.cells ⟨[.slice (some ⟨bz,0,none⟩) (s*p) (s*p),ai (qtx (-x.min))]⟩ 123 (0,0)),.arr o 123 2 (bj s p c (i-1)++bx s p x i k).length (aT g (bj s p c (i-1)++bx s p x i k)).flatten]) ?_ (fun fr a5 a6 t a7 z=>?_)
   ·refine Vp (.cut [0,2,3,4,5] (.alt 1 (.fin [6,7,8,9,10]) (.alt 6 (.cut [] (.alt 1 (.fin [7,8,9,10]) (.alt 9 (.fin [1,7,8,10]) .stop))) (.alt 9 (.cut [] (.alt 1 (.fin [6,7,8,10]) (.alt 6 (.fin [1,7,8,10]) .stop))) .stop)))) [(7,1),(1,3)] Z Z kr_ fun R Q d B=>Uw (bkT K 2) U8<|UB 2 Z<|UK J.m_ U10 om_ (bY L) fl_ fun a8 ap=>VQ ap U10 fl_ fun a9 S=>Vd B Z ⟨?_, ?_, ?_,trivial⟩
    ·refine D.call (fV _ s p om_) Z (.inr dc_) U6 (QW _) fl_ fun T U V _ E=>Uw S.m_ U8<|Vb (fun _=>(eP _ x.min (Do M))) U9 ?_;obtain ⟨bz,rfl,rfl⟩:=E;refine UO [.slice (some ⟨bz,0,none⟩) (s*p:Nat) (s*p:Nat),ai (qtx (-x.min))] U8<|UP U5 (fun e=>?_)
     first | refine Vr (j:=0) U12 ?_ | refine Vr (j:=1) U12 ?_
     exact UA [1,2,5,6,8,9,10,19,20] d Z<|G.perm (L':=[.arr (.slice (some ⟨bz,0,none⟩) (s*p) (s*p)) 56 1 (s*p) (List.replicate (s*p) (ai [48])),.obj e (.cells ⟨[.slice (some ⟨bz,0,none⟩) (s*p) (s*p),ai (qtx (-x.min))]⟩ 123 (0,0)),.arr o 123 2 (bj s p c (i-1)++bx s p x i k).length (aT g (bj s p c (i-1)++bx s p x i k)).flatten]) (by first | exact QW _ | exact List.Perm.swap _ _ _)<|UL 0 mup (hn_ [1,2,5,6,8,9,10,19,20] Z) ⟨bz,e,trivial,Z,Z⟩
    ·refine Uw S.m_ U8<|Vd B Z ⟨?_, ?_,trivial⟩
     ·refine D.call (fV _ s p om_) Z (.inr dc_) U6 (QW _) fl_ fun T U V _ E=>Vb (fun _=>(eP _ x.min (Do M))) U9 ?_;obtain ⟨bz,rfl,rfl⟩:=E;refine UO [.slice (some ⟨bz,0,none⟩) (s*p:Nat) (s*p:Nat),ai (qtx (-x.min))] U8<|UP U5 (fun e=>?_)
      first | refine Vr (j:=0) U12 ?_ | refine Vr (j:=1) U12 ?_
      exact UA [1,2,5,6,8,9,10,19,20] d Z<|G.perm (L':=[.arr (.slice (some ⟨bz,0,none⟩) (s*p) (s*p)) 56 1 (s*p) (List.replicate (s*p) (ai [48])),.obj e (.cells ⟨[.slice (some ⟨bz,0,none⟩) (s*p) (s*p),ai (qtx (-x.min))]⟩ 123 (0,0)),.arr o 123 2 (bj s p c (i-1)++bx s p x i k).length (aT g (bj s p c (i-1)++bx s p x i k)).flatten]) (by first | exact QW _ | exact List.Perm.swap _ _ _)<|UL 0 mup (hn_ [1,2,5,6,8,9,10,19,20] Z) ⟨bz,e,trivial,Z,Z⟩
     refine UP U5 fun e=>D.call (fV _ s p om_) Z (.inr dc_) U6 (QW _) fl_ fun T U V _ E=>Vb (fun _=>(eP _ x.min (Do M))) U9 ?_;obtain ⟨bz,rfl,rfl⟩:=E;refine UO [.slice (some ⟨bz,0,none⟩) (s*p:Nat) (s*p:Nat),ai (qtx (-x.min))] U8 ?_
     first | refine Vr (j:=0) U12 ?_ | refine Vr (j:=1) U12 ?_
     exact UA [1,2,5,6,8,9,10,19,20] d Z<|G.perm (L':=[.arr (.slice (some ⟨bz,0,none⟩) (s*p) (s*p)) 56 1 (s*p) (List.replicate (s*p) (ai [48])),.obj e (.cells ⟨[.slice (some ⟨bz,0,none⟩) (s*p) (s*p),ai (qtx (-x.min))]⟩ 123 (0,0)),.arr o 123 2 (bj s p c (i-1)++bx s p x i k).length (aT g (bj s p c (i-1)++bx s p x i k)).flatten]) (by first | exact QW _ | exact List.Perm.swap _ _ _)<|UL 0 mup (hn_ [1,2,5,6,8,9,10,19,20] Z) ⟨bz,e,trivial,Z,Z⟩
    refine UP U5 fun e=>Vd B Z ⟨?_, ?_,trivial⟩
    ·refine D.call (fV _ s p om_) Z (.inr dc_) U6 (QW _) fl_ fun T U V _ E=>Uw S.m_ U8<|Vb (fun _=>(eP _ x.min (Do M))) U9 ?_;obtain ⟨bz,rfl,rfl⟩:=E;refine UO [.slice (some ⟨bz,0,none⟩) (s*p:Nat) (s*p:Nat),ai (qtx (-x.min))] U8 ?_
     first | refine Vr (j:=0) U12 ?_ | refine Vr (j:=1) U12 ?_
     exact UA [1,2,5,6,8,9,10,19,20] d Z<|G.perm (L':=[.arr (.slice (some ⟨bz,0,none⟩) (s*p) (s*p)) 56 1 (s*p) (List.replicate (s*p) (ai [48])),.obj e (.cells ⟨[.slice (some ⟨bz,0,none⟩) (s*p) (s*p),ai (qtx (-x.min))]⟩ 123 (0,0)),.arr o 123 2 (bj s p c (i-1)++bx s p x i k).length (aT g (bj s p c (i-1)++bx s p x i k)).flatten]) (by first | exact QW _ | exact List.Perm.swap _ _ _)<|UL 0 mup (hn_ [1,2,5,6,8,9,10,19,20] Z) ⟨bz,e,trivial,Z,Z⟩
    refine Uw S.m_ U8<|D.call (fV _ s p om_) Z (.inr dc_) U6 (QW _) fl_ fun T U V _ E=>Vb (fun _=>(eP _ x.min (Do M))) U9 ?_;obtain ⟨bz,rfl,rfl⟩:=E;refine UO [.slice (some ⟨bz,0,none⟩) (s*p:Nat) (s*p:Nat),ai (qtx (-x.min))] U8 ?_
    first | refine Vr (j:=0) U12 ?_ | refine Vr (j:=1) U12 ?_
    exact UA [1,2,5,6,8,9,10,19,20] d Z<|G.perm (L':=[.arr (.slice (some ⟨bz,0,none⟩) (s*p) (s*p)) 56 1 (s*p) (List.replicate (s*p) (ai [48])),.obj e (.cells ⟨[.slice (some ⟨bz,0,none⟩) (s*p) (s*p),ai (qtx (-x.min))]⟩ 123 (0,0)),.arr o 123 2 (bj s p c (i-1)++bx s p x i k).length (aT g (bj s p c (i-1)++bx s p x i k)).flatten]) (by first | exact QW _ | exact List.Perm.swap _ _ _)<|UL 0 mup (hn_ [1,2,5,6,8,9,10,19,20] Z) ⟨bz,e,trivial,Z,Z⟩
   obtain ⟨bz,e,_,rfl,rfl⟩:=z;refine G.cut (fun fr C' f t=>(True)/\fr=[(1,[],.slice F c.length c0),(2,[],.pointer (some ⟨H,0,none⟩)),(5,[],o),(6,[],.int .i64 i),(8,[],.int .i64 ((((i-1)*p+k:Nat)):Int)),(9,[],.int .i64 (((i*p+k:Nat)):Int)),(10,[],.pointer (some ⟨e,0,none⟩)),(19,[],.int .i64 p),(20,[],.int .i64 k)]/\f=[.arr (.slice (some ⟨bz,0,none⟩) (s*p) (s*p)) 56 1 (s*p) (kY (s*p) [(i*p+k, -1),((i-1)*p+k,1)]),.obj e (.cells ⟨[.slice (some ⟨bz,0,none⟩) (s*p) (s*p),ai (qtx (-x.min))]⟩ 123 (0,0)),.arr o 123 2 (bj s p c (i-1)++bx s p x i k).length (aT g (bj s p c (i-1)++bx s p x i k)).flatten]) ?_ (fun fr ba bb t bc z=>?_)
   ·refine Vp (.cut [0,1,2,3,5,6] (.alt 4 (.fin [7,8,9]) (.alt 7 (.fin [4,8,9]) .stop))) [] Z Z kr_ fun R Q d B=>Uy U6<|UE ae U9<|UB 3 Z<|Va (((i-1)*p+k)) U10 (fun _=>⟨by omega,by omega,(SK _).symm⟩) U2<|Vd B Z ⟨?_, ?_,trivial⟩
    ·refine UE ae U9<|Vc (j:=0) U11 (by simp [];omega)<|Va ((i*p+k)) U10 (fun _=>⟨by omega,by omega,(SK _).symm⟩) U2<|Vc (j:=0) U11 (by simp [aE];omega)<|UA [1,2,5,6,8,9,10,19,20] d Z<|UN (L':=[.arr (.slice (some ⟨bz,0,none⟩) (s*p) (s*p)) 56 1 (s*p) (kY (s*p) [(i*p+k, -1),((i-1)*p+k,1)]),.obj e (.cells ⟨[.slice (some ⟨bz,0,none⟩) (s*p) (s*p),ai (qtx (-x.min))]⟩ 123 (0,0)),.arr o 123 2 (bj s p c (i-1)++bx s p x i k).length (aT g (bj s p c (i-1)++bx s p x i k)).flatten]) (by
      first
      | (rw [<- st2 (n:=s*p) 1 (-1) om_ om_,dA,cX];rfl)
      | (rw [<- P3 (n:=s*p) 1 (-1) om_ om_ om_,dA,cX];rfl)) ?_
     exact UL 0 (Mem.le.refl _) (hn_ [1,2,5,6,8,9,10,19,20] Z) ⟨trivial,Z,Z⟩
    refine Vc (j:=0) U11 (by simp [];omega)<|UE ae U9<|Va ((i*p+k)) U10 (fun _=>⟨by omega,by omega,(SK _).symm⟩) U2<|Vc (j:=0) U11 (by simp [aE];omega)<|UA [1,2,5,6,8,9,10,19,20] d Z<|UN (L':=[.arr (.slice (some ⟨bz,0,none⟩) (s*p) (s*p)) 56 1 (s*p) (kY (s*p) [(i*p+k, -1),((i-1)*p+k,1)]),.obj e (.cells ⟨[.slice (some ⟨bz,0,none⟩) (s*p) (s*p),ai (qtx (-x.min))]⟩ 123 (0,0)),.arr o 123 2 (bj s p c (i-1)++bx s p x i k).length (aT g (bj s p c (i-1)++bx s p x i k)).flatten]) (by
     first
     | (rw [<- st2 (n:=s*p) 1 (-1) om_ om_,dA,cX];rfl)
     | (rw [<- P3 (n:=s*p) 1 (-1) om_ om_ om_,dA,cX];rfl)) ?_
    exact UL 0 (Mem.le.refl _) (hn_ [1,2,5,6,8,9,10,19,20] Z) ⟨trivial,Z,Z⟩
   obtain ⟨_,rfl,rfl⟩:=z;refine G.freezeArr 0 ((rR (s*p) [(i*p+k, -1),((i-1)*p+k,1)]).map fp) rfl (jp _ _) (by intro r hr;obtain ⟨y,_,rfl⟩:=QX.1 hr;rfl) (by simp [jD]) (fun Cz hz aq=>?_);have ar:=X.1;have aa:=RowsOk.snoc (r:=sk s p x i k) X.m_ aq;have au:=fw ar (.slice (some ⟨bz,0,none⟩) (s*p) (s*p)) (sk s p x i k);refine Uv 1 Z fun R d=>UE af U9<|UR [[.slice (some ⟨bz,0,none⟩) (s*p:Nat) (s*p:Nat),ai (qtx (-x.min))]] U12 fun bd _ _ av=>D.append (j:=1) U11 av Z ax (by simp only [aK];omega) fl_ fun A=>C4 1 [1,2,5,6,8,9,10,19,20] d Z<|UN (L':=[.arr A 123 2 (bj s p c (i-1)++bx s p x i k++[sk s p x i k]).length (aT (g++[.slice (some ⟨bz,0,none⟩) (s*p) (s*p)]) (bj s p c (i-1)++bx s p x i k++[sk s p x i k])).flatten,.obj e (.cells ⟨[.slice (some ⟨bz,0,none⟩) (s*p) (s*p),ai (qtx (-x.min))]⟩ 123 (0,0))]) (by rw [au];simp [sk];omega)<|Uv 2 Z fun R d=>UK J.m_ U10 om_ (bY L) fl_ fun be aw=>VQ aw U10 fl_ fun bf ay=>Uw ay U8<|C4 1 [1,2,5,6,8,9,10,19,20,58] d Z<|Ux (fun I=>?_) fun I=>?_
   ·obtain ⟨m,hm⟩:∃ m,x.max=some m:=by
     rw [pH] at I;exact TX.1 I
    have N:kp s p x i k=[sk s p x i k,G8 s p m i k]:=by unfold kp;rw [hm]
    have az:vy x.max=qtx m:=by rw [hm];rfl
    refine G.cut (fun fr C' f t=>∃ (h:Nat),(True)/\fr=[(1,[],.slice F c.length c0),(2,[],.pointer (some ⟨H,0,none⟩)),(5,[],A),(6,[],.int .i64 i),(8,[],.int .i64 ((((i-1)*p+k:Nat)):Int)),(9,[],.int .i64 (((i*p+k:Nat)):Int)),(10,[],.pointer (some ⟨e,0,none⟩)),(19,[],.int .i64 p),(20,[],.int .i64 k)]/\f=[.arr (.slice (some ⟨h,0,none⟩) (s*p) (s*p)) 56 1 (s*p) (List.replicate (s*p) (ai [48])),.obj e (.cells ⟨[.slice (some ⟨h,0,none⟩) (s*p) (s*p),ai (vy x.max)]⟩ 123 (0,0)),.arr A 123 2 (bj s p c (i-1)++bx s p x i k++[sk s p x i k]).length (aT (g++[.slice (some ⟨bz,0,none⟩) (s*p) (s*p)]) (bj s p c (i-1)++bx s p x i k++[sk s p x i k])).flatten]) ?_ (fun fr bg bh t bi z=>?_)
    ·refine Vp (.cut [0,2,3,4,5] (.alt 1 (.fin [6,7,8]) (.alt 6 (.fin [1,7,8]) .stop))) [(1,3)] Z Z kr_ fun R Q d B=>Uw (bkT K 2) U8<|UB 2 Z<|UK J.m_ U10 om_ (bY L) fl_ fun bk aA=>VQ aA U10 fl_ fun bl ah=>Vd B Z ⟨?_, ?_,trivial⟩
     ·refine D.call (fV _ s p om_) Z (.inr dc_) U6 (QW _) fl_ fun aB aC aD _ ab=>Uw ah.m_ U8 ?_;obtain ⟨h,rfl,rfl⟩:=ab;refine UO [.slice (some ⟨h,0,none⟩) (s*p:Nat) (s*p:Nat),ai (vy x.max)] U8 ?_
      first | refine Vr (j:=2) U12 ?_ | refine Vr (j:=1) U12 ?_
      exact UA [1,2,5,6,8,9,10,19,20] d Z<|G.perm (L':=[.arr (.slice (some ⟨h,0,none⟩) (s*p) (s*p)) 56 1 (s*p) (List.replicate (s*p) (ai [48])),.obj e (.cells ⟨[.slice (some ⟨h,0,none⟩) (s*p) (s*p),ai (vy x.max)]⟩ 123 (0,0)),.arr A 123 2 (bj s p c (i-1)++bx s p x i k++[sk s p x i k]).length (aT (g++[.slice (some ⟨bz,0,none⟩) (s*p) (s*p)]) (bj s p c (i-1)++bx s p x i k++[sk s p x i k])).flatten]) (by first | exact QW _ | exact List.Perm.swap _ _ _)<|UL 0 mup (hn_ [1,2,5,6,8,9,10,19,20] Z) ⟨h,trivial,Z,Z⟩
     refine Uw ah.m_ U8<|D.call (fV _ s p om_) Z (.inr dc_) U6 (QW _) fl_ (fun aB aC aD _ ab=>?_);obtain ⟨h,rfl,rfl⟩:=ab;refine UO [.slice (some ⟨h,0,none⟩) (s*p:Nat) (s*p:Nat),ai (vy x.max)] U8 ?_
     first | refine Vr (j:=2) U12 ?_ | refine Vr (j:=1) U12 ?_
     exact UA [1,2,5,6,8,9,10,19,20] d Z<|G.perm (L':=[.arr (.slice (some ⟨h,0,none⟩) (s*p) (s*p)) 56 1 (s*p) (List.replicate (s*p) (ai [48])),.obj e (.cells ⟨[.slice (some ⟨h,0,none⟩) (s*p) (s*p),ai (vy x.max)]⟩ 123 (0,0)),.arr A 123 2 (bj s p c (i-1)++bx s p x i k++[sk s p x i k]).length (aT (g++[.slice (some ⟨bz,0,none⟩) (s*p) (s*p)]) (bj s p c (i-1)++bx s p x i k++[sk s p x i k])).flatten]) (by first | exact QW _ | exact List.Perm.swap _ _ _)<|UL 0 mup (hn_ [1,2,5,6,8,9,10,19,20] Z) ⟨h,trivial,Z,Z⟩
    obtain ⟨h,_,rfl,rfl⟩:=z;refine G.cut (fun fr C' f t=>(True)/\fr=[(1,[],.slice F c.length c0),(2,[],.pointer (some ⟨H,0,none⟩)),(5,[],A),(6,[],.int .i64 i),(10,[],.pointer (some ⟨e,0,none⟩)),(19,[],.int .i64 p),(20,[],.int .i64 k)]/\f=[.arr (.slice (some ⟨h,0,none⟩) (s*p) (s*p)) 56 1 (s*p) (kY (s*p) [(i*p+k,1),((i-1)*p+k, -1)]),.obj e (.cells ⟨[.slice (some ⟨h,0,none⟩) (s*p) (s*p),ai (vy x.max)]⟩ 123 (0,0)),.arr A 123 2 (bj s p c (i-1)++bx s p x i k++[sk s p x i k]).length (aT (g++[.slice (some ⟨bz,0,none⟩) (s*p) (s*p)]) (bj s p c (i-1)++bx s p x i k++[sk s p x i k])).flatten]) ?_ (fun fr bm bn t bo z=>?_)
    ·refine Vp (.cut [0,1,2,3,5,6] (.alt 4 (.fin [7,8,9]) (.alt 7 (.fin [4,8,9]) .stop))) [] Z Z kr_ fun R Q d B=>Uy U6<|UE ae U9<|UB 3 Z<|Va (((i-1)*p+k)) U10 (fun _=>⟨by omega,by omega,(SK _).symm⟩) U2<|Vd B Z ⟨?_, ?_,trivial⟩
     ·refine UE ae U9<|Vc (j:=0) U11 (by simp [];omega)<|Va ((i*p+k)) U10 (fun _=>⟨by omega,by omega,(SK _).symm⟩) U2<|Vc (j:=0) U11 (by simp [aE];omega)<|UA [1,2,5,6,10,19,20] d Z<|UN (L':=[.arr (.slice (some ⟨h,0,none⟩) (s*p) (s*p)) 56 1 (s*p) (kY (s*p) [(i*p+k,1),((i-1)*p+k, -1)]),.obj e (.cells ⟨[.slice (some ⟨h,0,none⟩) (s*p) (s*p),ai (vy x.max)]⟩ 123 (0,0)),.arr A 123 2 (bj s p c (i-1)++bx s p x i k++[sk s p x i k]).length (aT (g++[.slice (some ⟨bz,0,none⟩) (s*p) (s*p)]) (bj s p c (i-1)++bx s p x i k++[sk s p x i k])).flatten]) (by
       first
       | (rw [<- st2 (n:=s*p) (-1) 1 om_ om_,dA,cX];rfl)
       | (rw [<- P3 (n:=s*p) (-1) 1 om_ om_ om_,dA,cX];rfl)) ?_
      exact UL 0 (Mem.le.refl _) (hn_ [1,2,5,6,10,19,20] Z) ⟨trivial,Z,Z⟩
     refine Vc (j:=0) U11 (by simp [];omega)<|UE ae U9<|Va ((i*p+k)) U10 (fun _=>⟨by omega,by omega,(SK _).symm⟩) U2<|Vc (j:=0) U11 (by simp [aE];omega)<|UA [1,2,5,6,10,19,20] d Z<|UN (L':=[.arr (.slice (some ⟨h,0,none⟩) (s*p) (s*p)) 56 1 (s*p) (kY (s*p) [(i*p+k,1),((i-1)*p+k, -1)]),.obj e (.cells ⟨[.slice (some ⟨h,0,none⟩) (s*p) (s*p),ai (vy x.max)]⟩ 123 (0,0)),.arr A 123 2 (bj s p c (i-1)++bx s p x i k++[sk s p x i k]).length (aT (g++[.slice (some ⟨bz,0,none⟩) (s*p) (s*p)]) (bj s p c (i-1)++bx s p x i k++[sk s p x i k])).flatten]) (by
      first
      | (rw [<- st2 (n:=s*p) (-1) 1 om_ om_,dA,cX];rfl)
      | (rw [<- P3 (n:=s*p) (-1) 1 om_ om_ om_,dA,cX];rfl)) ?_
     exact UL 0 (Mem.le.refl _) (hn_ [1,2,5,6,10,19,20] Z) ⟨trivial,Z,Z⟩
    obtain ⟨_,rfl,rfl⟩:=z;refine G.freezeArr 0 ((rR (s*p) [(i*p+k,1),((i-1)*p+k, -1)]).map fp) rfl (jp _ _) (by intro r hr;obtain ⟨y,_,rfl⟩:=QX.1 hr;rfl) (by simp [jD]) (fun bp bq aF=>?_);have aG:=RowsOk.snoc (r:=G8 s p m i k) aa.m_ aF;have aH:=fw aa.1 (.slice (some ⟨h,0,none⟩) (s*p) (s*p)) (G8 s p m i k);refine Uv 1 Z fun R d=>UE af U9<|UR [[.slice (some ⟨h,0,none⟩) (s*p:Nat) (s*p:Nat),ai (vy x.max)]] U12 fun br _ _ aI=>D.append (j:=1) U11 aI Z (by simp only [QV,aK,maxLen] at ag ⊢;omega) (by simp only [QV,aK] at ag ⊢;omega) fl_ fun ak=>C4 1 [1,2,5,6,19,20] d Z<|Uz fun R d=>UF _ U7<|C4 1 [1,2,5,6,19,20] d Z<|Vo 1 Z<|UN (L':=[.arr ak 123 2 (bj s p c (i-1)++bx s p x i (k+1)).length (aT (g++[.slice (some ⟨bz,0,none⟩) (s*p) (s*p)]++[.slice (some ⟨h,0,none⟩) (s*p) (s*p)]) (bj s p c (i-1)++bx s p x i (k+1))).flatten]) (by
     rw [bx,N,<- Rk,show ∀ (l:List RowQ)(a b:RowQ),l++[a,b]=l++[a]++[b] from fun l a b=>by simp,aH,az];simp [G8];omega) ?_
    refine UH (m':=p-(k+1)) om_ mup (hn_ [1,2,5,6,19,20] Z) ⟨k+1,_,ak,⟨by omega,by
     rw [bx,N,<- Rk,show ∀ (l:List RowQ)(a b:RowQ),l++[a,b]=l++[a]++[b] from fun l a b=>by simp];exact aG.mono mup⟩,Z,Z,Z⟩
   have hm:x.max=none:=by
    rw [pH] at I;cases aL:x.max with
    | none=>rfl
    | some q=>rw [aL] at I;cases I
   have N:kp s p x i k=[sk s p x i k]:=by unfold kp;rw [hm]
   refine Uz fun R d=>UF _ U7<|C4 1 [1,2,5,6,19,20] d Z<|Vo 1 Z<|UN (L':=[.arr A 123 2 (bj s p c (i-1)++bx s p x i (k+1)).length (aT (g++[.slice (some ⟨bz,0,none⟩) (s*p) (s*p)]) (bj s p c (i-1)++bx s p x i (k+1))).flatten]) (by rw [bx,N,<- Rk];rfl)<|UH (m':=p-(k+1)) om_ mup (hn_ [1,2,5,6,19,20] Z) ⟨k+1,_,A,⟨by omega,by
    rw [bx,N,<- Rk];exact aa.mono mup⟩,Z,Z,Z⟩
  have ad:k=p:=by
   have:¬ k<p:=by simpa using Y
   omega
  have am:bj s p c (i-1)++bx s p x i k=bj s p c i:=by
   obtain ⟨j,rfl⟩:∃ j,i=j+1:=⟨i-1,by omega⟩;rw [ad,SQ,bj,LW L]
  refine Uv 1 Z fun R d=>UF _ U7<|C4 1 [1,2,5,6] d Z<|UN (L':=[.arr o 123 2 (bj s p c (i+1-1)).length (aT g (bj s p c (i+1-1))).flatten]) (by rw [am];rfl)<|UH (m':=c.length-(i+1)) om_ mup (hn_ [1,2,5,6] Z) ⟨i+1,g,o,⟨by omega,.inl om_,by rw [SQ,<- am];exact X⟩,Z,Z,Z⟩
 have ac:i-1=c.length-2:=by
  have:=QS W;omega
 refine Uu 2 [4] Z ?_;rw [ac] at O ⊢;exact G.freezeArr 0 (aT vs (bj s p c (c.length-2))) Z Z (iX _ _) (dy O.1) fun Cg hg aM=>UC U2<|⟨Z,vs,O.mono mup,aM⟩
end Go.Proofs.YthnpijdjlddpmaaGreatDoor
