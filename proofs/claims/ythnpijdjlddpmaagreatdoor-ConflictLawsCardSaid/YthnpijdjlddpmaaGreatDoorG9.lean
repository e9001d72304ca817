/- Laws that the proofs of this seat share, part 9. -/
import Derived.Test.YthnpijdjlddpmaaGreatDoorG8
import Derived.Test.YthnpijdjlddpmaaGreatDoorShelf
set_option maxHeartbeats 4000000
namespace Go.Proofs.YthnpijdjlddpmaaGreatDoor
open Go.Proofs.Tryz
open Go Go.Jog
set_option maxRecDepth 100000
variable {C:Mem}{a b:Nat}{bv:Value}{i:Nat}{l:List Lay}{n:Nat}{v:Value}{vs:List Value}{x:Lay}{z:Int}
def Gy (x:Lay):Bool:=match x.max with
 | none=>false
 | some m=>decide (m<x.min)
def Lt (pre:List Lay)(x:Lay):Int:=if cX x.unit=false then 8 else if 0<=kf (isU x.unit) pre 0 then 9 else if x.min<0 then 3 else if Gy x then 6 else 0
def DS (l:List Lay):Nat->Int
 | 0=>0
 | n+1=>if DS l n≠0 then DS l n else Lt (l.take n) (l.getD n ⟨[],0,none⟩)
def sM (l:List Lay):Int:=if l=[] then 13 else if 60<l.length then 4 else DS l l.length
theorem xv {l:List Lay}{n:Nat}(h:DS l n≠0):∀ m,n<=m->DS l m=DS l n
 | 0,hm=>by rw [show n=0 by omega]
 | m+1,hm=>by
  rcases QQ m n with h1 | h1
  ·rw [show n=m+1 by omega]
  have a:=xv h m h1;simp only [DS,a];rw [aH h]
theorem Ls (h:l[i]?=some x):l.getD i ⟨[],0,none⟩=x:=by rw [al,h,Rx]
theorem BW (a:DS l i=0)(b:l[i]?=some x):DS l (i+1)=Lt (l.take i) x:=by
 simp only [DS,a];rw [aA dc_,Ls b]
theorem uW (d:DS l i=0)(a:l[i]?=some x)(b:Lt (l.take i) x=z)(f:z≠0)(g:¬ 60<l.length):sM l=z:=by
 have c:=(aF.1 a).1;have h1:=BW d a;unfold sM;rw [aA (fun e=>by rw [e] at c;simp at c),aA g,xv (n:=i+1) (by rw [h1,b];exact f) l.length om_,h1,b]
theorem NJ (C:Mem)(c:Tabs C)(a:Option Rat)(b:Rat)(d:QB 22 b)(e:∀ q,a=some q->QB 22 q)(h:(!((⟨(vy a).toArray⟩:ByteArray).data.toList == (⟨#[]⟩:ByteArray).data.toList))=true) :
  Gives cx.P 107 [ah (vy a),ah (qtx b)] C (.int .i64 (sP (a.getD 0) b)):=by
 rw [pC] at h;cases a with
 | none=>cases h
 | some q=>exact gU C c q b 22 dc_ dc_ (e q rfl) d
theorem Bz (x:Lay):(x.max.isSome && decide (sP (x.max.getD 0) x.min<0))=Gy x:=by
 unfold Gy;cases x.max with
 | none=>rfl
 | some q =>
  show (true && decide (sP q x.min<0))=decide (q<x.min);unfold sP;by_cases h:q<x.min
  ·simp [h]
  rw [aA h,QK h];split <;> rfl
theorem um (q:Rat):decide (eL q.num<0)=decide (q<0):=by
 rw [Q7,<- AV];rcases eo q.num with h | h | h <;> omega
theorem qD (C:Mem)(y:Tabs C)(v:Value)(l:List Lay)(k:Sl C 3 v (l.map yT))(F:∀ x∈l,N7 x)(S:l.length<=1000000):Gives cx.P 68 [v] C (.int .i64 (sM l)):=by
 obtain ⟨A,c0,rfl,H,T,_⟩:=id k;have U:maxLen<=9223372036854775807:=by simp [maxLen]
 simp only [aw] at k H ⊢;refine Uk func68 57 U3 fun w0=>Ua 1 [0] Z<|Ua 4 [0,6] Z<|Ud (fun n=>?_) fun n=>?_
 ·have h0:l=[]:=by
   have h:((l.length:Nat):Int)=0:=by simpa using n
   exact Q1 om_
  exact Ua 1 [2] Z<|Ui U2<|⟨by rw [h0];rfl,Z⟩
 have h0:l≠[]:=by
  intro e;rw [e] at n;exact absurd n dc_
 refine Ua 4 [0,10] Z<|Ud (fun o=>?_) fun o=>?_
 ·have h60:60<l.length:=by
   simp only [Qs] at o;omega
  exact Ua 1 [2] Z<|Ui U2<|⟨by unfold sM;rw [aA h0,aH h60],Z⟩
 have h60:¬ 60<l.length:=by
  simp only [QG] at o;omega
 refine Ua 3 [0,14,15,16] Z<|G.loop (fun fr C' I J=>∃ (i:Nat),(i<=l.length/\DS l i=0)/\fr=[(0,[],.slice A l.length c0),(14,[],.slice A l.length c0),(15,[],.int .i64 l.length),(16,[],.int .i64 i)]/\I=[]/\J=l.length-i) (hn_ [0,14,15,16] Z) ⟨0,⟨Qn _,Z⟩,Z,Z,Z⟩ (fun fr V W m K L=>?_);obtain ⟨i,⟨X,b⟩,rfl,rfl,rfl⟩:=L;refine Ua 1 [0,14,15,16,17] Z<|Ud (fun p=>?_) fun p=>?_
 ·have q:i<l.length:=by simpa using p
  obtain ⟨x,c⟩:∃ x,l[i]?=some x:=⟨l[i],ak q⟩;obtain ⟨r,B,M⟩:=F x (Qi c);have D:=Sl.sub k (l:=0) (h:=i) (m:=c0) (Qn _) ap om_ (Qj _);rw [Ru,<- SE] at D;refine Ub 1 Z fun R a=>Us k.m_ U10 om_ (bV c) fl_ fun Y N=>Uc N U8<|Uv U5 fun b4=>Ue U6<|Um (j:=0) U12<|Ug [0,3,4,14,15,16] a Z<|Uf fun R a=>Uj af U9<|Uo (JN _ y.m_ x ⟨r,B,M⟩) U7<|C4 1 [0,3,4,5,14,15,16] a Z<|Ua 2 [0,3,4,5,14,15,16,24] Z<|Ud (fun E=>?_) fun E=>?_
  ·exact absurd E dc_
  refine Ub 1 Z fun R a=>Uj af U9<|Ur (ii _ x.unit om_) U7 fl_<|C4 2 [0,3,4,14,15,16,26] a Z<|Ud (fun s=>?_) fun s=>?_
  ·have d:cX x.unit=false:=by simpa using s
   exact Ua 1 [2] Z<|Ui U2<|⟨by rw [uW (z:=8) b c (by unfold Lt;rw [aH d]) dc_ h60],Z⟩
  have d:¬ cX x.unit=false:=by
   have h:cX x.unit=true:=by simpa using s
   rw [h];decide
  refine Uy [0,1,2,3,4,5,6,7] [(5,1)] Z kr_ fun R hB a=>Uh 2 Z<|U0 0 i c0 U12 (fun _=>⟨.inl ⟨Z,Z⟩,.inr ⟨_,Z⟩,.inl ⟨Z,Z⟩,by omega,by omega,by omega⟩) U2<|Ue U6<|Uj af U9<|UJ (fun _=>(BX _ _ (l.take i) x.unit D.m_)) U9<|C4 2 [0,4,14,15,16,31] a Z<|Ud (fun t=>?_) fun t=>?_
  ·have f:0<=kf (isU x.unit) (l.take i) 0:=by simpa using t
   exact Ua 1 [2] Z<|Ui U2<|⟨by rw [uW (z:=9) b c (by unfold Lt;rw [aA d,aH f]) dc_ h60],Z⟩
  have f:¬ 0<=kf (isU x.unit) (l.take i) 0:=by simpa using t
  refine Ub 1 Z fun R a=>Uj af U9<|Uo (fW _ x.min (Dc r)) U7<|C4 2 [0,4,14,15,16,39] a Z<|Ud (fun g=>?_) fun g=>?_
  ·have hs:x.min<0:=by
    rw [um] at g;exact aV g
   exact Ua 1 [2] Z<|Ui U2<|⟨by rw [uW (z:=3) b c (by unfold Lt;rw [aA d,aA f,aH hs]) dc_ h60],Z⟩
  have hs:¬ x.min<0:=by
   rw [um] at g;exact Qm g
  refine Ub 1 Z fun R a=>Uj af U9<|Uh 3 Z<|Uj af U9<|Ue U6<|Uj af U9<|Uz (fun O=>(NJ _ y.m_ x.max x.min r B (by exact O.1))) U9<|Ue U6<|UD U8<|C4 1 [0,14,15,16,44] a Z<|Ud (fun u=>?_) fun u=>?_
  ·have w:Gy x=true:=by
    rw [<- Bz,<- pC];exact u
   exact Ua 1 [2] Z<|Ui U2<|⟨by rw [uW (z:=6) b c (by unfold Lt;rw [aA d,aA f,aA hs,aH w]) dc_ h60],Z⟩
  have w:Gy x=false:=by
   rw [<- Bz,<- pC];exact u
  have Q:DS l (i+1)=0:=by rw [BW b c];unfold Lt;rw [aA d,aA f,aA hs,w];rfl
  refine Uf fun R a=>Ul _ U7<|C4 1 [0,14,15,16] a Z<|G.dropAll<|Up (m':=l.length-(i+1)) om_ K (hn_ [0,14,15,16] Z) ⟨i+1,⟨by omega,Q⟩,Z,Z,Z⟩
 have q:i=l.length:=by
  have:¬ i<l.length:=by simpa using p
  omega
 refine Ua 1 [2] Z<|Ui U2<|⟨?_,Z⟩;rw [q] at b;unfold sM;rw [aA h0,aA h60,b]
theorem ze (C:Mem)(f:Tabs C)(v:Value)(l:List Lay)(u:Str)(c:Sl C 3 v (l.map yT))(g:∀ x∈l,N7 x)(a:sM l=0)(i:Nat)(j:kf (isU u) l 0=(i:Nat)):Gives cx.P 197 [v,ah u] C (.tuple #[.int .i64 (i:Nat),.bool true,.int .i64 0]):=by
 have k:l.length<=1000000:=by
  unfold sM at a;split at a
  ·cases a
  split at a
  ·cases a
  omega
 refine Uk func197 20 U3 fun w0=>Ua 3 [0,1] Z<|Ub 1 Z fun R b=>Ur (by have h:=qD _ f.m_ v l c.m_ g k;rw [a] at h;exact h) U7 fl_<|C4 1 [0,1,7] b Z<|Ua 2 [0,1,7,12] Z<|Ud (fun d=>?_) fun d=>?_
 ·exact absurd d dc_
 refine Ub 2 Z fun R b=>Ur (by have h:=BX _ v l u c.m_;rw [j] at h;exact h) U7 fl_<|C4 1 [8] b Z<|Ua 2 [8,18] Z<|Ud (fun e=>?_) fun e=>?_
 ·refine Ua 4 [4,5,6] Z<|Un (G.dropAll (Vg U4 ?_));exact ⟨Z,Z⟩
 exfalso;simp only [QG] at e;omega
structure Obs where
 kind:Int
 name:Str
 x:Str
 y:Str
 depth:Str
 upper:Str
 lower:Str
 nx:Str
 ny:Str
 nz:Str
def Ia (o:Obs):List Value:=[.int .i64 o.kind,ah o.name,ah o.x,ah o.y,ah o.depth,ah o.upper,ah o.lower,ah o.nx,ah o.ny,ah o.nz]
structure ObsR (o:Obs):Prop where
 name:o.name.length<=999998
 x:o.x.length<=999998
 y:o.y.length<=999998
 depth:o.depth.length<=999998
 upper:o.upper.length<=999998
 lower:o.lower.length<=999998
 nx:o.nx.length<=999998
 ny:o.ny.length<=999998
 nz:o.nz.length<=999998
def kL (o:Obs):Bool:=(!cX o.name || !cX o.upper) || ((!(o.kind == 1)) && !cX o.lower)
def lL (o:Obs):Bool:=(!(ba o.x && ba o.y) || ((o.kind == 2) && !ba o.depth)) || ((o.kind == 3) && !(ba o.nx && ba o.ny && ba o.nz))
def kP (o:Obs):Bool:=(((o.kind == 1) && !(o.lower == [])) || ((!(o.kind == 2)) && !(o.depth == []))) || ((!(o.kind == 3)) && !(decide (o.nx=[]/\o.ny=[]/\o.nz=[])))
def dO (o:Obs):Int:=if o.kind<1∨3<o.kind then 12 else if kL o then 8 else if lL o then 2 else if kP o then 7 else 0
theorem nil3 (a b c:Str):(!((a == []) && ((b == []) && ((c == []) && true))))=!decide (a=[]/\b=[]/\c=[]):=by
 cases a <;> cases b <;> cases c <;> rfl
theorem HB (b:Bool):(qF b != 0)=!b:=by cases b <;> rfl
theorem IR (C:Mem)(h:Tabs C)(o:Obs)(b:ObsR o):Gives cx.P 108 [.agg ⟨Ia o⟩] C (.int .i64 (dO o)):=by
 have h1:=b.name;have h2:=b.upper;have h3:=b.lower;refine Uk func108 87 U3 fun w0=>Uf fun R c=>Uw U6 fun m=>C4 1 [1] c Z<|G.freeze 0 Z fun _ _ a=>Ub 1 Z fun R c=>Uc (bkT a 1) U8<|Uh 3 Z<|UE U6 (fun _=>PtrTo.blockT (Mem.get a mup) _ 1) U3<|Ue U6<|UF U8<|Ug [1,10] c Z<|Ud (fun i=>?_) fun i=>?_
 ·have d:o.kind<1∨3<o.kind:=by simpa using i
  exact Ua 1 [2] Z<|Ui U2<|⟨by unfold dO;rw [aH d],Z⟩
 have d:¬ (o.kind<1∨3<o.kind):=by simpa using i
 refine Ub 1 Z fun R c=>Uc (bkT a 1) U8<|Ur (ii _ o.name om_) U7 fl_<|Uh 3 Z<|UE U6 (fun _=>PtrTo.blockT (Mem.get a mup) _ 1) U3<|Uz (fun _=>(ii _ o.upper om_)) U9<|Ue U6<|UF U8<|Uh 2 Z<|UE U6 (fun _=>PtrTo.blockT (Mem.get a mup) _ 1) U3<|Uh 3 Z<|UE U6 (fun _=>PtrTo.blockT (Mem.get a mup) _ 1) U3<|Uz (fun _=>(ii _ o.lower om_)) U9<|Ue U6<|UD U8<|UF U8<|Ug [1,31] c Z<|Ud (fun j=>?_) fun j=>?_
 ·have e:kL o=true:=j;exact Ua 1 [2] Z<|Ui U2<|⟨by unfold dO;rw [aA d,aH e],Z⟩
 have e:¬ kL o=true:=by rw [show kL o=false from j];decide
 refine Ub 1 Z fun R c=>Uc (bkT a 2) U8<|Uo (iw _ h.m_ o.x o.y b.x b.y) U7<|Uh 3 Z<|UE U6 (fun _=>PtrTo.blockT (Mem.get a mup) _ 1) U3<|Uh 3 Z<|UE U6 (fun _=>PtrTo.blockT (Mem.get a mup) _ 1) U3<|UJ (fun _=>(dV _ h.m_ o.depth b.depth)) U9<|Ue U6<|UD U8<|UF U8<|Uh 2 Z<|UE U6 (fun _=>PtrTo.blockT (Mem.get a mup) _ 1) U3<|Uh 3 Z<|UE U6 (fun _=>PtrTo.blockT (Mem.get a mup) _ 3) U3<|UJ (fun _=>(ru _ h.m_ o.nx o.ny o.nz b.nx b.ny b.nz)) U9<|Ue U6<|UD U8<|UF U8<|Ug [1,57] c Z<|Ud (fun f=>?_) fun f=>?_
 ·have g:lL o=true:=by
   simp only [HB] at f;exact f
  exact Ua 1 [2] Z<|Ui U2<|⟨by unfold dO;rw [aA d,aA e,aH g],Z⟩
 have g:¬ lL o=true:=by
  simp only [HB] at f;rw [show lL o=false from f];decide
 refine Ub 1 Z fun R c=>Uc (bkT a 1) U8<|Uh 3 Z<|UE U6 (fun _=>PtrTo.blockT (Mem.get a mup) _ 1) U3<|Ue U6<|UD U8<|Uh 2 Z<|UE U6 (fun _=>PtrTo.blockT (Mem.get a mup) _ 1) U3<|Uh 3 Z<|UE U6 (fun _=>PtrTo.blockT (Mem.get a mup) _ 1) U3<|Ue U6<|UD U8<|UF U8<|Uh 2 Z<|UE U6 (fun _=>PtrTo.blockT (Mem.get a mup) _ 1) U3<|Uh 3 Z<|UE U6 (fun _=>PtrTo.blockT (Mem.get a mup) _ 3) U3<|Uu [ah [],ah [],ah []] U8<|Wy (!decide (o.nx=[]/\o.ny=[]/\o.nz=[])) kr_ Z Z Z Z Z Z Z Z (fun _=>(nil3 o.nx o.ny o.nz)) Z Z<|UD U8<|UF U8<|Ug [86] c Z<|Ud (fun k=>?_) fun k=>?_
 ·have l:kP o=true:=k;exact Ua 1 [2] Z<|Ui U2<|⟨by unfold dO;rw [aA d,aA e,aA g,aH l],Z⟩
 have l:¬ kP o=true:=by rw [show kP o=false from k];decide
 exact Ua 1 [2] Z<|Ui U2<|⟨by unfold dO;rw [aA d,aA e,aA g,aA l],Z⟩
noncomputable def dx (s:Str):Rat:=if h:ba s=true then (La h).choose else 0
theorem dJ {s:Str}(h:ba s=true):s=qtx (dx s)/\QB 23 (dx s):=by
 unfold dx;rw [dif_pos h];exact (La h).choose_spec
theorem dh {q:Rat}(h:ba (qtx q)=true):dx (qtx q)=q:=(lF (dJ h).1).symm
noncomputable def ptO (o:Obs):Pt:=(dx o.x,dx o.y)
noncomputable def Ib (pts:List Pt)(tris:List Tri)(o:Obs):Bool:=decide (lP pts tris (ptO o)≠[])
def LX (col:List Lay)(o:Obs):Bool:=decide (kf (isU o.upper) col 0<0) || ((!(o.kind == 1)) && decide (kf (isU o.lower) col 0<0))
def MS (col:List Lay)(o:Obs):Bool:=(!(o.kind == 1)) && decide (kf (isU o.upper) col 0<=kf (isU o.lower) col 0)
noncomputable def Ki (o:Obs):Bool:=(o.kind == 2) && decide (dx o.depth<0)
def KX (o:Obs):Bool:=(o.kind == 3) && decide (o.nz=[48])
noncomputable def gC (pts:List Pt)(tris:List Tri)(col:List Lay)(o:Obs):Int :=
 if dO o≠0 then dO o else if Ib pts tris o=false then 28 else if LX col o then 10 else if MS col o then 6 else if Ki o then 3 else if KX o then 17 else 0
theorem rI {o:Obs}(h:dO o=0):ba o.x=true/\ba o.y=true/\(o.kind=2->ba o.depth=true):=by
 unfold dO at h;split at h
 ·cases h
 split at h
 ·cases h
 split at h
 ·cases h
 rename_i b;have a:lL o=false:=by simpa using b
 unfold lL at a;rw [RQ,RQ] at a;obtain ⟨⟨h1,h2⟩,_⟩:=a;have h3:(ba o.x && ba o.y)=true:=by simpa using h1
 rw [Qu] at h3;refine ⟨h3.1,h3.2,fun c=>?_⟩;rw [c] at h2;simpa using h2
theorem OK {o:Obs}(h:dO o=0):ptV (ptO o)=.agg ⟨[ah o.x,ah o.y]⟩/\QP 23 (ptO o)/\PtR (ptO o):=by
 obtain ⟨h1,h2,_⟩:=rI h;obtain ⟨a,c⟩:=dJ h1;obtain ⟨b,d⟩:=dJ h2;refine ⟨?_,⟨c,d⟩, ?_, ?_⟩
 ·unfold ptV gp ptO;rw [<- a,<- b]
 ·unfold ptO;rw [<- a];exact h1
 unfold ptO;rw [<- b];exact h2
theorem dS {k:Int}(h:(k == z)=true):k=z:=by simpa using h
theorem IJ (C:Mem)(s:Str)(h:ba s=true)(a:s.length<=999998):Gives cx.P 58 [ah s] C (.int .i64 (eL (dx s).num)):=by
 have e:=(dJ h).1;have h2:=fW C (dx s) (by have:=a;exact QE (bK (dJ h).2 dc_) dc_)
 rwa [<- e] at h2
theorem MR (C:Mem)(u:Tabs C)(v w:Value)(d:List Pt)(f:List Tri)(b:List Lay)(o:Obs)(x:MeshIn C v d f)(A:Good d f)(y:Sl C 3 w (b.map yT))(z:ObsR o) :
  Gives cx.P 69 [v,w,.agg ⟨Ia o⟩] C (.int .i64 (gC d f b o)):=by
 have B:=x;obtain ⟨L,M,rfl,h1,h2⟩:=id x.ex;refine Uk func69 79 U3 fun w0=>Uf fun R a=>Uw U6 fun N=>Uw U6 fun O=>C4 1 [1,3,5] a Z<|G.freeze 1 Z fun _ _ D=>G.freeze 0 Z fun E _ c=>Uf fun R a=>Uc (bkT c 10) U8<|Uo (IR _ u.m_ o z) U7<|C4 1 [1,3,5,7] a Z<|Ua 2 [1,3,5,7,15] Z<|Ud (fun m=>?_) fun m=>?_
 ·have hs:dO o≠0:=by
   intro e;rw [e] at m;exact absurd m dc_
  exact Ua 2 [6] Z<|Ui U2<|⟨by unfold gC;rw [aH hs],Z⟩
 have hs:dO o=0:=by simpa using m
 have i:¬ dO o≠0:=fun h=>h hs;obtain ⟨F,H,I⟩:=OK hs;have J:=(rI hs).2.2;refine Uf fun R a=>Uc (PtrTo.block (Mem.get D mup) _) U8<|Ue U6<|Uc (bkT c 2) U8<|Ur (by have h:=qB E u.m_ _ d f (ptO o) B.m_ A H I;rw [F] at h;exact h) U7 fl_<|C4 5 [1,5,8,9] a Z<|Ub 5 Z fun R a=>UF U8<|Ug [1,5,29] a Z<|Ud (fun p=>?_) fun p=>?_
 ·have g:Ib d f o=false:=by
   have h:(!Ib d f o)=true:=p;simpa using h
  exact Ua 1 [6] Z<|Ui U2<|⟨by unfold gC;rw [aA i,aH g],Z⟩
 have g:¬ Ib d f o=false:=by
  have h:(!Ib d f o)=false:=p;have h2:Ib d f o=true:=by simpa using h
  rw [h2];decide
 refine Uy [0,1,2,3,4,5,6,7,8,9] [(3,1),(7,1)] Z kr_ fun R Q a=>Uh 2 Z<|Uc (bkT c 1) U8<|UJ (fun _=>(jW _ _ b o.upper y.m_)) U9<|Uh 2 Z<|Uc (bkT c 1) U8<|UJ (fun _=>(jW _ _ b o.lower y.m_)) U9<|C4 2 [5,10,11] a Z<|Ub 4 Z fun R a=>UE U6 (fun _=>PtrTo.blockT (Mem.get c mup) _ 1) U3<|Uh 4 Z<|UD U8<|UF U8<|C4 1 [5,10,11,38] a Z<|Ud (fun q=>?_) fun q=>?_
 ·have j:LX b o=true:=q;exact Ua 1 [6] Z<|Ui U2<|⟨by unfold gC;rw [aA i,aA g,aH j],Z⟩
 have j:¬ LX b o=true:=by rw [show LX b o=false from q];decide
 refine Ub 1 Z fun R a=>Uc (bkT c 1) U8<|Uh 5 Z<|UD U8<|C4 1 [5,50] a Z<|Ud (fun r=>?_) fun r=>?_
 ·have k:MS b o=true:=r;exact Ua 1 [6] Z<|Ui U2<|⟨by unfold gC;rw [aA i,aA g,aA j,aH k],Z⟩
 have k:¬ MS b o=true:=by rw [show MS b o=false from r];decide
 refine Ub 1 Z fun R a=>Uc (bkT c 1) U8<|Uh 3 Z<|UE U6 (fun _=>PtrTo.blockT (Mem.get c mup) _ 1) U3<|Uz (fun K=>(IJ _ o.depth (J (by exact dS K.1)) z.depth)) U9<|Ue U6<|UD U8<|C4 1 [5,59] a Z<|Ud (fun l=>?_) fun l=>?_
 ·have n:Ki o=true:=by
   rw [um] at l;exact l
  exact Ua 1 [6] Z<|Ui U2<|⟨by unfold gC;rw [aA i,aA g,aA j,aA k,aH n],Z⟩
 have n:¬ Ki o=true:=by
  rw [um] at l;rw [show Ki o=false from l];decide
 refine Ub 1 Z fun R a=>Uc (bkT c 1) U8<|Uh 4 Z<|UE U6 (fun _=>PtrTo.blockT (Mem.get c mup) _ 1) U3<|Ue U6<|UD U8<|C4 1 [69] a Z<|Ud (fun s=>?_) fun s=>?_
 ·have t:KX o=true:=by
   unfold KX;rw [<- Iy];exact s
  exact Ua 1 [6] Z<|Ui U2<|⟨by unfold gC;rw [aA i,aA g,aA j,aA k,aA n,aH t],Z⟩
 have t:¬ KX o=true:=by
  unfold KX;rw [<- Iy];intro h;rw [show ((o.kind == 3) && ((⟨o.nz.toArray⟩:ByteArray).data.toList == (⟨([48]:Str).toArray⟩:ByteArray).data.toList))=false from s] at h;cases h
 exact Ua 1 [6] Z<|Ui U2<|⟨by unfold gC;rw [aA i,aA g,aA j,aA k,aA n,aA t],Z⟩
structure Bk where
 pts:List Pt
 tris:List Tri
 terr:List Str
 col:List Lay
 obs:List Obs
structure BookIn (C:Mem)(bv:Value)(B:Bk):Prop where
 ex:∃ v1 v2 tv cv ov,bv=.agg ⟨[v1,v2,tv,cv,ov]⟩/\Sl C 2 v1 (B.pts.map gp)/\Sl C 3 v2 (B.tris.map kC)/\Sl C 1 tv (B.terr.map nL)/\Sl C 3 cv (B.col.map yT)/\Sl C 10 ov (B.obs.map Ia)
theorem BookIn.mono {C D:Mem}{b:Value}{B:Bk}(h:BookIn C b B)(a:C.le D):BookIn D b B:=by
 obtain ⟨c,d,e,f,g,h1,h2,h3,h4,h5,i⟩:=h.ex;exact ⟨c,d,e,f,g,h1,h2.mono a,h3.mono a,h4.mono a,h5.mono a,i.mono a⟩
theorem BookIn.m_ {D:Mem}{B:Bk}(h:BookIn C bv B)(a:C.le D:=by exact mup):BookIn D bv B:=BookIn.mono h a
structure BookR (B:Bk):Prop where
 terr:∀ s∈B.terr,s.length<=999998
 col:∀ x∈B.col,N7 x
 lcol:B.col.length<=1000000
 obs:∀ o∈B.obs,ObsR o
noncomputable def obZ (B:Bk)(pre:List Obs)(o:Obs):Int:=if gC B.pts B.tris B.col o≠0 then gC B.pts B.tris B.col o else if o.name∈pre.map Obs.name then 9 else 0
def JA:Obs:=⟨0,[],[],[],[],[],[],[],[],[]⟩
noncomputable def qV (B:Bk):Nat->Int
 | 0=>0
 | n+1=>if qV B n≠0 then qV B n else obZ B (B.obs.take n) (B.obs.getD n JA)
noncomputable def ix (B:Bk):Int:=if BH B.pts.length B.terr≠0 then BH B.pts.length B.terr else if sM B.col≠0 then sM B.col else if 100<B.obs.length then 4 else qV B B.obs.length
theorem wH {B:Bk}{n:Nat}(h:qV B n≠0):∀ m,n<=m->qV B m=qV B n
 | 0,hm=>by rw [show n=0 by omega]
 | m+1,hm=>by
  rcases QQ m n with h1 | h1
  ·rw [show n=m+1 by omega]
  have a:=wH h m h1;simp only [qV,a];rw [aH h]
theorem OX {l:List Obs}{x:Obs}(h:l[i]?=some x):l.getD i JA=x:=by rw [al,h,Rx]
theorem uj {B:Bk}{x:Obs}(a:qV B i=0)(b:B.obs[i]?=some x):qV B (i+1)=obZ B (B.obs.take i) x:=by
 simp only [qV,a];rw [aA dc_,OX b]
theorem F6 {B:Bk}{x:Obs}(c:qV B i=0)(a:B.obs[i]?=some x)(b:obZ B (B.obs.take i) x=z)(d:z≠0):qV B B.obs.length=z:=by
 have e:=(aF.1 a).1;have h1:=uj c a;rw [wH (n:=i+1) (by rw [h1,b];exact d) B.obs.length om_,h1,b]
def Gi (l:List Obs):List (Str × Value):=l.map fun o=>(o.name,.bool true)
theorem Gh (l:List Obs)(s:Str):kM (.bool false) false (dp (Gi l) s)=.bool (decide (s∈l.map Obs.name)):=by
 have a:(Gi l).map (·.1)=l.map Obs.name:=by unfold Gi;rw [Q6];rfl
 cases h:dp (Gi l) s with
 | none =>
  have h1:=cH.1 h;rw [a] at h1;rw [QK h1];rfl
 | some v =>
  have h1:=fZ h;have h2:=SF (f:=(·.1)) h1;rw [a] at h2;obtain ⟨o,_,b⟩:=Qt.1 h1;cases b
  rw [QD h2];rfl
theorem JE {l:List Obs}{o:Obs}(h:o.name ∉ l.map Obs.name):fT (Gi l) o.name (.bool true)=Gi (l++[o]):=by
 have a:(Gi l).map (·.1)=l.map Obs.name:=by unfold Gi;rw [Q6];rfl
 rw [jK (by rw [cH,a];exact h)];simp [Gi]
theorem kT (C:Mem)(n:Tabs C)(F:Value)(B:Bk)(L:BookIn C F B)(t:Good B.pts B.tris)(o:BookR B) :
  Gives cx.P 36 [F] C (.int .i64 (ix B)):=by
 obtain ⟨H,I,Y,cv,ov,rfl,h1,h2,h3,h4,h5⟩:=id L.ex;obtain ⟨M,N,rfl,O,aa,_⟩:=id h5;have ab:maxLen<=9223372036854775807:=by simp [maxLen]
 simp only [aw] at h5 O ⊢;have hm:MeshIn C (.agg ⟨[H,I]⟩) B.pts B.tris:=⟨H,I,rfl,h1,h2⟩;refine Uk func36 59 U3 fun w0=>Uf fun R a=>Uw U6 fun Q=>C4 1 [1] a Z<|G.freeze 0 Z fun _ _ b=>Ub 1 Z fun R a=>Uc (bkT b 2) U8<|Uo (jO _ n.m_ _ B.pts B.tris hm.m_ t) U7<|C4 1 [1,3] a Z<|Ua 2 [1,3,14] Z<|Ud (fun J=>?_) fun J=>?_
 ·exact absurd J dc_
 refine Ub 1 Z fun R a=>Uc (bkT b 2) U8<|Ue U6<|Uc (bkT b 1) U8<|Uo (uG _ n.m_ _ _ B.pts B.tris B.terr hm.m_ t h3.m_ o.terr) U7<|C4 1 [1,4] a Z<|Ua 2 [1,4,22] Z<|Ud (fun p=>?_) fun p=>?_
 ·have c:BH B.pts.length B.terr≠0:=by
   intro e;rw [e] at p;exact absurd p dc_
  exact Ua 2 [2] Z<|Ui U2<|⟨by unfold ix;rw [aH c],Z⟩
 have c:¬ BH B.pts.length B.terr≠0:=by
  have h:BH B.pts.length B.terr=0:=by simpa using p
  exact fun h2=>h2 h
 refine Ub 1 Z fun R a=>Uc (bkT b 1) U8<|Uo (qD _ n.m_ _ B.col h4.m_ o.col o.lcol) U7<|C4 1 [1,5] a Z<|Ua 2 [1,5,28] Z<|Ud (fun q=>?_) fun q=>?_
 ·have d:sM B.col≠0:=by
   intro e;rw [e] at q;exact absurd q dc_
  exact Ua 2 [2] Z<|Ui U2<|⟨by unfold ix;rw [aA c,aH d],Z⟩
 have d:¬ sM B.col≠0:=by
  have h:sM B.col=0:=by simpa using q
  exact fun h2=>h2 h
 refine Ub 1 Z fun R a=>Uc (bkT b 1) U8<|C4 2 [1,33] a Z<|Ud (fun u=>?_) fun u=>?_
 ·have g:100<B.obs.length:=by
   simp only [Qs] at u;omega
  exact Ua 1 [2] Z<|Ui U2<|⟨by unfold ix;rw [aA c,aA d,aH g],Z⟩
 have g:¬ 100<B.obs.length:=by
  simp only [QG] at u;omega
 refine Uf fun R a=>D.makeMap keyS Z Z Z Z fl_ fun v=>C4 1 [1,6] a Z<|Ub 1 Z fun R a=>Uc (bkT b 1) U8<|C4 2 [1,6,36,37,38] a Z<|G.loop (fun fr C' K S=>∃ (i:Nat),(i<=B.obs.length/\qV B i=0)/\fr=[(1,[],.pointer (some ⟨Q,0,none⟩)),(6,[],.map (some v)),(36,[],.slice M B.obs.length N),(37,[],.int .i64 B.obs.length),(38,[],.int .i64 i)]/\K=[.obj v (aQ keyS.enc (Gi (B.obs.take i)))]/\S=B.obs.length-i) (hn_ [1,6,36,37,38] Z) ⟨0,⟨Qn _,Z⟩,Z,Z,Z⟩ (fun fr ac ad m _ T=>?_);obtain ⟨i,⟨hi,k⟩,rfl,rfl,rfl⟩:=T;refine Ua 1 [1,6,36,37,38,39] Z<|Ud (fun w=>?_) fun w=>?_
 ·have y:i<B.obs.length:=by simpa using w
  obtain ⟨x,f⟩:∃ x,B.obs[i]?=some x:=⟨B.obs[i],ak y⟩;have U:=o.obs x (Qi f);have V:B.obs.take (i+1)=B.obs.take i++[x]:=by rw [QJ,f];rfl
  refine Uf fun R a=>Us h5.m_ U10 om_ (bV f) fl_ fun ag W=>Uc W U8<|Uv U5 fun b8=>Um (j:=0) U12<|Ug [1,6,8,36,37,38] a Z<|Ub 1 Z fun R a=>Uc (bkT b 2) U8<|Ue U6<|Uc (bkT b 1) U8<|Uj af U9<|Uo (MR _ n.m_ _ _ B.pts B.tris B.col x hm.m_ t h4.m_ U) U7<|C4 1 [1,6,8,9,36,37,38] a Z<|Ua 2 [1,6,8,9,36,37,38,49] Z<|Ud (fun r=>?_) fun r=>?_
  ·have l:gC B.pts B.tris B.col x≠0:=by
    intro e;rw [e] at r;exact absurd r dc_
   have A:=F6 k f (z:=gC B.pts B.tris B.col x) (by unfold obZ;rw [aH l]) l;exact Ua 2 [2] Z<|Ui U2<|⟨by unfold ix;rw [aA c,aA d,aA g,A],Z⟩
  have l:¬ gC B.pts B.tris B.col x≠0:=by
   have h:gC B.pts B.tris B.col x=0:=by simpa using r
   exact fun h2=>h2 h
  refine Ub 2 Z fun R a=>Uj af U9<|Vy keyS ae Z Z Z Z Z Z Z Z kr_ Z (Gh (B.obs.take i) x.name) Z Z<|Ug [1,6,8,36,37,38,54] a Z<|Ud (fun E=>?_) fun E=>?_
  ·have s:x.name∈(B.obs.take i).map Obs.name:=aV E;have A:=F6 k f (z:=9) (by unfold obZ;rw [aA l,aH s]) dc_;exact Ua 1 [2] Z<|Ui U2<|⟨by unfold ix;rw [aA c,aA d,aA g,A],Z⟩
  have s:x.name ∉ (B.obs.take i).map Obs.name:=Qm E;have X:qV B (i+1)=0:=by rw [uj k f];unfold obZ;rw [aA l,aA s]
  refine Ub 2 Z fun R a=>Uj af U9<|D.mapUpdate keyS (j:=1) Z Z Z Z Z Z Z Z Z Z kr_<|Ug [1,6,36,37,38] a Z<|Uf fun R a=>Ul _ U7<|C4 1 [1,6,36,37,38] a Z<|UV 1 Z<|Ut (L':=[.obj v (aQ keyS.enc (Gi (B.obs.take (i+1))))]) (by rw [V,<- JE s];rfl)<|Up (m':=B.obs.length-(i+1)) om_ mup (hn_ [1,6,36,37,38] Z) ⟨i+1,⟨by omega,X⟩,Z,Z,Z⟩
 have y:i=B.obs.length:=by
  have:¬ i<B.obs.length:=by simpa using w
  omega
 refine Ua 1 [2] Z<|Ui U2<|⟨?_,Z⟩;rw [y] at k;unfold ix;rw [aA c,aA d,aA g,k]
theorem ml (C:Mem)(g:Tabs C)(b:Value)(B:Bk)(c:BookIn C b B)(j:Good B.pts B.tris)(k:BookR B)(l:ix B=0)(i:Nat)(n:i<B.obs.length) :
  Gives cx.P 240 [b,.int .i64 i] C (.int .i64 0):=by
 have d:=c;obtain ⟨o,p,q,r,s,rfl,h1,h2,h3,h4,h5⟩:=id c.ex;obtain ⟨t,u,rfl,m,v,_⟩:=id h5;have w:maxLen<=9223372036854775807:=by simp [maxLen]
 simp only [aw] at h5 m d ⊢;refine Uk func240 20 U3 fun w0=>Uf fun R a=>Uw U6 fun x=>C4 1 [1,2] a Z<|Uf fun R a=>Uj af U9<|Ur (by have h:=kT _ g.m_ _ B d.m_ j k;rw [l] at h;exact h) U7 fl_<|C4 1 [1,2,5] a Z<|Ua 2 [1,2,5,9] Z<|Ud (fun e=>?_) fun e=>?_
 ·exact absurd e dc_
 refine Ub 5 Z fun R a=>Uj af U9<|Uh 2 Z<|UF U8<|Ug [19] a Z<|Ud (fun f=>?_) fun f=>?_
 ·exfalso;simp only [RY,Qs] at f;omega
 exact Ua 1 [4] Z<|Ui U2<|⟨Z,Z⟩
noncomputable def kA (o:Obs)(z:Rat):Rat:=if o.kind=2 then z-dx o.depth else z
structure ObsAt (o:Obs)(p:Pt):Prop where
 x:o.x=qtx p.1
 y:o.y=qtx p.2
 q:QP 23 p
 r:PtR p
 d:o.kind=2->ba o.depth=true
theorem wI {o:Obs}{p:Pt}(h:ObsAt o p):(.agg ⟨[ah o.x,ah o.y]⟩:Value)=ptV p:=by unfold ptV gp;rw [h.x,h.y]
structure Terr (B:Bk)(fs:List Rat):Prop where
 e:B.terr=fs.map qtx
 l:fs.length=B.pts.length
 q:∀ q∈fs,QB 22 q
theorem Oj {B:Bk}{a:List Rat}(h:Terr B a):∀ q∈a,ba (qtx q)=true:=fun q b=>bP (h.q q b)
theorem GS (C:Mem)(k:Tabs C)(m:Value)(B:Bk)(i:List Rat)(o:Obs)(p:Pt)(z:Rat)(v:BookIn C m B)(w:Good B.pts B.tris)(b:Terr B i)(c:ObsAt o p)(x:EE B.pts B.tris i p=.tuple #[ah (qtx z),.int .i64 0])(y:QB 22 z) :
  Gives cx.P 241 [m,.agg ⟨Ia o⟩] C (.tuple #[ah (qtx (kA o z)),.int .i64 0]):=by
 obtain ⟨n,s,E,F,H,rfl,h1,h2,h3,h4,h5⟩:=id v.ex;have hm:MeshIn C (.agg ⟨[n,s]⟩) B.pts B.tris:=⟨n,s,rfl,h1,h2⟩;rw [b.e,<- yS] at h3;refine Uk func241 31 U3 fun w0=>Uf fun R a=>Uw U6 fun I=>Uw U6 fun J=>C4 2 [2,3] a Z<|G.freeze 1 Z fun _ _ t=>G.freeze 0 Z fun u _ j=>Ub 1 Z fun R a=>Uc (bkT t 2) U8<|Ue U6<|Uc (bkT t 1) U8<|Ue U6<|Uc (bkT j 2) U8<|Ur (by have h:=Ij u k.m_ _ _ B.pts B.tris i 22 dc_ dc_ hm.m_ w h3.m_ b.l b.q (Oj b) p c.q c.r;rw [x,<- wI c] at h;exact h) U7 fl_<|C4 5 [3,6,7] a Z<|Ub 4 Z fun R a=>UE U6 (fun _=>PtrTo.blockT (Mem.get j mup) _ 1) U3<|Ue U6<|UD U8<|Ug [3,6,7,24] a Z<|Ud (fun f=>?_) fun f=>?_
 ·have g:o.kind=2:=dS (SU.1 f).2;obtain ⟨A,D⟩:=dJ (c.d g);refine Ub 2 Z fun R a=>Uc (bkT j 1) U8<|Ur (by have h:=ec u k.m_ z (dx o.depth) 23 dc_ dc_ (y.le dc_) D;rw [<- A] at h;exact h) U7 fl_<|C4 1 [6,7] a Z<|Ua 4 [4,5] Z<|Un (G.dropAll (UC U3 ?_));exact ⟨by unfold kA;rw [aH g],Z⟩
 have g:¬ o.kind=2:=by
  intro e;rw [show ((((0:Int) == 0) && (o.kind == 2))=true) by rw [e];rfl] at f;cases f
 refine Ua 4 [4,5] Z<|Un (G.dropAll (UC U3 ?_));exact ⟨by unfold kA;rw [aA g],Z⟩
theorem Dz (C:Mem)(c:Tabs C)(h:Value)(B:Bk)(d:List Rat)(i:Nat)(o:Obs)(p:Pt)(z:Rat)(b:BookIn C h B)(j:Good B.pts B.tris)(q:BookR B)(r:ix B=0)(s:Terr B d)(k:B.obs[i]?=some o)(t:ObsAt o p)(u:EE B.pts B.tris d p=.tuple #[ah (qtx z),.int .i64 0])(v:QB 22 z)(l:QB 22 (kA o z)) :
  Gives cx.P 193 [h,.int .i64 i] C (.tuple #[ah (qtx (kA o z)),.int .i64 0]):=by
 have e:=b;have w:=(aF.1 k).1;obtain ⟨A,D,E,F,H,rfl,h1,h2,h3,h4,h5⟩:=id b.ex;obtain ⟨I,J,rfl,x,K,_⟩:=id h5;have L:maxLen<=9223372036854775807:=by simp [maxLen]
 simp only [aw] at h5 x e ⊢;refine Uk func193 36 U3 fun w0=>?_;refine Uf fun R a=>?_;refine Uw U6 (fun M=>?_);refine C4 2 [1,2] a Z ?_;clear a R;refine G.freeze 0 Z (fun _ _ f=>?_);refine Uf fun R a=>?_;refine Uc (bkT f 5) U8 ?_;refine Ue U6 ?_;refine Uo (ml _ c.m_ _ B e.m_ j q r i w) U7 ?_;refine C4 1 [1,2,6] a Z ?_;clear a R;refine Ua 2 [1,2,6,13] Z ?_;refine Ud (fun m=>?_) fun m=>?_
 ·exact absurd m dc_
 refine Uy [0,1,2,3,4,5,6,7,8,9,10,11] [(6,1)] Z kr_ (fun R b a=>?_);refine Uc (bkT f 5) U8 ?_;refine Ue U6 ?_;refine Uc (bkT f 1) U8 ?_;refine Ue U6 ?_;refine Us h5.m_ U10 om_ (bV k) fl_ (fun N y=>?_);refine Uc y U8 ?_;refine UJ (fun _=>(GS _ c.m_ _ B d o p z e.m_ j s t u v)) U9 ?_;refine Uh 5 Z ?_;refine Ug [7,8] a Z ?_;clear a b R;refine Ub 4 Z fun R a=>?_;refine UJ (fun _=>(dV _ c.m_ _ (tU l))) U9 ?_;refine Ue U6 ?_;refine UD U8 ?_;refine Ug [7,8,31] a Z ?_;clear a R;refine Ud (fun g=>?_) fun g=>?_
 ·exfalso;rw [xy l] at g;exact absurd g dc_
 refine Ua 2 [7,8,33] Z ?_;refine Ud (fun n=>?_) fun n=>?_
 ·exact absurd n dc_
 refine Ua 3 [4,5] Z ?_;refine Un (G.dropAll (UC U3 ?_));exact ⟨Z,Z⟩
def vQ (lo hi:Int)(n:Nat):List Nat:=(List.range n).filter fun k:Nat=>decide (lo<=(k:Int)/\(k:Int)<hi)
def ET (col:List Lay)(o:Obs):Int:=if o.kind=1 then kf (isU o.upper) col 0-1 else kf (isU o.lower) col 0
def EU (col:List Lay)(o:Obs):Int:=if o.kind=1 then kf (isU o.upper) col 0+1 else kf (isU o.upper) col 0
def cJ (col:List Lay)(o:Obs):List Nat:=vQ (ET col o) (EU col o) (col.length-1)
theorem Iv {a b:Int}(j:max a 0<=(i:Int))(l:(i:Int)<=max (max a 0) (min b n))(o:min b (n:Int)<=(i:Int)):(List.range i).filter (fun k:Nat=>decide (a<=(k:Int)))=vQ a b n:=by
 unfold vQ;have hs:∀ m:Nat,(List.range (i+m)).filter (fun k:Nat=>decide (a<=(k:Int)/\(k:Int)<b/\k<n))=(List.range i).filter (fun k:Nat=>decide (a<=(k:Int)/\(k:Int)<b/\k<n)):=by
  intro m;induction m with
  | zero=>rfl
  | succ m c =>
   rw [show i+(m+1)=i+m+1 by omega,Rs,RW,c,List.filter_cons];rw [aA (by simp only [Qs];omega)];simp
 have f:(List.range i).filter (fun k:Nat=>decide (a<=(k:Int)))=(List.range i).filter (fun k:Nat=>decide (a<=(k:Int)/\(k:Int)<b/\k<n)):=by
  refine List.filter_congr (fun k d=>?_);rw [QA] at d;rw [Q7];omega
 have g:(List.range n).filter (fun k:Nat=>decide (a<=(k:Int)/\(k:Int)<b))=(List.range n).filter (fun k:Nat=>decide (a<=(k:Int)/\(k:Int)<b/\k<n)):=by
  refine List.filter_congr (fun k d=>?_);rw [QA] at d;rw [Q7];omega
 rw [f,g];rcases Nat.le_total i n with e | e
 ·obtain ⟨m,rfl⟩:=Nat.exists_eq_add_of_le e;exact (hs m).symm
 have h:∀ m:Nat,(List.range (n+m)).filter (fun k:Nat=>decide (a<=(k:Int)/\(k:Int)<b/\k<n))=(List.range n).filter (fun k:Nat=>decide (a<=(k:Int)/\(k:Int)<b/\k<n)):=by
  intro m;induction m with
  | zero=>rfl
  | succ m c =>
   rw [show n+(m+1)=n+m+1 by omega,Rs,RW,c,List.filter_cons];rw [aA (by simp only [Qs];omega)];simp
 obtain ⟨m,rfl⟩:=Nat.exists_eq_add_of_le e;exact h m
theorem si {a:Type}(p:a->Bool)(l:List a):-1<=kf p l 0/\kf p l 0<=(l.length:Int):=by
 rcases mW p l with ⟨h,_⟩ | ⟨i,x,h,h2,_⟩
 ·omega
 have:=(aF.1 h2).1;omega
theorem ye (C:Mem)(_ab:Tabs C)(F:Value)(B:Bk)(o:Obs)(q:BookIn C F B)(ac:B.col.length<=1000)(M:B.col≠[]) :
  Pur cx.P 242 [F,.agg ⟨Ia o⟩] C fun u D=>Sl D 1 u ((cJ B.col o).map aO):=by
 obtain ⟨v1,v2,tv,cv,ov,rfl,h1,h2,h3,h4,h5⟩:=id q.ex;obtain ⟨A4,c4,rfl,N,ad,_⟩:=id h4;have ae:maxLen<=9223372036854775807:=by simp [maxLen]
 have af:=Q3.2 M;have O:=si (isU o.lower) B.col;have Q:=si (isU o.upper) B.col;obtain ⟨lw,H⟩:∃ z,kf (isU o.lower) B.col 0=z:=⟨_,rfl⟩;obtain ⟨up,I⟩:∃ z,kf (isU o.upper) B.col 0=z:=⟨_,rfl⟩;obtain ⟨lo,b⟩:∃ z,ET B.col o=z:=⟨_,rfl⟩;obtain ⟨c,d⟩:∃ z,EU B.col o=z:=⟨_,rfl⟩;obtain ⟨n,S⟩:∃ n,B.col.length-1=n:=⟨_,rfl⟩;unfold cJ;rw [b,d,S];unfold ET at b;unfold EU at d;rw [H] at O b;rw [I] at Q b d;simp only [aw] at h4 N ⊢;have ag:-2<=lo/\lo<=1000:=by rw [<- b];split <;> omega
 have ah:-2<=c/\c<=1001:=by rw [<- d];split <;> omega
 refine Uk func242 43 U3 fun w0=>?_;refine Uf fun R a=>?_;refine Uw U6 (fun J=>?_);refine Uw U6 (fun b3=>?_);refine C4 1 [2,3] a Z ?_;clear a R;refine G.freeze 1 Z (fun _ _ s=>?_);refine G.freeze 0 Z (fun K _ t=>?_);refine Uy [0,1,2,3,4,5,6,7,8,9,10,11] [(4,1),(9,1)] Z kr_ (fun R q a=>?_);refine Ue U6 ?_;refine Uc (bkT s 1) U8 ?_;refine Ue U6 ?_;refine Uc (bkT t 1) U8 ?_;refine Uz (fun _=>(by have h:=jW K _ B.col o.lower h4.m_;rw [H] at h;exact h)) U9 ?_;refine Ue U6 ?_;refine Uc (bkT s 1) U8 ?_;refine Ue U6 ?_;refine Uc (bkT t 1) U8 ?_;refine Uz (fun _=>(by have h:=jW K _ B.col o.upper h4.m_;rw [I] at h;exact h)) U9 ?_;refine Uh 2 Z ?_;refine Ug [2,3,5,6] a Z ?_;clear a q R;refine Ub 1 Z fun R a=>?_;refine Uc (bkT t 1) U8 ?_;refine C4 1 [2,5,6,21] a Z ?_;clear a R;refine G.cut (fun fr C' g v=>(True)/\fr=[(2,[],.pointer (some ⟨J,0,none⟩)),(5,[],.int .i64 lo),(6,[],.int .i64 c)]/\g=[]) ?_ (fun fr _ ai v _ x=>?_)
 ·refine Ud (fun l=>?_) fun l=>?_
  ·have f:o.kind=1:=dS l;rw [aH f] at b d;subst b d;refine Ub 1 Z fun R a=>?_;refine Ul _ U7 ?_;refine Ue U6 ?_;refine Ul _ U7 ?_;refine C4 2 [2,5,6] a Z ?_;clear a R;refine Uq 0 (Mem.le.refl _) (hn_ [2,5,6] Z) ⟨trivial,Z,Z⟩
  have f:¬ o.kind=1:=by
   intro e;rw [show ((o.kind == 1)=true) by rw [e];rfl] at l;cases l
  rw [aA f] at b d;subst b d;refine Uq 0 (Mem.le.refl _) (hn_ [2,5,6] Z) ⟨trivial,Z,Z⟩
 obtain ⟨_,rfl,rfl⟩:=x;refine Ua 1 [2,5,6,7] Z ?_;obtain ⟨p,T⟩:∃ p:Nat,max lo 0=(p:Int):=⟨(max lo 0).toNat,by omega⟩;refine Ub 1 Z fun R a=>?_;refine D.max (((p:Nat):Int)) U6 T U2 ?_;refine C4 1 [2,6,7,8] a Z ?_;clear a R;refine G.nilArr 3 1 ?_;refine G.loop (fun fr C' g v=>∃ (i:Nat)(out:List Nat)(w:Value),(max lo 0<=(i:Int)/\(i:Int)<=max (max lo 0) (min c n)/\out=(List.range i).filter (fun k:Nat=>decide (lo<=(k:Int))))/\fr=[(2,[],.pointer (some ⟨J,0,none⟩)),(6,[],.int .i64 c),(7,[],w),(8,[],.int .i64 i)]/\g=[.arr w 3 1 out.length (out.map aO).flatten]/\v=2000-i) (hn_ [2,6,7,8] Z) ⟨p,[],_,⟨by omega,by omega,by
  symm;rw [List.filter_eq_nil_iff];intro k f;rw [QA] at f;simp only [Qs];omega⟩,rfl,rfl,rfl⟩ (fun fr aj ak m _ x=>?_)
 obtain ⟨i,out,w,⟨U,V,A⟩,rfl,rfl,rfl⟩:=x;refine Ub 3 Z fun R a=>?_;refine Uc (bkT s 1) U8 ?_;refine Ue U6 ?_;refine Ul _ U7 ?_;refine D.min ((min c (n:Int))) Z Z Z Z Z Z om_ Z Z ?_;refine C4 1 [2,6,7,8,35] a Z ?_;clear a R;refine Ud (fun E=>?_) fun E=>?_
 ·have al:(i:Int)<min c (n:Int):=aV E;have an:out.length<=i:=by
   rw [A];exact QE (RE _ _) am
  have W:(List.range (i+1)).filter (fun k:Nat=>decide (lo<=(k:Int)))=out++[i]:=by
   rw [Rs,RW,<- A,List.filter_cons,aH (by simp only [Qs];omega)];rfl
  refine Ub 2 Z fun R a=>?_;refine Ux [aO i] U12 (fun ao _ _ X=>?_);refine D.append (j:=0) U11 X Z ax (by simp only [PH];omega) fl_ (fun L=>?_);refine C4 1 [2,6,7,8] a Z ?_;clear a R;refine Ub 1 Z fun R a=>?_;refine Ul _ U7 ?_;refine C4 1 [2,6,7,8] a Z ?_;clear a R;refine Ut (L':=[.arr L 3 1 (out++[i]).length ((out++[i]).map aO).flatten]) (by simp [aO]) ?_;refine Up (m':=2000-(i+1)) om_ mup (hn_ [2,6,7,8] Z) ⟨i+1,out++[i],L,⟨by omega,by omega,W.symm⟩,Z,Z,Z⟩
 have Y:min c (n:Int)<=(i:Int):=by
  have:=Qm E;omega
 refine Ua 2 [4] Z ?_;refine G.freezeArr 0 (out.map aO) rfl rfl (by intro r hr;obtain ⟨y,_,rfl⟩:=Qt.1 hr;rfl) am (fun Cg hg aa=>?_);refine Ui U2 ?_;exact ⟨Z,by rw [<- Iv U V Y,<- A];exact aa⟩
theorem vP (C:Mem)(j:Tabs C)(k:Value)(B:Bk)(i:Nat)(o:Obs)(d:BookIn C k B)(p:Good B.pts B.tris)(q:BookR B)(a:ix B=0)(l:B.obs[i]?=some o) :
  Pur cx.P 194 [k,.int .i64 i] C fun u D=>∃ v,u=.tuple #[v,.int .i64 0]/\Sl D 1 v ((cJ B.col o).map aO):=by
 have f:=d;have r:=(aF.1 l).1;have b:sM B.col=0:=by
  unfold ix at a;split at a
  ·rename_i h;exact absurd a h
  split at a
  ·rename_i h;exact absurd a h
  rename_i h;exact QM h
 have m:B.col≠[]:=by
  intro e;rw [e] at b;exact absurd b dc_
 have s:B.col.length<=1000:=by
  unfold sM at b;rw [aA m] at b;split at b
  ·exact absurd b dc_
  omega
 obtain ⟨y,z,A,E,F,rfl,h1,h2,h3,h4,h5⟩:=id d.ex;obtain ⟨H,I,rfl,t,J,_⟩:=id h5;have K:maxLen<=9223372036854775807:=by simp [maxLen]
 simp only [aw] at h5 t f ⊢;refine Uk func194 20 U3 fun w0=>Uf fun R c=>Uw U6 fun L=>C4 2 [1,2] c Z<|G.freeze 0 Z fun _ _ g=>Uf fun R c=>Uc (bkT g 5) U8<|Ue U6<|Uo (ml _ j.m_ _ B f.m_ p q a i r) U7<|C4 1 [1,2,6] c Z<|Ua 2 [1,2,6,11] Z<|Ud (fun n=>?_) fun n=>?_
 ·exact absurd n dc_
 refine Uy [0,1,2,3,4,5,6,7,8] [] Z kr_ fun R d c=>Uc (bkT g 5) U8<|Ue U6<|Uc (bkT g 1) U8<|Ue U6<|Us h5.m_ U10 om_ (bV l) fl_ fun M w=>Uc w U8<|UM (ye _ j.m_ _ B o f.m_ s m) U7 fun N _ _ x=>Uh 2 Z<|Ug [4,5] c Z ?_;clear c d R;refine Un (G.dropAll (UC U3 ?_));exact ⟨Z,_,Z,x⟩
theorem Gb (x y:Nat)(a:x<18446744073709551616)(b:y<18446744073709551616)(C:Mem):Gives cx.P 125 [.int .u64 x,.int .u64 y] C (.tuple #[.int .u64 ((x*y / 18446744073709551616:Nat):Int),.int .u64 ((x*y % 18446744073709551616:Nat):Int)]) :=
 Gives.ofCalls kr_ (fun w=>Any.bits_Mul Tryz.mul x y a b w) C
theorem fI {a:Value}{k m:Nat}{b:List Value}(_d:k+m<=n)(c:m<=k)(_e:b.length=n-k) :
  aD (List.replicate k a++b) ((List.replicate k a++b).take m) k=List.replicate (k+m) a++b.drop m:=by
 have h1:(List.replicate k a++b).take m=List.replicate m a:=by
  rw [List.take_append_of_le_length (by simpa using c),List.take_replicate,Ry c]
 have h2:(List.replicate k a++b).take k=List.replicate k a:=by
  rw [List.take_append_of_le_length am,List.take_replicate,Nat.min_self]
 have h3:(List.replicate k a++b).drop (k+m)=b.drop m:=by
  rw [Tc,RK,RH am,R7];congr 1;omega
 unfold aD;rw [h1,h2,RK,h3,List.replicate_append_replicate]
theorem zI (a:Value)(n:Nat):kl [a] n=List.replicate n a:=by
 rw [eh];induction n with
 | zero=>rfl
 | succ n b=>rw [RG,RM,b,RG];rfl
theorem lM (n:Nat)(a:n<18446744073709551616)(C:Mem):Gives cx.P 125 [.int .u64 (1:Int),.int .u64 n] C (.tuple #[.int .u64 0,.int .u64 n]):=by
 have h:=Gb 1 n om_ a C;have b:1*n / 18446744073709551616=0:=by omega
 have c:1*n % 18446744073709551616=n:=by omega
 rw [b,c] at h;exact h
theorem rN (C:Mem)(v:Value)(n:Nat)(s:Str)(g:Sl C 1 v [[ah s]])(y:n<=1000000):Jog.Fn cx.P 83 [v,.int .i64 n] C [] fun u _z e=>∃ b,u=.slice (some ⟨b,0,none⟩) n n/\e=[.arr u 56 1 n (List.replicate n (ah s))]:=by
 have p:=g;obtain ⟨A,c,rfl,_⟩:=p;refine Uk func83 48 U3 fun w0=>Ua 1 [0,1] Z<|Ua 2 [0,1,10] Z<|Ud (fun h=>?_) fun h=>?_
 ·simp at h;omega
 refine Ub 2 Z fun R d=>UQ (c:=1) U8 Z fl_<|Ue U6<|UQ (c:=(n:Int)) U8 (by rw [IntKind.wrap_u64];omega) fl_<|Ur (lM n om_ _) U7 fl_<|C4 5 [0,5,6] d Z<|Ub 5 Z fun R d=>UF U8<|Ug [0,6,26] d Z<|Ud (fun i=>?_) fun i=>?_
 ·simp at i;omega
 refine Ub 1 Z fun R d=>UQ (c:=(n:Int)) U8 (by rw [IntKind.wrap_i64];omega) fl_<|Vd U9 (Qj _) (by show 16*n<=281474976710656;omega) (by simp only [maxLen];omega) fl_ fun a=>C4 1 [0,7] d Z<|Ub 2 Z fun R d=>VP (j:=0) (q:=min 1 n) U12 g U2 (by rw [cV];show 0+min 1 n*1<=n*1;omega) fl_<|C4 1 [7,8] d Z ?_;have r:aD (kl [ah []] n) (([[ah s]]:List (List Value)).take (min 1 n)).flatten 0=List.replicate (min 1 n) (ah s)++List.replicate (n-min 1 n) (ah []):=by
  rw [zI];cases n with
  | zero=>rfl
  | succ n=>rw [show min 1 (n+1)=1 by omega,RG];rfl
 refine Ut (L':=[.arr (.slice (some ⟨a,0,none⟩) n n) 56 1 n (List.replicate (min 1 n) (ah s)++List.replicate (n-min 1 n) (ah []))]) (by rw [<- r];rfl)<|G.loop (fun fr C' e t=>∃ (k:Nat),(k<=n/\min 1 n<=k)/\fr=[(7,[],.slice (some ⟨a,0,none⟩) n n),(8,[],.int .i64 k)]/\e=[.arr (.slice (some ⟨a,0,none⟩) n n) 56 1 n (List.replicate k (ah s)++List.replicate (n-k) (ah []))]/\t=n-k) (hn_ [7,8] Z) ⟨min 1 n,⟨Nat.min_le_right _ _,Qj _⟩,Z,Z,Z⟩ (fun fr B D m w x=>?_);obtain ⟨k,⟨l,E⟩,rfl,rfl,rfl⟩:=x;refine Ua 4 [7,8,37] Z<|Ud (fun f=>?_) fun f=>?_
 ·simp only [Qs] at f;have o:k<n:=by omega
  have F:1<=k:=by omega
  refine Uy [0,1,2,3,4,5,6,7,8,9] [] Z kr_ fun R H d=>Uh 3 Z<|U0 k n n U12 (fun _=>⟨.inr ⟨_,Z⟩,.inl ⟨Z,Z⟩,.inl ⟨Z,Z⟩,l,Qj _,Qj _⟩) U2<|Uh 2 Z<|U0 0 k n U12 (fun _=>⟨.inl ⟨Z,Z⟩,.inr ⟨_,Z⟩,.inl ⟨Z,Z⟩,Qn _,l,Qj _⟩) U2 ?_;refine VO (j:=0) (off:=k) (g0:=a) (dl:=n-k) (dc:=n-k) (sl:=k-0) (sc:=n-0) (q:=min k (n-k)) U8 (by show some (Value.slice (if n=k then some (⟨a,0,none⟩:Addr) else (some (⟨a,0,none⟩:Addr)).map (·.add (k*1))) (n-k) (n-k))=_;rw [aA om_];simp [Addr.add_lit]) (by show some (Value.slice (if n=0 then some (⟨a,0,none⟩:Addr) else (some (⟨a,0,none⟩:Addr)).map (·.add (0*1))) (k-0) (n-0))=_;split <;> simp [Addr.add_lit]) U2 (by simp [nU,ah]) ap fl_ ?_;refine UN (((k+min k (n-k):Nat):Int)) U4 om_ om_ om_ U2<|C4 1 [7,8] d Z<|Ut (L':=[.arr (.slice (some ⟨a,0,none⟩) n n) 56 1 n (List.replicate (k+min k (n-k)) (ah s)++List.replicate (n-(k+min k (n-k))) (ah []))]) (by rw [fI (n:=n) om_ (Nat.min_le_left _ _) am,List.drop_replicate,Nat.sub_sub];rfl)<|Up (m':=n-(k+min k (n-k))) om_ w (hn_ [7,8] Z) ⟨k+min k (n-k),⟨by omega,by omega⟩,Z,Z,Z⟩
 simp only [QG] at f;have o:k=n:=by omega
 subst o;refine Ua 2 [4] Z<|Un (UR Z Z ?_);exact ⟨a,Z,by simp⟩
theorem mP (C:Mem)(v:Value)(n:Nat)(s:Str)(g:Sl C 1 v [[ah s]])(y:n<=1000000):Jog.Fn cx.P 243 [v,.int .i64 n] C [] fun u _z e=>∃ b,u=.slice (some ⟨b,0,none⟩) n n/\e=[.arr u 56 1 n (List.replicate n (ah s))]:=by
 have p:=g;obtain ⟨A,c,rfl,_⟩:=p;refine Uk func243 48 U3 fun w0=>Ua 1 [0,1] Z<|Ua 2 [0,1,10] Z<|Ud (fun h=>?_) fun h=>?_
 ·simp at h;omega
 refine Ub 2 Z fun R d=>UQ (c:=1) U8 Z fl_<|Ue U6<|UQ (c:=(n:Int)) U8 (by rw [IntKind.wrap_u64];omega) fl_<|Ur (lM n om_ _) U7 fl_<|C4 5 [0,5,6] d Z<|Ub 5 Z fun R d=>UF U8<|Ug [0,6,26] d Z<|Ud (fun i=>?_) fun i=>?_
 ·simp at i;omega
 refine Ub 1 Z fun R d=>UQ (c:=(n:Int)) U8 (by rw [IntKind.wrap_i64];omega) fl_<|Vd U9 (Qj _) (by show 16*n<=281474976710656;omega) (by simp only [maxLen];omega) fl_ fun a=>C4 1 [0,7] d Z<|Ub 2 Z fun R d=>VP (j:=0) (q:=min 1 n) U12 g U2 (by rw [cV];show 0+min 1 n*1<=n*1;omega) fl_<|C4 1 [7,8] d Z ?_;have r:aD (kl [ah []] n) (([[ah s]]:List (List Value)).take (min 1 n)).flatten 0=List.replicate (min 1 n) (ah s)++List.replicate (n-min 1 n) (ah []):=by
  rw [zI];cases n with
  | zero=>rfl
  | succ n=>rw [show min 1 (n+1)=1 by omega,RG];rfl
 refine Ut (L':=[.arr (.slice (some ⟨a,0,none⟩) n n) 56 1 n (List.replicate (min 1 n) (ah s)++List.replicate (n-min 1 n) (ah []))]) (by rw [<- r];rfl)<|G.loop (fun fr C' e t=>∃ (k:Nat),(k<=n/\min 1 n<=k)/\fr=[(7,[],.slice (some ⟨a,0,none⟩) n n),(8,[],.int .i64 k)]/\e=[.arr (.slice (some ⟨a,0,none⟩) n n) 56 1 n (List.replicate k (ah s)++List.replicate (n-k) (ah []))]/\t=n-k) (hn_ [7,8] Z) ⟨min 1 n,⟨Nat.min_le_right _ _,Qj _⟩,Z,Z,Z⟩ (fun fr B D m w x=>?_);obtain ⟨k,⟨l,E⟩,rfl,rfl,rfl⟩:=x;refine Ua 4 [7,8,37] Z<|Ud (fun f=>?_) fun f=>?_
 ·simp only [Qs] at f;have o:k<n:=by omega
  have F:1<=k:=by omega
  refine Uy [0,1,2,3,4,5,6,7,8,9] [] Z kr_ fun R H d=>Uh 3 Z<|U0 k n n U12 (fun _=>⟨.inr ⟨_,Z⟩,.inl ⟨Z,Z⟩,.inl ⟨Z,Z⟩,l,Qj _,Qj _⟩) U2<|Uh 2 Z<|U0 0 k n U12 (fun _=>⟨.inl ⟨Z,Z⟩,.inr ⟨_,Z⟩,.inl ⟨Z,Z⟩,Qn _,l,Qj _⟩) U2 ?_;refine VO (j:=0) (off:=k) (g0:=a) (dl:=n-k) (dc:=n-k) (sl:=k-0) (sc:=n-0) (q:=min k (n-k)) U8 (by show some (Value.slice (if n=k then some (⟨a,0,none⟩:Addr) else (some (⟨a,0,none⟩:Addr)).map (·.add (k*1))) (n-k) (n-k))=_;rw [aA om_];simp [Addr.add_lit]) (by show some (Value.slice (if n=0 then some (⟨a,0,none⟩:Addr) else (some (⟨a,0,none⟩:Addr)).map (·.add (0*1))) (k-0) (n-0))=_;split <;> simp [Addr.add_lit]) U2 (by simp [nU,ah]) ap fl_ ?_;refine UN (((k+min k (n-k):Nat):Int)) U4 om_ om_ om_ U2<|C4 1 [7,8] d Z<|Ut (L':=[.arr (.slice (some ⟨a,0,none⟩) n n) 56 1 n (List.replicate (k+min k (n-k)) (ah s)++List.replicate (n-(k+min k (n-k))) (ah []))]) (by rw [fI (n:=n) om_ (Nat.min_le_left _ _) am,List.drop_replicate,Nat.sub_sub];rfl)<|Up (m':=n-(k+min k (n-k))) om_ w (hn_ [7,8] Z) ⟨k+min k (n-k),⟨by omega,by omega⟩,Z,Z,Z⟩
 simp only [QG] at f;have o:k=n:=by omega
 subst o;refine Ua 2 [4] Z<|Un (UR Z Z ?_);exact ⟨a,Z,by simp⟩
theorem fU (C:Mem)(s p:Nat)(h:s*p<=100000):Jog.Fn cx.P 191 [gv s p] C [] fun u _f c=>∃ b,u=.slice (some ⟨b,0,none⟩) (s*p:Nat) (s*p:Nat)/\c=[.arr u 56 1 (s*p) (List.replicate (s*p) (ah [48]))]:=by
 refine Uk func191 7 U3 fun w0=>Uf fun R a=>Uw U6 fun g=>C4 1 [1] a Z<|UB [(3,3)] Z fun R a=>Ux [[ah [48]]] U12 fun i _ _ d=>Uj af U9<|Ur (lD _ s p om_) U7 fl_<|D.call (rN _ _ (s*p) [48] d.m_ om_) Z (.inr dc_) U6 (Qo _) fl_ fun j _ k _ e=>C4 1 [2] a Z ?_;obtain ⟨b,rfl,rfl⟩:=e;refine UV 1 Z<|Un (UR Z Z ?_);exact ⟨b,Z,Z⟩
def ofE (z:Int)(s p:Nat):Int:=if z≠0 then z else if 60<s*p then 4 else 0
def ofS (e:Int)(s p:Nat):Value:=if e=0 then gv s p else gv 0 0
structure BookZ (C:Mem)(bv:Value)(B:Bk)(z:Int):Prop where
 i:BookIn C bv B
 ch:∀ D:Mem,C.le D->Gives cx.P 36 [bv] D (.int .i64 z)
 ne:z=0->B.col≠[]
 lc:B.col.length<=1000
 lp:B.pts.length<=400
theorem BookZ.mono {C D:Mem}{a:Value}{B:Bk}{z:Int}(h:BookZ C a B z)(c:C.le D):BookZ D a B z:=⟨h.i.mono c,fun E d=>h.ch E (fun b o e=>d b o (c b o e)),h.ne,h.lc,h.lp⟩
theorem BookZ.m_ {D:Mem}{B:Bk}(h:BookZ C bv B z)(a:C.le D:=by exact mup):BookZ D bv B z:=BookZ.mono h a
def bs (B:Bk):Nat:=B.col.length-1
def bp (B:Bk):Nat:=B.pts.length
theorem Oq {B:Bk}(h:BookZ C bv B z):bs B*bp B<=400000:=by
 have h1:=h.lc;have h2:=h.lp;have:bs B*bp B<=1000*400:=R5 (by unfold bs;omega) (by unfold bp;omega);omega
theorem OV (C:Mem)(l:Value)(B:Bk)(z:Int)(c:BookZ C l B z):Gives cx.P 64 [l] C (.tuple #[ofS (ofE z (bs B) (bp B)) (bs B) (bp B),.int .i64 (ofE z (bs B) (bp B))]):=by
 obtain ⟨n,o,p,q,r,rfl,h1,h2,h3,h4,h5⟩:=id c.i.ex;obtain ⟨s,t,rfl,u,v,_⟩:=id h1;obtain ⟨w,x,rfl,y,A,_⟩:=id h4;have D:=Oq c;have E:=c.lc;have m:=c.ch;have F:maxLen<=9223372036854775807:=by simp [maxLen]
 simp only [aw] at m ⊢;refine Uk func64 26 U3 fun w0=>Uf fun R a=>Uw U6 fun H=>Uv U5 fun I=>C4 1 [1,2] a Z<|G.freeze 1 Z fun _ _ g=>Uf fun R a=>Uc (bkT g 5) U8<|Uo (m _ mup) U7<|C4 1 [1,2,4] a Z<|Ua 2 [1,2,4,9] Z<|Ud (fun f=>?_) fun f=>?_
 ·have b:z≠0:=by
   intro e;rw [e] at f;exact absurd f dc_
  have d:ofE z (bs B) (bp B)=z:=by unfold ofE;rw [aH b]
  refine Uf fun R a=>Uu [.int .i64 0,.int .i64 0] U8<|Ue U6<|Um (j:=0) U12<|C4 1 [2,3] a Z<|Un (Vm af U5 ?_);exact ⟨by rw [d];unfold ofS;rw [aA b];rfl,Z⟩
 have b:z=0:=by simpa using f
 have J:=Q3.2 (c.ne b);have K:bs B+1=B.col.length:=by unfold bs;omega
 refine Ub 1 Z fun R a=>Uc (bkT g 1) U8<|Ue U6<|UN (((bs B:Nat):Int)) U4 om_ om_ om_ U2<|Uh 2 Z<|Uc (bkT g 1) U8<|Ue U6<|Uu [.int .i64 (bs B:Nat),.int .i64 (bp B:Nat)] U8<|Uv U5 fun L=>Um (j:=0) U12<|Ug [2,5] a Z<|Uf fun R a=>Uj af U9<|Ur (lD _ (bs B) (bp B) om_) U7 fl_<|C4 1 [2,5,23] a Z<|Ud (fun h=>?_) fun h=>?_
 ·have k:60<bs B*bp B:=by
   have:=aV h;omega
  have d:ofE z (bs B) (bp B)=4:=by unfold ofE;rw [b,aA dc_,aH k]
  refine Uf fun R a=>Uu [.int .i64 0,.int .i64 0] U8<|Um (j:=1) U12<|C4 1 [2,3] a Z<|Un (Vm af U5 ?_);exact ⟨by rw [d];rfl,Z⟩
 have k:¬ 60<bs B*bp B:=by
  have:=Qm h;omega
 have d:ofE z (bs B) (bp B)=0:=by unfold ofE;rw [b,aA dc_,aA k]
 refine Uf fun R a=>Uj af U9<|Um (j:=1) U12<|C4 1 [2,3] a Z<|Un (Vm af U5 ?_);exact ⟨by rw [d];rfl,Z⟩
theorem Kr (C:Mem)(c:Value)(B:Bk)(z:Int)(b:BookZ C c B z):Gives cx.P 35 [c] C (.tuple #[.int .i64 (if ofE z (bs B) (bp B)=0 then ((bs B*bp B:Nat):Int) else 0),.int .i64 (ofE z (bs B) (bp B))]):=by
 have s:=Oq b;have g:=b;obtain ⟨k,l,m,n,o,rfl,h1,h2,h3,h4,h5⟩:=id b.i.ex;obtain ⟨e,d⟩:∃ e,ofE z (bs B) (bp B)=e:=⟨_,rfl⟩;have f:∀ D:Mem,C.le D->Gives cx.P 64 [.agg ⟨[k,l,m,n,o]⟩] D (.tuple #[ofS e (bs B) (bp B),.int .i64 e]):=fun D p=>by have h:=OV D _ B z (g.mono p);rwa [d] at h
 rw [d];have q:ofS e (bs B) (bp B)=.agg ⟨[.int .i64 (if e=0 then ((bs B:Nat):Int) else 0),.int .i64 (if e=0 then ((bp B:Nat):Int) else 0)]⟩:=by unfold ofS gv;split <;> rfl
 have r:∀ D:Mem,Gives cx.P 65 [.agg ⟨[.int .i64 (if e=0 then ((bs B:Nat):Int) else 0),.int .i64 (if e=0 then ((bp B:Nat):Int) else 0)]⟩] D (.int .i64 (if e=0 then ((bs B*bp B:Nat):Int) else 0)):=fun D=>by
  by_cases h:e=0
  ·rw [aH h,aH h,aH h];exact lD D (bs B) (bp B) om_
  rw [aA h,aA h,aA h];exact lD D 0 0 om_
 rw [q] at f;refine Uk func35 14 U3 fun w0=>Uf fun R a=>Uw U6 fun t=>C4 2 [1] a Z<|Uf fun R a=>Uj af U9<|Uo (f _ mup) U7<|Uh 3 Z<|Uv U5 fun u=>Um (j:=0) U12<|C4 1 [4,5] a Z<|Uf fun R a=>Uj af U9<|Uo (r _) U7<|C4 3 [2,3] a Z<|Un (G.dropAll (UC U3 ?_));exact ⟨Z,Z⟩
theorem P0 (C:Mem)(a:Value)(B:Bk)(b:BookZ C a B 0)(c:bs B*bp B<=60):Gives cx.P 64 [a] C (.tuple #[gv (bs B) (bp B),.int .i64 0]):=by
 have h:=OV C a B 0 b;have e:ofE 0 (bs B) (bp B)=0:=by unfold ofE;rw [aA dc_,aA om_]
 rw [e] at h;exact h
def rL (n:Nat)(done:List (Nat × Rat)):List Rat:=(List.range n).map fun j=>(dp done j).getD 0
def kZ (n:Nat)(done:List (Nat × Rat)):List Value:=(rL n done).map fun q=>ah (qtx q)
theorem ma (n:Nat):List.replicate n (ah [48])=kZ n []:=by
 unfold kZ rL;rw [Q6];symm;rw [List.eq_replicate_iff];refine ⟨by simp,fun v a=>?_⟩;obtain ⟨j,_,rfl⟩:=Qt.1 a;show ah (qtx 0)=_;rw [qtx_zero]
theorem mb (n:Nat)(a:List (Nat × Rat)):(kZ n a).length=n:=by simp [kZ,rL]
theorem fC (b:List (Nat × Rat))(q:Rat)(h:a<n):aD (kZ n b) [ah (qtx q)] a=kZ n ((a,q)::b):=by
 have g:=mb n b;unfold aD;refine List.ext_getElem? (fun j=>?_);have f:∀ (d:List (Nat × Rat)),(kZ n d)[j]?=if j<n then some (ah (qtx ((dp d j).getD 0))) else none:=fun d=>by
  unfold kZ rL;rw [Q6,Ql];split
  ·rename_i c;rw [QY c];rfl
  rename_i c;rw [Qr (by simpa using Nat.le_of_not_lt c)];rfl
 rw [f ((a,q)::b)];have e:((kZ n b).take a).length=a:=by rw [Qz,g];omega
 rcases Nat.lt_trichotomy j a with c | rfl | c
 ·rw [QO,Rb (by rw [e];exact c),QZ,aH c,f b,aH om_,aH om_];simp only [dp];rw [aA om_]
 ·rw [QO,QV (by rw [e];exact Qj _),e,Sy,aH h];simp [dp]
 rw [QV (by rw [Qp,e];simp;omega),Qp,e,List.getElem?_drop];rw [show a+[ah (qtx q)].length+(j-(a+[ah (qtx q)].length))=j by simp;omega,f b];split
 ·simp only [dp];rw [aA om_]
 rfl
theorem wj {d a:List (Nat × Rat)}(h:d.Perm a)(b:(d.map (·.1)).Nodup):rL n d=rL n a:=by
 unfold rL;refine List.map_congr_left (fun j _=>?_);rw [wN h b]
def eJ (fm:List (Nat × Rat)):List (Int × Value):=fm.map fun x=>(((x.1:Nat):Int),ah (qtx x.2))
def H7 (p surface:Nat)(sign:Rat)(x:Nat × Rat):Nat × Rat:=(surface*p+x.1,sign*x.2)
theorem mT:QB 1 (-1:Rat):=fa QB_one
theorem yq (C:Mem)(s p a k:Nat)(h:a*p+k<=1000000):Gives cx.P 190 [gv s p,.int .i64 (a:Nat),.int .i64 (k:Nat)] C (.int .i64 ((a*p+k:Nat):Int)):=by
 have e:((a:Nat):Int)*(p:Nat)=((a*p:Nat):Int):=(Rc _ _).symm;have h2:=OA C s p (a:Nat) (k:Nat) (by rw [e];omega) om_;rw [e,<- S2] at h2;exact h2
def I1 (s p surface:Nat)(fm:List (Nat × Rat))(sign:Rat):List Rat:=rL (s*p) (fm.map (H7 p surface sign))
theorem OD (C:Mem)(J:Tabs C)(s p f b:Nat)(c:List (Nat × Rat))(g o:Rat)(k:Nat)(K:0<k)(hk:k<=1000)(ab:s*p<=100000)(hs:f<s)(A:C b=some (aQ keyZ.enc (eJ c)))(ac:(c.map (·.1)).Nodup)(ad:∀ x∈c,x.1<p)(ae:∀ x∈c,QB k x.2)(L:QB k g)(ag:QB k o) :
  Pur cx.P 196 [gv s p,.int .i64 f,.map (some b),ah (qtx g),ah (qtx o)] C fun u D=>∃ v,u=.agg ⟨[v,ah (qtx (g*o))]⟩/\Sl D 1 v ((I1 s p f c g).map fw):=by
 have aw:maxLen<=9223372036854775807:=by simp [maxLen]
 have M:(eJ c).length=c.length:=by simp [eJ]
 have ax:f*p+p<=s*p:=by
  rw [<- Nat.succ_mul];exact Ri _ hs
 have ay:=(c.map (·.1)).length;refine Uk func196 38 U3 fun w0=>Uf fun R l=>Uw U6 fun b5=>Uv U5 fun z=>Ug [1,2,3,4,5,10] l Z<|G.freeze 1 Z fun _ _ N=>UB [(1,3)] Z fun R l=>Uc (bkT N 2) U8<|D.call (fU _ s p ab) Z (.inr dc_) U6 (Qo _) fl_ (fun az _ aA _ ai=>?_);obtain ⟨bz,rfl,rfl⟩:=ai;refine Uh 2 Z<|Ur (dR _ J.m_ g o k K om_ L ag) U7 fl_<|Uu [.slice (some ⟨bz,0,none⟩) (s*p:Nat) (s*p:Nat),ah (qtx (g*o))] U8<|Uv U5 fun aj=>Um (j:=0) U12<|Ug [1,2,3,5,10,11] l Z<|G.freeze 0 Z fun _ _ O=>Ut (L':=[.arr (.slice (some ⟨bz,0,none⟩) (s*p) (s*p)) 56 1 (s*p) (kZ (s*p) []),.obj z (.cells ⟨[.slice none 0 0,ah []]⟩ 123 (0,0))]) (by rw [ma];rfl)<|Ub 1 Z fun R l=>Wm keyZ (Mem.get A mup) Z Z Z Z Z Z Z fl_ fun E=>Ug [1,3,5,10,11,21] l Z<|G.loop (fun fr C' B μ=>∃ (seen:List Nat),(seen.Nodup/\(∀ j∈seen,j<c.length))/\fr=[(1,[],.int .i64 f),(3,[],ah (qtx g)),(5,[],.pointer (some ⟨b5,0,none⟩)),(10,[],.pointer (some ⟨z,0,none⟩)),(11,[],.pointer (some ⟨aj,0,none⟩)),(21,[],.pointer (some ⟨E,0,none⟩))]/\B=[.obj E (bx b (eJ c).length seen),.arr (.slice (some ⟨bz,0,none⟩) (s*p) (s*p)) 56 1 (s*p) (kZ (s*p) (seen.reverse.map fun i=>H7 p f g (c.getD i (0,0)))),.obj z (.cells ⟨[.slice none 0 0,ah []]⟩ 123 (0,0))]/\μ=c.length-seen.length) (hn_ [1,3,5,10,11,21] Z) ⟨[],⟨List.nodup_nil,by simp⟩,Z,Z,Z⟩ (fun fr aB aC m _ hI=>?_);obtain ⟨seen,⟨Q,S⟩,rfl,rfl,rfl⟩:=hI;refine Uf fun R l=>Wu keyZ (q:=0) (Mem.get A mup) Z Z Z Z Z Z fl_ fun T aD t U=>C4 1 [1,3,5,10,11,21,23] l Z<|Ud (fun w=>?_) fun w=>?_
 ·obtain ⟨aE,j,F,am,rfl⟩:T=true/\∃ j,j<(eJ c).length/\j ∉ seen/\t=seen++[j]:=by
   rcases U with ⟨h1,_⟩ | h1
   ·rw [h1] at w;cases w
   exact h1
  rw [M] at F;obtain ⟨⟨n,q⟩,H⟩:∃ x,c[j]?=some x:=⟨c[j],ak F⟩;have V:=Qi H;have aF:n<p:=ad _ V;have an:QB k q:=ae _ V;have ao:(eJ c)[j]?=some (((n:Nat):Int),ah (qtx q)):=by unfold eJ;rw [Ql,H];rfl
  have ap:c.getD j (0,0)=(n,q):=by rw [al,H];rfl
  have W:(seen++[j]).Nodup:=by
   rw [R3];exact ⟨Q,by simp,fun a ha b hb e=>by rw [QF.1 hb] at e;subst e;exact am ha⟩
  have X:∀ i∈seen++[j],i<c.length:=fun i I=>by
   rcases Qy.1 I with h | h
   ·exact S i h
   rw [QF.1 h];exact F
  have aG:(seen++[j]).length<=c.length:=by
   have:=List.Nodup.length_le_of_subset W (l₂:=List.range c.length) (fun i I=>QA.2 (X i I));simpa using this
  have aH:(seen++[j]).length=seen.length+1:=by simp
  have aq:f*p+n<s*p:=by omega
  refine Uf fun R l=>Wr keyZ (Mem.get A mup) ao af Z Z Z Z Z Z Z<|C4 4 [1,3,5,10,11,12,13,21] l Z<|Uy [0,1,2,3,4,5,6,7,8,9,10] [(5,1),(8,1)] Z kr_ fun R hB l=>Ue U6<|Uc (bkT O 1) U8<|Uc (bkT N 2) U8<|Uh 2 Z<|Uz (fun _=>(yq _ s p f n om_)) U9<|Uh 2 Z<|Uz (fun _=>(dR _ J.m_ g q k K om_ L an)) U9<|UI ((f*p+n)) U10 (fun _=>⟨by omega,by omega,(Sd _).symm⟩) U2<|UK (j:=1) U11 (by rw [mb];simp;omega)<|Ug [1,3,5,10,11,21] l Z<|G.perm (L':=[.obj E (bx b (eJ c).length (seen++[j])),.arr (.slice (some ⟨bz,0,none⟩) (s*p) (s*p)) 56 1 (s*p) (kZ (s*p) ((seen++[j]).reverse.map fun i=>H7 p f g (c.getD i (0,0)))),.obj z (.cells ⟨[.slice none 0 0,ah []]⟩ 123 (0,0))]) (by
   rw [List.reverse_append,List.reverse_singleton,List.singleton_append,QU,ap];unfold H7;rw [<- fC _ _ aq];exact List.Perm.swap _ _ _) ?_
  refine Up (m':=c.length-(seen++[j]).length) om_ mup (hn_ [1,3,5,10,11,21] Z) ⟨seen++[j],⟨W,X⟩,Z,Z,Z⟩
 obtain ⟨aI,rfl,Y⟩:T=false/\t=seen/\∀ j,j<(eJ c).length->j∈seen:=by
  rcases U with h1 | ⟨h1,_⟩
  ·exact h1
  rw [h1] at w;cases w
 rw [M] at Y;have aa:(t.reverse.map fun i=>H7 p f g (c.getD i (0,0))).Perm (c.map (H7 p f g)):=by
  have h1:=(wb (d:=((0:Nat),(0:Rat))) Q S Y).map (H7 p f g);rw [Q6] at h1;exact ((List.reverse_perm t).map _).trans h1
 have ar:((c.map (H7 p f g)).map (·.1)).Nodup:=by
  rw [Q6];have e:((·.1) ∘ H7 p f g:Nat × Rat->Nat)=(fun k=>f*p+k) ∘ (·.1):=rfl;rw [e,<- Q6];rw [List.Nodup,List.pairwise_map];exact ac.imp (fun {a b} h=>by omega)
 have au:kZ (s*p) (t.reverse.map fun i=>H7 p f g (c.getD i (0,0)))=((I1 s p f c g).map fw).flatten:=by
  unfold I1 kZ;rw [wj aa ((aa.map (·.1)).nodup_iff.2 ar)];exact (eA (fun q=>ah (qtx q)) _).symm
 refine UV 0 Z<|G.freezeArr 0 ((I1 s p f c g).map fw) rfl au (by intro r hr;obtain ⟨y,_,rfl⟩:=Qt.1 hr;rfl) (by simp [I1,rL]) fun Cg hg av=>Uf fun R l=>Uc (bkT O 2) U8<|Um (j:=0) U12<|Ug [10] l Z<|Un (UU af U4 ?_);exact ⟨Z,_,Z,av⟩
structure RowQ where
 f:List Rat
 b:Rat
def aS (vs:List Value)(rows:List RowQ):List (List Value):=List.zipWith (fun w (r:RowQ)=>[w,ah (qtx r.b)]) vs rows
def RowsOk (C:Mem)(vs:List Value)(rows:List RowQ):Prop:=vs.length=rows.length/\∀ (i:Nat)(w:Value)(r:RowQ),vs[i]?=some w->rows[i]?=some r->Sl C 1 w (r.f.map fw)
theorem RowsOk.mono {C D:Mem}{a:List Value}{b:List RowQ}(h:RowsOk C a b)(c:C.le D):RowsOk D a b:=⟨h.1,fun i w r h1 h2=>(h.2 i w r h1 h2).mono c⟩
theorem RowsOk.m_ {D:Mem}{a:List RowQ}(h:RowsOk C vs a)(b:C.le D:=by exact mup):RowsOk D vs a:=RowsOk.mono h b
theorem RowsOk.nil (C:Mem):RowsOk C [] []:=⟨rfl,fun i w r h1 _=>by simp at h1⟩
theorem RowsOk.snoc {a:List RowQ}{r:RowQ}(h:RowsOk C vs a)(c:Sl C 1 v (r.f.map fw)):RowsOk C (vs++[v]) (a++[r]):=by
 have h0:=h.1;refine ⟨by simp [h0],fun j w d h1 h2=>?_⟩;rcases QQ j vs.length with e | g
 ·rw [Rb e] at h1;rw [Rb om_] at h2;exact h.2 j w d h1 h2
 rw [QV g] at h1;rw [QV om_,<- h0] at h2;cases b:j-vs.length with
 | zero=>rw [b] at h1 h2;simp at h1 h2;subst h1;subst h2;exact c
 | succ q=>rw [b] at h1;simp at h1
theorem ft {a:List RowQ}(h:vs.length=a.length)(v:Value)(r:RowQ):aS (vs++[v]) (a++[r])=aS vs a++[[v,ah (qtx r.b)]]:=by
 unfold aS;rw [List.zipWith_append h];rfl
theorem ep {a:List RowQ}(h:vs.length=a.length):(aS vs a).length=a.length:=by simp [aS,h]
theorem iU (b:List Value)(c:List RowQ):∀ r∈aS b c,r.length=2:=by
 intro r hr;unfold aS at hr;obtain ⟨i,a⟩:=RP hr;rw [List.getElem?_zipWith] at a;cases h1:b[i]? <;> cases h2:c[i]? <;> rw [h1,h2] at a <;> simp at a
 subst a;rfl
def RowsIn (C:Mem)(v:Value)(rows:List RowQ):Prop:=∃ vs:List Value,RowsOk C vs rows/\Sl C 2 v (aS vs rows)
theorem RowsIn.mono {C D:Mem}{v:Value}{a:List RowQ}(h:RowsIn C v a)(b:C.le D):RowsIn D v a:=by
 obtain ⟨vs,h1,h2⟩:=h;exact ⟨vs,h1.mono b,h2.mono b⟩
theorem RowsIn.m_ {D:Mem}{a:List RowQ}(h:RowsIn C v a)(b:C.le D:=by exact mup):RowsIn D v a:=RowsIn.mono h b
def sd (s p:Nat)(x:Lay)(i k:Nat):RowQ:=⟨rL (s*p) [(i*p+k, -1),((i-1)*p+k,1)], -x.min⟩
def GQ (s p:Nat)(m:Rat)(i k:Nat):RowQ:=⟨rL (s*p) [(i*p+k,1),((i-1)*p+k, -1)],m⟩
def kp (s p:Nat)(x:Lay)(i k:Nat):List RowQ :=
 sd s p x i k::(match x.max with
  | none=>[]
  | some m=>[GQ s p m i k])
def bq (s p:Nat)(x:Lay)(i:Nat):Nat->List RowQ
 | 0=>[]
 | k+1=>bq s p x i k++kp s p x i k
def bj (s p:Nat)(col:List Lay):Nat->List RowQ
 | 0=>[]
 | n+1=>bj s p col n++bq s p (col.getD (n+1) ⟨[],0,none⟩) (n+1) p
theorem mL (s p:Nat)(x:Lay)(i:Nat):∀ k,(bq s p x i k).length<=2*k
 | 0=>Qj _
 | k+1=>by
  have:=mL s p x i k;have h2:(kp s p x i k).length<=2:=by unfold kp;split <;> simp
  simp only [bq,Qp];omega
theorem jB (s p:Nat)(a:List Lay):∀ n,(bj s p a n).length<=2*(n*p)
 | 0=>by simp [bj]
 | n+1=>by
  have:=jB s p a n;have h2:=mL s p (a.getD (n+1) ⟨[],0,none⟩) (n+1) p;simp only [bj,Qp,Nat.succ_mul];omega
theorem cW:qtx (-1)=[45,49]:=by
 rw [gg (q:=1) dc_ dc_,dy]
theorem st2 (c d:Rat)(e:a<n)(f:b<n):aD (aD (List.replicate n (ah [48])) [ah (qtx c)] a) [ah (qtx d)] b=kZ n [(b,d),(a,c)]:=by
 rw [ma,fC _ _ e,fC _ _ f]
theorem Px (c d:Rat)(e:a<n)(f:b<n)(g:a≠b):aD (aD (List.replicate n (ah [48])) [ah (qtx d)] b) [ah (qtx c)] a=kZ n [(b,d),(a,c)]:=by
 rw [st2 d c f e];unfold kZ;rw [wj (List.Perm.swap _ _ _) (by simp;exact g)]
theorem jn (n:Nat)(d:List (Nat × Rat)):kZ n d=((rL n d).map fw).flatten:=(eA (fun q=>ah (qtx q)) _).symm
theorem jE (n:Nat)(d:List (Nat × Rat)):(rL n d).length=n:=by simp [rL]
theorem vN (C:Mem)(_aL:Tabs C)(v:Value)(s p:Nat)(c:List Lay)(J:Sl C 3 v (c.map yT))(hs:s+1=c.length)(aM:s*p<=60)(am:∀ x∈c,N7 x) :
  Pur cx.P 127 [gv s p,v] C fun u D=>RowsIn D u (bj s p c (c.length-2)):=by
 obtain ⟨F,c0,rfl,an,aN,_⟩:=id J;have aO:maxLen<=9223372036854775807:=by simp [maxLen]
 simp only [aw] at J an ⊢;refine Uk func127 81 U3 fun w0=>Uf fun R d=>Uw U6 fun H=>C4 1 [1,2] d Z<|G.freeze 0 Z fun _ _ K=>Ua 1 [1,2,5] Z<|Ua 1 [1,2,5,6] Z<|G.nilArr 123 2<|G.loop (fun fr C' f t=>∃ (i:Nat)(vs:List Value)(w:Value),(1<=i/\(i+1<=c.length∨i=1)/\RowsOk C' vs (bj s p c (i-1)))/\fr=[(1,[],.slice F c.length c0),(2,[],.pointer (some ⟨H,0,none⟩)),(5,[],w),(6,[],.int .i64 i)]/\f=[.arr w 123 2 (bj s p c (i-1)).length (aS vs (bj s p c (i-1))).flatten]/\t=c.length-i) (hn_ [1,2,5,6] Z) ⟨1,[],_,⟨Qj _,.inr Z,RowsOk.nil _⟩,Z,Z,Z⟩ (fun fr aP aQ m _ z=>?_);obtain ⟨i,vs,w,⟨aR,aT,O⟩,rfl,rfl,rfl⟩:=z;refine Ub 1 Z fun R d=>Ul _ U7<|C4 3 [1,2,5,6,15] d Z<|Ud (fun W=>?_) fun W=>?_
 ·have ac:i+1<c.length:=by
   have:=aV W;omega
  obtain ⟨x,L⟩:∃ x,c[i]?=some x:=⟨c[i]'om_,ak om_⟩;obtain ⟨M,aU,aW⟩:=am x (Qi L);have aX:=jB s p c (i-1);refine Ub 1 Z fun R d=>Uc (bkT K 1) U8<|C4 1 [1,2,5,6,19,20] d Z<|Ut (L':=[.arr w 123 2 (bj s p c (i-1)++bq s p x i 0).length (aS vs (bj s p c (i-1)++bq s p x i 0)).flatten]) (by simp [bq])<|G.loop (fun fr C' f t=>∃ (k:Nat)(g:List Value)(o:Value),(k<=p/\RowsOk C' g (bj s p c (i-1)++bq s p x i k))/\fr=[(1,[],.slice F c.length c0),(2,[],.pointer (some ⟨H,0,none⟩)),(5,[],o),(6,[],.int .i64 i),(19,[],.int .i64 p),(20,[],.int .i64 k)]/\f=[.arr o 123 2 (bj s p c (i-1)++bq s p x i k).length (aS g (bj s p c (i-1)++bq s p x i k)).flatten]/\t=p-k) (hn_ [1,2,5,6,19,20] Z) ⟨0,vs,w,⟨Qn _,by simpa [bq] using O⟩,Z,Z,Z⟩ (fun fr aY aZ m _ z=>?_);obtain ⟨k,g,o,⟨hk,X⟩,rfl,rfl,rfl⟩:=z;refine Ua 1 [1,2,5,6,19,20,21] Z<|Ud (fun Y=>?_) fun Y=>?_
  ·have ad:k<p:=by simpa using Y
   have a0:i*p+p<=s*p:=by
    rw [<- Nat.succ_mul];exact Ri _ om_
   have a1:(i-1)*p+p=i*p:=by
    rw [<- Nat.succ_mul,show (i-1).succ=i by omega]
   have a2:=mL s p x i k;have a3:(i-1)*p<=60:=by omega
   have ag:(bj s p c (i-1)++bq s p x i k).length<=400:=by
    rw [Qp];omega
   refine Ua 2 [1,2,5,6,7,19,20] Z<|Uy [0,1,2,3,4,5,6,7,8,9,10] [(4,1),(8,1)] Z kr_ fun R Q d=>Uc (bkT K 2) U8<|Ue U6<|UN (((i-1:Nat):Int)) U4 om_ om_ om_ U2<|Ue U6<|Uz (fun _=>(yq _ s p (i-1) k om_)) U9<|Uc (bkT K 2) U8<|Uh 2 Z<|Uz (fun _=>(yq _ s p i k om_)) U9<|C4 2 [1,2,5,6,8,9,19,20] d Z<|G.cut (fun fr C' f t=>∃ (bz e:Nat),(True)/\fr=[(1,[],.slice F c.length c0),(2,[],.pointer (some ⟨H,0,none⟩)),(5,[],o),(6,[],.int .i64 i),(8,[],.int .i64 ((((i-1)*p+k:Nat)):Int)),(9,[],.int .i64 (((i*p+k:Nat)):Int)),(10,[],.pointer (some ⟨e,0,none⟩)),(19,[],.int .i64 p),(20,[],.int .i64 k)]/\f=[.arr (.slice (some ⟨bz,0,none⟩) (s*p) (s*p)) 56 1 (s*p) (List.replicate (s*p) (ah [48])),.obj e (.cells ⟨[.slice (some ⟨bz,0,none⟩) (s*p) (s*p),ah (qtx (-x.min))]⟩ 123 (0,0)),.arr o 123 2 (bj s p c (i-1)++bq s p x i k).length (aS g (bj s p c (i-1)++bq s p x i k)).flatten]) ?_ (fun fr a4 a5 t a6 z=>?_)
   ·refine UW (.cut [0,2,3,4,5] (.alt 1 (.fin [6,7,8,9,10]) (.alt 6 (.cut [] (.alt 1 (.fin [7,8,9,10]) (.alt 9 (.fin [1,7,8,10]) .stop))) (.alt 9 (.cut [] (.alt 1 (.fin [6,7,8,10]) (.alt 6 (.fin [1,7,8,10]) .stop))) .stop)))) [(7,1),(1,3)] Z Z kr_ fun R Q d B=>Uc (bkT K 2) U8<|Uh 2 Z<|Us J.m_ U10 om_ (bV L) fl_ fun a7 ao=>Vz ao U10 fl_ fun a8 S=>UL B Z ⟨?_, ?_, ?_,trivial⟩
    ·refine D.call (fU _ s p om_) Z (.inr dc_) U6 (Qo _) fl_ fun T U V _ E=>Uc S.m_ U8<|UJ (fun _=>(eN _ x.min (Dc M))) U9 ?_;obtain ⟨bz,rfl,rfl⟩:=E;refine Uu [.slice (some ⟨bz,0,none⟩) (s*p:Nat) (s*p:Nat),ah (qtx (-x.min))] U8<|Uv U5 (fun e=>?_)
     first | refine UY (j:=0) U12 ?_ | refine UY (j:=1) U12 ?_
     exact Ug [1,2,5,6,8,9,10,19,20] d Z<|G.perm (L':=[.arr (.slice (some ⟨bz,0,none⟩) (s*p) (s*p)) 56 1 (s*p) (List.replicate (s*p) (ah [48])),.obj e (.cells ⟨[.slice (some ⟨bz,0,none⟩) (s*p) (s*p),ah (qtx (-x.min))]⟩ 123 (0,0)),.arr o 123 2 (bj s p c (i-1)++bq s p x i k).length (aS g (bj s p c (i-1)++bq s p x i k)).flatten]) (by first | exact Qo _ | exact List.Perm.swap _ _ _)<|Uq 0 mup (hn_ [1,2,5,6,8,9,10,19,20] Z) ⟨bz,e,trivial,Z,Z⟩
    ·refine Uc S.m_ U8<|UL B Z ⟨?_, ?_,trivial⟩
     ·refine D.call (fU _ s p om_) Z (.inr dc_) U6 (Qo _) fl_ fun T U V _ E=>UJ (fun _=>(eN _ x.min (Dc M))) U9 ?_;obtain ⟨bz,rfl,rfl⟩:=E;refine Uu [.slice (some ⟨bz,0,none⟩) (s*p:Nat) (s*p:Nat),ah (qtx (-x.min))] U8<|Uv U5 (fun e=>?_)
      first | refine UY (j:=0) U12 ?_ | refine UY (j:=1) U12 ?_
      exact Ug [1,2,5,6,8,9,10,19,20] d Z<|G.perm (L':=[.arr (.slice (some ⟨bz,0,none⟩) (s*p) (s*p)) 56 1 (s*p) (List.replicate (s*p) (ah [48])),.obj e (.cells ⟨[.slice (some ⟨bz,0,none⟩) (s*p) (s*p),ah (qtx (-x.min))]⟩ 123 (0,0)),.arr o 123 2 (bj s p c (i-1)++bq s p x i k).length (aS g (bj s p c (i-1)++bq s p x i k)).flatten]) (by first | exact Qo _ | exact List.Perm.swap _ _ _)<|Uq 0 mup (hn_ [1,2,5,6,8,9,10,19,20] Z) ⟨bz,e,trivial,Z,Z⟩
     refine Uv U5 fun e=>D.call (fU _ s p om_) Z (.inr dc_) U6 (Qo _) fl_ fun T U V _ E=>UJ (fun _=>(eN _ x.min (Dc M))) U9 ?_;obtain ⟨bz,rfl,rfl⟩:=E;refine Uu [.slice (some ⟨bz,0,none⟩) (s*p:Nat) (s*p:Nat),ah (qtx (-x.min))] U8 ?_
     first | refine UY (j:=0) U12 ?_ | refine UY (j:=1) U12 ?_
     exact Ug [1,2,5,6,8,9,10,19,20] d Z<|G.perm (L':=[.arr (.slice (some ⟨bz,0,none⟩) (s*p) (s*p)) 56 1 (s*p) (List.replicate (s*p) (ah [48])),.obj e (.cells ⟨[.slice (some ⟨bz,0,none⟩) (s*p) (s*p),ah (qtx (-x.min))]⟩ 123 (0,0)),.arr o 123 2 (bj s p c (i-1)++bq s p x i k).length (aS g (bj s p c (i-1)++bq s p x i k)).flatten]) (by first | exact Qo _ | exact List.Perm.swap _ _ _)<|Uq 0 mup (hn_ [1,2,5,6,8,9,10,19,20] Z) ⟨bz,e,trivial,Z,Z⟩
    refine Uv U5 fun e=>UL B Z ⟨?_, ?_,trivial⟩
    ·refine D.call (fU _ s p om_) Z (.inr dc_) U6 (Qo _) fl_ fun T U V _ E=>Uc S.m_ U8<|UJ (fun _=>(eN _ x.min (Dc M))) U9 ?_;obtain ⟨bz,rfl,rfl⟩:=E;refine Uu [.slice (some ⟨bz,0,none⟩) (s*p:Nat) (s*p:Nat),ah (qtx (-x.min))] U8 ?_
     first | refine UY (j:=0) U12 ?_ | refine UY (j:=1) U12 ?_
     exact Ug [1,2,5,6,8,9,10,19,20] d Z<|G.perm (L':=[.arr (.slice (some ⟨bz,0,none⟩) (s*p) (s*p)) 56 1 (s*p) (List.replicate (s*p) (ah [48])),.obj e (.cells ⟨[.slice (some ⟨bz,0,none⟩) (s*p) (s*p),ah (qtx (-x.min))]⟩ 123 (0,0)),.arr o 123 2 (bj s p c (i-1)++bq s p x i k).length (aS g (bj s p c (i-1)++bq s p x i k)).flatten]) (by first | exact Qo _ | exact List.Perm.swap _ _ _)<|Uq 0 mup (hn_ [1,2,5,6,8,9,10,19,20] Z) ⟨bz,e,trivial,Z,Z⟩
    refine Uc S.m_ U8<|D.call (fU _ s p om_) Z (.inr dc_) U6 (Qo _) fl_ fun T U V _ E=>UJ (fun _=>(eN _ x.min (Dc M))) U9 ?_;obtain ⟨bz,rfl,rfl⟩:=E;refine Uu [.slice (some ⟨bz,0,none⟩) (s*p:Nat) (s*p:Nat),ah (qtx (-x.min))] U8 ?_
    first | refine UY (j:=0) U12 ?_ | refine UY (j:=1) U12 ?_
    exact Ug [1,2,5,6,8,9,10,19,20] d Z<|G.perm (L':=[.arr (.slice (some ⟨bz,0,none⟩) (s*p) (s*p)) 56 1 (s*p) (List.replicate (s*p) (ah [48])),.obj e (.cells ⟨[.slice (some ⟨bz,0,none⟩) (s*p) (s*p),ah (qtx (-x.min))]⟩ 123 (0,0)),.arr o 123 2 (bj s p c (i-1)++bq s p x i k).length (aS g (bj s p c (i-1)++bq s p x i k)).flatten]) (by first | exact Qo _ | exact List.Perm.swap _ _ _)<|Uq 0 mup (hn_ [1,2,5,6,8,9,10,19,20] Z) ⟨bz,e,trivial,Z,Z⟩
   obtain ⟨bz,e,_,rfl,rfl⟩:=z;refine G.cut (fun fr C' f t=>(True)/\fr=[(1,[],.slice F c.length c0),(2,[],.pointer (some ⟨H,0,none⟩)),(5,[],o),(6,[],.int .i64 i),(8,[],.int .i64 ((((i-1)*p+k:Nat)):Int)),(9,[],.int .i64 (((i*p+k:Nat)):Int)),(10,[],.pointer (some ⟨e,0,none⟩)),(19,[],.int .i64 p),(20,[],.int .i64 k)]/\f=[.arr (.slice (some ⟨bz,0,none⟩) (s*p) (s*p)) 56 1 (s*p) (kZ (s*p) [(i*p+k, -1),((i-1)*p+k,1)]),.obj e (.cells ⟨[.slice (some ⟨bz,0,none⟩) (s*p) (s*p),ah (qtx (-x.min))]⟩ 123 (0,0)),.arr o 123 2 (bj s p c (i-1)++bq s p x i k).length (aS g (bj s p c (i-1)++bq s p x i k)).flatten]) ?_ (fun fr a9 ba t bb z=>?_)
   ·refine UW (.cut [0,1,2,3,5,6] (.alt 4 (.fin [7,8,9]) (.alt 7 (.fin [4,8,9]) .stop))) [] Z Z kr_ fun R Q d B=>Ue U6<|Uj ae U9<|Uh 3 Z<|UI (((i-1)*p+k)) U10 (fun _=>⟨by omega,by omega,(Sd _).symm⟩) U2<|UL B Z ⟨?_, ?_,trivial⟩
    ·refine Uj ae U9<|UK (j:=0) U11 (by simp [];omega)<|UI ((i*p+k)) U10 (fun _=>⟨by omega,by omega,(Sd _).symm⟩) U2<|UK (j:=0) U11 (by simp [aD];omega)<|Ug [1,2,5,6,8,9,10,19,20] d Z<|Ut (L':=[.arr (.slice (some ⟨bz,0,none⟩) (s*p) (s*p)) 56 1 (s*p) (kZ (s*p) [(i*p+k, -1),((i-1)*p+k,1)]),.obj e (.cells ⟨[.slice (some ⟨bz,0,none⟩) (s*p) (s*p),ah (qtx (-x.min))]⟩ 123 (0,0)),.arr o 123 2 (bj s p c (i-1)++bq s p x i k).length (aS g (bj s p c (i-1)++bq s p x i k)).flatten]) (by
      first
      | (rw [<- st2 (n:=s*p) 1 (-1) om_ om_,dy,cW];rfl)
      | (rw [<- Px (n:=s*p) 1 (-1) om_ om_ om_,dy,cW];rfl)) ?_
     exact Uq 0 (Mem.le.refl _) (hn_ [1,2,5,6,8,9,10,19,20] Z) ⟨trivial,Z,Z⟩
    refine UK (j:=0) U11 (by simp [];omega)<|Uj ae U9<|UI ((i*p+k)) U10 (fun _=>⟨by omega,by omega,(Sd _).symm⟩) U2<|UK (j:=0) U11 (by simp [aD];omega)<|Ug [1,2,5,6,8,9,10,19,20] d Z<|Ut (L':=[.arr (.slice (some ⟨bz,0,none⟩) (s*p) (s*p)) 56 1 (s*p) (kZ (s*p) [(i*p+k, -1),((i-1)*p+k,1)]),.obj e (.cells ⟨[.slice (some ⟨bz,0,none⟩) (s*p) (s*p),ah (qtx (-x.min))]⟩ 123 (0,0)),.arr o 123 2 (bj s p c (i-1)++bq s p x i k).length (aS g (bj s p c (i-1)++bq s p x i k)).flatten]) (by
     first
     | (rw [<- st2 (n:=s*p) 1 (-1) om_ om_,dy,cW];rfl)
     | (rw [<- Px (n:=s*p) 1 (-1) om_ om_ om_,dy,cW];rfl)) ?_
    exact Uq 0 (Mem.le.refl _) (hn_ [1,2,5,6,8,9,10,19,20] Z) ⟨trivial,Z,Z⟩
   obtain ⟨_,rfl,rfl⟩:=z;refine G.freezeArr 0 ((rL (s*p) [(i*p+k, -1),((i-1)*p+k,1)]).map fw) rfl (jn _ _) (by intro r hr;obtain ⟨y,_,rfl⟩:=Qt.1 hr;rfl) (by simp [jE]) (fun Cz hz ap=>?_);have aq:=X.1;have aa:=RowsOk.snoc (r:=sd s p x i k) X.m_ ap;have ar:=ft aq (.slice (some ⟨bz,0,none⟩) (s*p) (s*p)) (sd s p x i k);refine Ub 1 Z fun R d=>Uj af U9<|Ux [[.slice (some ⟨bz,0,none⟩) (s*p:Nat) (s*p:Nat),ah (qtx (-x.min))]] U12 fun bc _ _ au=>D.append (j:=1) U11 au Z ax (by simp only [PH];omega) fl_ fun A=>C4 1 [1,2,5,6,8,9,10,19,20] d Z<|Ut (L':=[.arr A 123 2 (bj s p c (i-1)++bq s p x i k++[sd s p x i k]).length (aS (g++[.slice (some ⟨bz,0,none⟩) (s*p) (s*p)]) (bj s p c (i-1)++bq s p x i k++[sd s p x i k])).flatten,.obj e (.cells ⟨[.slice (some ⟨bz,0,none⟩) (s*p) (s*p),ah (qtx (-x.min))]⟩ 123 (0,0))]) (by rw [ar];simp [sd];omega)<|Ub 2 Z fun R d=>Us J.m_ U10 om_ (bV L) fl_ fun bd av=>Vz av U10 fl_ fun be ay=>Uc ay U8<|C4 1 [1,2,5,6,8,9,10,19,20,58] d Z<|Ud (fun I=>?_) fun I=>?_
   ·obtain ⟨m,hm⟩:∃ m,x.max=some m:=by
     rw [pC] at I;exact To.1 I
    have N:kp s p x i k=[sd s p x i k,GQ s p m i k]:=by unfold kp;rw [hm]
    have az:vy x.max=qtx m:=by rw [hm];rfl
    refine G.cut (fun fr C' f t=>∃ (h:Nat),(True)/\fr=[(1,[],.slice F c.length c0),(2,[],.pointer (some ⟨H,0,none⟩)),(5,[],A),(6,[],.int .i64 i),(8,[],.int .i64 ((((i-1)*p+k:Nat)):Int)),(9,[],.int .i64 (((i*p+k:Nat)):Int)),(10,[],.pointer (some ⟨e,0,none⟩)),(19,[],.int .i64 p),(20,[],.int .i64 k)]/\f=[.arr (.slice (some ⟨h,0,none⟩) (s*p) (s*p)) 56 1 (s*p) (List.replicate (s*p) (ah [48])),.obj e (.cells ⟨[.slice (some ⟨h,0,none⟩) (s*p) (s*p),ah (vy x.max)]⟩ 123 (0,0)),.arr A 123 2 (bj s p c (i-1)++bq s p x i k++[sd s p x i k]).length (aS (g++[.slice (some ⟨bz,0,none⟩) (s*p) (s*p)]) (bj s p c (i-1)++bq s p x i k++[sd s p x i k])).flatten]) ?_ (fun fr bf bg t bh z=>?_)
    ·refine UW (.cut [0,2,3,4,5] (.alt 1 (.fin [6,7,8]) (.alt 6 (.fin [1,7,8]) .stop))) [(1,3)] Z Z kr_ fun R Q d B=>Uc (bkT K 2) U8<|Uh 2 Z<|Us J.m_ U10 om_ (bV L) fl_ fun bi aA=>Vz aA U10 fl_ fun bk ai=>UL B Z ⟨?_, ?_,trivial⟩
     ·refine D.call (fU _ s p om_) Z (.inr dc_) U6 (Qo _) fl_ fun aB aC aE _ ab=>Uc ai.m_ U8 ?_;obtain ⟨h,rfl,rfl⟩:=ab;refine Uu [.slice (some ⟨h,0,none⟩) (s*p:Nat) (s*p:Nat),ah (vy x.max)] U8 ?_
      first | refine UY (j:=2) U12 ?_ | refine UY (j:=1) U12 ?_
      exact Ug [1,2,5,6,8,9,10,19,20] d Z<|G.perm (L':=[.arr (.slice (some ⟨h,0,none⟩) (s*p) (s*p)) 56 1 (s*p) (List.replicate (s*p) (ah [48])),.obj e (.cells ⟨[.slice (some ⟨h,0,none⟩) (s*p) (s*p),ah (vy x.max)]⟩ 123 (0,0)),.arr A 123 2 (bj s p c (i-1)++bq s p x i k++[sd s p x i k]).length (aS (g++[.slice (some ⟨bz,0,none⟩) (s*p) (s*p)]) (bj s p c (i-1)++bq s p x i k++[sd s p x i k])).flatten]) (by first | exact Qo _ | exact List.Perm.swap _ _ _)<|Uq 0 mup (hn_ [1,2,5,6,8,9,10,19,20] Z) ⟨h,trivial,Z,Z⟩
     refine Uc ai.m_ U8<|D.call (fU _ s p om_) Z (.inr dc_) U6 (Qo _) fl_ (fun aB aC aE _ ab=>?_);obtain ⟨h,rfl,rfl⟩:=ab;refine Uu [.slice (some ⟨h,0,none⟩) (s*p:Nat) (s*p:Nat),ah (vy x.max)] U8 ?_
     first | refine UY (j:=2) U12 ?_ | refine UY (j:=1) U12 ?_
     exact Ug [1,2,5,6,8,9,10,19,20] d Z<|G.perm (L':=[.arr (.slice (some ⟨h,0,none⟩) (s*p) (s*p)) 56 1 (s*p) (List.replicate (s*p) (ah [48])),.obj e (.cells ⟨[.slice (some ⟨h,0,none⟩) (s*p) (s*p),ah (vy x.max)]⟩ 123 (0,0)),.arr A 123 2 (bj s p c (i-1)++bq s p x i k++[sd s p x i k]).length (aS (g++[.slice (some ⟨bz,0,none⟩) (s*p) (s*p)]) (bj s p c (i-1)++bq s p x i k++[sd s p x i k])).flatten]) (by first | exact Qo _ | exact List.Perm.swap _ _ _)<|Uq 0 mup (hn_ [1,2,5,6,8,9,10,19,20] Z) ⟨h,trivial,Z,Z⟩
    obtain ⟨h,_,rfl,rfl⟩:=z;refine G.cut (fun fr C' f t=>(True)/\fr=[(1,[],.slice F c.length c0),(2,[],.pointer (some ⟨H,0,none⟩)),(5,[],A),(6,[],.int .i64 i),(10,[],.pointer (some ⟨e,0,none⟩)),(19,[],.int .i64 p),(20,[],.int .i64 k)]/\f=[.arr (.slice (some ⟨h,0,none⟩) (s*p) (s*p)) 56 1 (s*p) (kZ (s*p) [(i*p+k,1),((i-1)*p+k, -1)]),.obj e (.cells ⟨[.slice (some ⟨h,0,none⟩) (s*p) (s*p),ah (vy x.max)]⟩ 123 (0,0)),.arr A 123 2 (bj s p c (i-1)++bq s p x i k++[sd s p x i k]).length (aS (g++[.slice (some ⟨bz,0,none⟩) (s*p) (s*p)]) (bj s p c (i-1)++bq s p x i k++[sd s p x i k])).flatten]) ?_ (fun fr bl bm t bn z=>?_)
    ·refine UW (.cut [0,1,2,3,5,6] (.alt 4 (.fin [7,8,9]) (.alt 7 (.fin [4,8,9]) .stop))) [] Z Z kr_ fun R Q d B=>Ue U6<|Uj ae U9<|Uh 3 Z<|UI (((i-1)*p+k)) U10 (fun _=>⟨by omega,by omega,(Sd _).symm⟩) U2<|UL B Z ⟨?_, ?_,trivial⟩
     ·refine Uj ae U9<|UK (j:=0) U11 (by simp [];omega)<|UI ((i*p+k)) U10 (fun _=>⟨by omega,by omega,(Sd _).symm⟩) U2<|UK (j:=0) U11 (by simp [aD];omega)<|Ug [1,2,5,6,10,19,20] d Z<|Ut (L':=[.arr (.slice (some ⟨h,0,none⟩) (s*p) (s*p)) 56 1 (s*p) (kZ (s*p) [(i*p+k,1),((i-1)*p+k, -1)]),.obj e (.cells ⟨[.slice (some ⟨h,0,none⟩) (s*p) (s*p),ah (vy x.max)]⟩ 123 (0,0)),.arr A 123 2 (bj s p c (i-1)++bq s p x i k++[sd s p x i k]).length (aS (g++[.slice (some ⟨bz,0,none⟩) (s*p) (s*p)]) (bj s p c (i-1)++bq s p x i k++[sd s p x i k])).flatten]) (by
       first
       | (rw [<- st2 (n:=s*p) (-1) 1 om_ om_,dy,cW];rfl)
       | (rw [<- Px (n:=s*p) (-1) 1 om_ om_ om_,dy,cW];rfl)) ?_
      exact Uq 0 (Mem.le.refl _) (hn_ [1,2,5,6,10,19,20] Z) ⟨trivial,Z,Z⟩
     refine UK (j:=0) U11 (by simp [];omega)<|Uj ae U9<|UI ((i*p+k)) U10 (fun _=>⟨by omega,by omega,(Sd _).symm⟩) U2<|UK (j:=0) U11 (by simp [aD];omega)<|Ug [1,2,5,6,10,19,20] d Z<|Ut (L':=[.arr (.slice (some ⟨h,0,none⟩) (s*p) (s*p)) 56 1 (s*p) (kZ (s*p) [(i*p+k,1),((i-1)*p+k, -1)]),.obj e (.cells ⟨[.slice (some ⟨h,0,none⟩) (s*p) (s*p),ah (vy x.max)]⟩ 123 (0,0)),.arr A 123 2 (bj s p c (i-1)++bq s p x i k++[sd s p x i k]).length (aS (g++[.slice (some ⟨bz,0,none⟩) (s*p) (s*p)]) (bj s p c (i-1)++bq s p x i k++[sd s p x i k])).flatten]) (by
      first
      | (rw [<- st2 (n:=s*p) (-1) 1 om_ om_,dy,cW];rfl)
      | (rw [<- Px (n:=s*p) (-1) 1 om_ om_ om_,dy,cW];rfl)) ?_
     exact Uq 0 (Mem.le.refl _) (hn_ [1,2,5,6,10,19,20] Z) ⟨trivial,Z,Z⟩
    obtain ⟨_,rfl,rfl⟩:=z;refine G.freezeArr 0 ((rL (s*p) [(i*p+k,1),((i-1)*p+k, -1)]).map fw) rfl (jn _ _) (by intro r hr;obtain ⟨y,_,rfl⟩:=Qt.1 hr;rfl) (by simp [jE]) (fun bo bp aF=>?_);have aG:=RowsOk.snoc (r:=GQ s p m i k) aa.m_ aF;have aH:=ft aa.1 (.slice (some ⟨h,0,none⟩) (s*p) (s*p)) (GQ s p m i k);refine Ub 1 Z fun R d=>Uj af U9<|Ux [[.slice (some ⟨h,0,none⟩) (s*p:Nat) (s*p:Nat),ah (vy x.max)]] U12 fun br _ _ aI=>D.append (j:=1) U11 aI Z (by simp only [Qp,PH,maxLen] at ag ⊢;omega) (by simp only [Qp,PH] at ag ⊢;omega) fl_ fun aj=>C4 1 [1,2,5,6,19,20] d Z<|Uf fun R d=>Ul _ U7<|C4 1 [1,2,5,6,19,20] d Z<|UV 1 Z<|Ut (L':=[.arr aj 123 2 (bj s p c (i-1)++bq s p x i (k+1)).length (aS (g++[.slice (some ⟨bz,0,none⟩) (s*p) (s*p)]++[.slice (some ⟨h,0,none⟩) (s*p) (s*p)]) (bj s p c (i-1)++bq s p x i (k+1))).flatten]) (by
     rw [bq,N,<- QO,show ∀ (l:List RowQ)(a b:RowQ),l++[a,b]=l++[a]++[b] from fun l a b=>by simp,aH,az];simp [GQ];omega) ?_
    refine Up (m':=p-(k+1)) om_ mup (hn_ [1,2,5,6,19,20] Z) ⟨k+1,_,aj,⟨by omega,by
     rw [bq,N,<- QO,show ∀ (l:List RowQ)(a b:RowQ),l++[a,b]=l++[a]++[b] from fun l a b=>by simp];exact aG.mono mup⟩,Z,Z,Z⟩
   have hm:x.max=none:=by
    rw [pC] at I;cases aJ:x.max with
    | none=>rfl
    | some q=>rw [aJ] at I;cases I
   have N:kp s p x i k=[sd s p x i k]:=by unfold kp;rw [hm]
   refine Uf fun R d=>Ul _ U7<|C4 1 [1,2,5,6,19,20] d Z<|UV 1 Z<|Ut (L':=[.arr A 123 2 (bj s p c (i-1)++bq s p x i (k+1)).length (aS (g++[.slice (some ⟨bz,0,none⟩) (s*p) (s*p)]) (bj s p c (i-1)++bq s p x i (k+1))).flatten]) (by rw [bq,N,<- QO];rfl)<|Up (m':=p-(k+1)) om_ mup (hn_ [1,2,5,6,19,20] Z) ⟨k+1,_,A,⟨by omega,by
    rw [bq,N,<- QO];exact aa.mono mup⟩,Z,Z,Z⟩
  have ad:k=p:=by
   have:¬ k<p:=by simpa using Y
   omega
  have al:bj s p c (i-1)++bq s p x i k=bj s p c i:=by
   obtain ⟨j,rfl⟩:∃ j,i=j+1:=⟨i-1,by omega⟩;rw [ad,Su,bj,Ls L]
  refine Ub 1 Z fun R d=>Ul _ U7<|C4 1 [1,2,5,6] d Z<|Ut (L':=[.arr o 123 2 (bj s p c (i+1-1)).length (aS g (bj s p c (i+1-1))).flatten]) (by rw [al];rfl)<|Up (m':=c.length-(i+1)) om_ mup (hn_ [1,2,5,6] Z) ⟨i+1,g,o,⟨by omega,.inl om_,by rw [Su,<- al];exact X⟩,Z,Z,Z⟩
 have ac:i-1=c.length-2:=by
  have:=Qm W;omega
 refine Ua 2 [4] Z ?_;rw [ac] at O ⊢;exact G.freezeArr 0 (aS vs (bj s p c (c.length-2))) Z Z (iU _ _) (ep O.1) fun Cg hg aK=>Ui U2<|⟨Z,vs,O.mono mup,aK⟩
end Go.Proofs.YthnpijdjlddpmaaGreatDoor
