/- Laws that the proofs of this seat share, part 9. -/
import Derived.Test.YthnpijdjlddpmaaGreatDoorG8
import Derived.Test.YthnpijdjlddpmaaGreatDoorShelf
set_option maxHeartbeats 4000000
namespace Go.Proofs.YthnpijdjlddpmaaGreatDoor
open Go.Proofs.Tryz
open Go Go.Jog
set_option maxRecDepth 100000
variable {C:Mem}{a b:Nat}{bv:Value}{i:Nat}{l:List Lay}{n:Nat}{v:Value}{vs:List Value}{x:Lay}{z:Int}
def GF (x:Lay):Bool:=match x.max with
 | none=>false
 | some m=>decide (m<x.min)
def LH (pre:List Lay)(x:Lay):Int:=if cV x.unit=false then 8 else if 0<=kA (isU x.unit) pre 0 then 9 else if x.min<0 then 3 else if GF x then 6 else 0
def Ea (l:List Lay):Nat->Int
 | 0=>0
 | n+1=>if Ea l n≠0 then Ea l n else LH (l.take n) (l.getD n ⟨[],0,none⟩)
def tf (l:List Lay):Int:=if l=[] then 13 else if 60<l.length then 4 else Ea l l.length
theorem xz {l:List Lay}{n:Nat}(h:Ea l n≠0):∀ m,n<=m->Ea l m=Ea l n
 | 0,hm=>by rw [show n=0 by omega]
 | m+1,hm=>by
  rcases Rh m n with h1 | h1
  ·rw [show n=m+1 by omega]
  have a:=xz h m h1;simp only [Ea,a];rw [aJ h]
theorem LG (h:l[i]?=some x):l.getD i ⟨[],0,none⟩=x:=by rw [al,h,R0]
theorem Ck (a:Ea l i=0)(b:l[i]?=some x):Ea l (i+1)=LH (l.take i) x:=by
 simp only [Ea,a];rw [aB dc_,LG b]
theorem uU (d:Ea l i=0)(a:l[i]?=some x)(b:LH (l.take i) x=z)(f:z≠0)(g:¬ 60<l.length):tf l=z:=by
 have c:=(aE.1 a).1;have h1:=Ck d a;unfold tf;rw [aB (fun e=>by rw [e] at c;simp at c),aB g,xz (n:=i+1) (by rw [h1,b];exact f) l.length om_,h1,b]
theorem NU (C:Mem)(c:Tabs C)(a:Option Rat)(b:Rat)(d:QB 22 b)(e:∀ q,a=some q->QB 22 q)(h:(!((⟨(vx a).toArray⟩:ByteArray).data.toList == (⟨#[]⟩:ByteArray).data.toList))=true) :
  Gives cx.P 107 [ai (vx a),ai (qtx b)] C (.int .i64 (EF (a.getD 0) b)):=by
 rw [pL] at h;cases a with
 | none=>cases h
 | some q=>exact kR C c q b 22 dc_ dc_ (e q rfl) d
theorem BQ (x:Lay):(x.max.isSome && decide (EF (x.max.getD 0) x.min<0))=GF x:=by
 unfold GF;cases x.max with
 | none=>rfl
 | some q =>
  show (true && decide (EF q x.min<0))=decide (q<x.min);unfold EF;by_cases h:q<x.min
  ·simp [h]
  rw [aB h,Q8 h];split <;> rfl
theorem ur (q:Rat):decide (eX q.num<0)=decide (q<0):=by
 rw [Rv,<- Bm];rcases eB q.num with h | h | h <;> omega
theorem qK (C:Mem)(y:Tabs C)(v:Value)(l:List Lay)(k:Sl C 3 v (l.map zj))(F:∀ x∈l,Oj x)(S:l.length<=1000000):Gives cx.P 68 [v] C (.int .i64 (tf l)):=by
 obtain ⟨A,c0,rfl,H,T,_⟩:=id k;have U:maxLen<=9223372036854775807:=by simp [maxLen]
 simp only [aw] at k H ⊢;refine Uv func68 57 U3 fun w0=>Ul 1 [0] Z<|Ul 4 [0,6] Z<|Uo (fun n=>?_) fun n=>?_
 ·have h0:l=[]:=by
   have h:((l.length:Nat):Int)=0:=by simpa using n
   exact Rn om_
  exact Ul 1 [2] Z<|Ut U2<|⟨by rw [h0];rfl,Z⟩
 have h0:l≠[]:=by
  intro e;rw [e] at n;exact absurd n dc_
 refine Ul 4 [0,10] Z<|Uo (fun o=>?_) fun o=>?_
 ·have h60:60<l.length:=by
   simp only [QQ] at o;omega
  exact Ul 1 [2] Z<|Ut U2<|⟨by unfold tf;rw [aB h0,aJ h60],Z⟩
 have h60:¬ 60<l.length:=by
  simp only [Q1] at o;omega
 refine Ul 3 [0,14,15,16] Z<|G.loop (fun fr C' I J=>∃ (i:Nat),(i<=l.length/\Ea l i=0)/\fr=[(0,[],.slice A l.length c0),(14,[],.slice A l.length c0),(15,[],.int .i64 l.length),(16,[],.int .i64 i)]/\I=[]/\J=l.length-i) (hn_ [0,14,15,16] Z) ⟨0,⟨QK _,Z⟩,Z,Z,Z⟩ (fun fr V W m K L=>?_);obtain ⟨i,⟨X,b⟩,rfl,rfl,rfl⟩:=L;refine Ul 1 [0,14,15,16,17] Z<|Uo (fun p=>?_) fun p=>?_
 ·have q:i<l.length:=by simpa using p
  obtain ⟨x,c⟩:∃ x,l[i]?=some x:=⟨l[i],aj q⟩;obtain ⟨r,B,M⟩:=F x (QF c);have D:=Sl.sub k (l:=0) (h:=i) (m:=c0) (QK _) ap om_ (QG _);rw [RQ,<- Tn] at D;refine Um 1 Z fun R a=>UD k.m_ U10 om_ (ci c) fl_ fun Y N=>Un N U8<|UH U5 fun b4=>Up U6<|Ux (j:=0) U12<|Ur [0,3,4,14,15,16] a Z<|Uq fun R a=>Uu af U9<|Uy (J1 _ y.m_ x ⟨r,B,M⟩) U7<|C4 1 [0,3,4,5,14,15,16] a Z<|Ul 2 [0,3,4,5,14,15,16,24] Z<|Uo (fun E=>?_) fun E=>?_
  ·exact absurd E dc_
  refine Um 1 Z fun R a=>Uu af U9<|UC (iu _ x.unit om_) U7 fl_<|C4 2 [0,3,4,14,15,16,26] a Z<|Uo (fun s=>?_) fun s=>?_
  ·have d:cV x.unit=false:=by simpa using s
   exact Ul 1 [2] Z<|Ut U2<|⟨by rw [uU (z:=8) b c (by unfold LH;rw [aJ d]) dc_ h60],Z⟩
  have d:¬ cV x.unit=false:=by
   have h:cV x.unit=true:=by simpa using s
   rw [h];decide
  refine UJ [0,1,2,3,4,5,6,7] [(5,1)] Z kr_ fun R hB a=>Us 2 Z<|Vf 0 i c0 U12 (fun _=>⟨.inl ⟨Z,Z⟩,.inr ⟨_,Z⟩,.inl ⟨Z,Z⟩,by omega,by omega,by omega⟩) U2<|Up U6<|Uu af U9<|UU (fun _=>(Cl _ _ (l.take i) x.unit D.m_)) U9<|C4 2 [0,4,14,15,16,31] a Z<|Uo (fun t=>?_) fun t=>?_
  ·have f:0<=kA (isU x.unit) (l.take i) 0:=by simpa using t
   exact Ul 1 [2] Z<|Ut U2<|⟨by rw [uU (z:=9) b c (by unfold LH;rw [aB d,aJ f]) dc_ h60],Z⟩
  have f:¬ 0<=kA (isU x.unit) (l.take i) 0:=by simpa using t
  refine Um 1 Z fun R a=>Uu af U9<|Uy (fW _ x.min (Dp r)) U7<|C4 2 [0,4,14,15,16,39] a Z<|Uo (fun g=>?_) fun g=>?_
  ·have hs:x.min<0:=by
    rw [ur] at g;exact aW g
   exact Ul 1 [2] Z<|Ut U2<|⟨by rw [uU (z:=3) b c (by unfold LH;rw [aB d,aB f,aJ hs]) dc_ h60],Z⟩
  have hs:¬ x.min<0:=by
   rw [ur] at g;exact QJ g
  refine Um 1 Z fun R a=>Uu af U9<|Us 3 Z<|Uu af U9<|Up U6<|Uu af U9<|UK (fun O=>(NU _ y.m_ x.max x.min r B (by exact O.1))) U9<|Up U6<|UM U8<|C4 1 [0,14,15,16,44] a Z<|Uo (fun u=>?_) fun u=>?_
  ·have w:GF x=true:=by
    rw [<- BQ,<- pL];exact u
   exact Ul 1 [2] Z<|Ut U2<|⟨by rw [uU (z:=6) b c (by unfold LH;rw [aB d,aB f,aB hs,aJ w]) dc_ h60],Z⟩
  have w:GF x=false:=by
   rw [<- BQ,<- pL];exact u
  have Q:Ea l (i+1)=0:=by rw [Ck b c];unfold LH;rw [aB d,aB f,aB hs,w];rfl
  refine Uq fun R a=>Uw _ U7<|C4 1 [0,14,15,16] a Z<|G.dropAll<|UA (m':=l.length-(i+1)) om_ K (hn_ [0,14,15,16] Z) ⟨i+1,⟨by omega,Q⟩,Z,Z,Z⟩
 have q:i=l.length:=by
  have:¬ i<l.length:=by simpa using p
  omega
 refine Ul 1 [2] Z<|Ut U2<|⟨?_,Z⟩;rw [q] at b;unfold tf;rw [aB h0,aB h60,b]
theorem zy (C:Mem)(f:Tabs C)(v:Value)(l:List Lay)(u:Str)(c:Sl C 3 v (l.map zj))(g:∀ x∈l,Oj x)(a:tf l=0)(i:Nat)(j:kA (isU u) l 0=(i:Nat)):Gives cx.P 197 [v,ai u] C (.tuple #[.int .i64 (i:Nat),.bool true,.int .i64 0]):=by
 have k:l.length<=1000000:=by
  unfold tf at a;split at a
  ·cases a
  split at a
  ·cases a
  omega
 refine Uv func197 20 U3 fun w0=>Ul 3 [0,1] Z<|Um 1 Z fun R b=>UC (by have h:=qK _ f.m_ v l c.m_ g k;rw [a] at h;exact h) U7 fl_<|C4 1 [0,1,7] b Z<|Ul 2 [0,1,7,12] Z<|Uo (fun d=>?_) fun d=>?_
 ·exact absurd d dc_
 refine Um 2 Z fun R b=>UC (by have h:=Cl _ v l u c.m_;rw [j] at h;exact h) U7 fl_<|C4 1 [8] b Z<|Ul 2 [8,18] Z<|Uo (fun e=>?_) fun e=>?_
 ·refine Ul 4 [4,5,6] Z<|Uz (G.dropAll (Vl U4 ?_));exact ⟨Z,Z⟩
 exfalso;simp only [Q1] at e;omega
structure Obs where
 kind:Int
 name:Str
 x:Str
 y:Str
 depth:Str
 upper:Str
 lower:Str
 nx:Str
 ny:Str
 nz:Str
def Ik (o:Obs):List Value:=[.int .i64 o.kind,ai o.name,ai o.x,ai o.y,ai o.depth,ai o.upper,ai o.lower,ai o.nx,ai o.ny,ai o.nz]
structure ObsR (o:Obs):Prop where
 name:o.name.length<=999998
 x:o.x.length<=999998
 y:o.y.length<=999998
 depth:o.depth.length<=999998
 upper:o.upper.length<=999998
 lower:o.lower.length<=999998
 nx:o.nx.length<=999998
 ny:o.ny.length<=999998
 nz:o.nz.length<=999998
def kV (o:Obs):Bool:=(!cV o.name || !cV o.upper) || ((!(o.kind == 1)) && !cV o.lower)
def lO (o:Obs):Bool:=(!(aX o.x && aX o.y) || ((o.kind == 2) && !aX o.depth)) || ((o.kind == 3) && !(aX o.nx && aX o.ny && aX o.nz))
def kZ (o:Obs):Bool:=(((o.kind == 1) && !(o.lower == [])) || ((!(o.kind == 2)) && !(o.depth == []))) || ((!(o.kind == 3)) && !(decide (o.nx=[]/\o.ny=[]/\o.nz=[])))
def dR (o:Obs):Int:=if o.kind<1∨3<o.kind then 12 else if kV o then 8 else if lO o then 2 else if kZ o then 7 else 0
theorem nil3 (a b c:Str):(!((a == []) && ((b == []) && ((c == []) && true))))=!decide (a=[]/\b=[]/\c=[]):=by
 cases a <;> cases b <;> cases c <;> rfl
theorem HJ (b:Bool):(qM b != 0)=!b:=by cases b <;> rfl
theorem I5 (C:Mem)(h:Tabs C)(o:Obs)(b:ObsR o):Gives cx.P 108 [.agg ⟨Ik o⟩] C (.int .i64 (dR o)):=by
 have h1:=b.name;have h2:=b.upper;have h3:=b.lower;refine Uv func108 87 U3 fun w0=>Uq fun R c=>UF U6 fun m=>C4 1 [1] c Z<|G.freeze 0 Z fun _ _ a=>Um 1 Z fun R c=>Un (bkT a 1) U8<|Us 3 Z<|UQ U6 (fun _=>PtrTo.blockT (Mem.get a mup) _ 1) U3<|Up U6<|US U8<|Ur [1,10] c Z<|Uo (fun i=>?_) fun i=>?_
 ·have d:o.kind<1∨3<o.kind:=by simpa using i
  exact Ul 1 [2] Z<|Ut U2<|⟨by unfold dR;rw [aJ d],Z⟩
 have d:¬ (o.kind<1∨3<o.kind):=by simpa using i
 refine Um 1 Z fun R c=>Un (bkT a 1) U8<|UC (iu _ o.name om_) U7 fl_<|Us 3 Z<|UQ U6 (fun _=>PtrTo.blockT (Mem.get a mup) _ 1) U3<|UK (fun _=>(iu _ o.upper om_)) U9<|Up U6<|US U8<|Us 2 Z<|UQ U6 (fun _=>PtrTo.blockT (Mem.get a mup) _ 1) U3<|Us 3 Z<|UQ U6 (fun _=>PtrTo.blockT (Mem.get a mup) _ 1) U3<|UK (fun _=>(iu _ o.lower om_)) U9<|Up U6<|UM U8<|US U8<|Ur [1,31] c Z<|Uo (fun j=>?_) fun j=>?_
 ·have e:kV o=true:=j;exact Ul 1 [2] Z<|Ut U2<|⟨by unfold dR;rw [aB d,aJ e],Z⟩
 have e:¬ kV o=true:=by rw [show kV o=false from j];decide
 refine Um 1 Z fun R c=>Un (bkT a 2) U8<|Uy (iG _ h.m_ o.x o.y b.x b.y) U7<|Us 3 Z<|UQ U6 (fun _=>PtrTo.blockT (Mem.get a mup) _ 1) U3<|Us 3 Z<|UQ U6 (fun _=>PtrTo.blockT (Mem.get a mup) _ 1) U3<|UU (fun _=>(dY _ h.m_ o.depth b.depth)) U9<|Up U6<|UM U8<|US U8<|Us 2 Z<|UQ U6 (fun _=>PtrTo.blockT (Mem.get a mup) _ 1) U3<|Us 3 Z<|UQ U6 (fun _=>PtrTo.blockT (Mem.get a mup) _ 3) U3<|UU (fun _=>(rI _ h.m_ o.nx o.ny o.nz b.nx b.ny b.nz)) U9<|Up U6<|UM U8<|US U8<|Ur [1,57] c Z<|Uo (fun f=>?_) fun f=>?_
 ·have g:lO o=true:=by
   simp only [HJ] at f;exact f
  exact Ul 1 [2] Z<|Ut U2<|⟨by unfold dR;rw [aB d,aB e,aJ g],Z⟩
 have g:¬ lO o=true:=by
  simp only [HJ] at f;rw [show lO o=false from f];decide
 refine Um 1 Z fun R c=>Un (bkT a 1) U8<|Us 3 Z<|UQ U6 (fun _=>PtrTo.blockT (Mem.get a mup) _ 1) U3<|Up U6<|UM U8<|Us 2 Z<|UQ U6 (fun _=>PtrTo.blockT (Mem.get a mup) _ 1) U3<|Us 3 Z<|UQ U6 (fun _=>PtrTo.blockT (Mem.get a mup) _ 1) U3<|Up U6<|UM U8<|US U8<|Us 2 Z<|UQ U6 (fun _=>PtrTo.blockT (Mem.get a mup) _ 1) U3<|Us 3 Z<|UQ U6 (fun _=>PtrTo.blockT (Mem.get a mup) _ 3) U3<|UG [ai [],ai [],ai []] U8<|WK (!decide (o.nx=[]/\o.ny=[]/\o.nz=[])) kr_ Z Z Z Z Z Z Z Z (fun _=>(nil3 o.nx o.ny o.nz)) Z Z<|UM U8<|US U8<|Ur [86] c Z<|Uo (fun k=>?_) fun k=>?_
 ·have l:kZ o=true:=k;exact Ul 1 [2] Z<|Ut U2<|⟨by unfold dR;rw [aB d,aB e,aB g,aJ l],Z⟩
 have l:¬ kZ o=true:=by rw [show kZ o=false from k];decide
 exact Ul 1 [2] Z<|Ut U2<|⟨by unfold dR;rw [aB d,aB e,aB g,aB l],Z⟩
noncomputable def dC (s:Str):Rat:=if h:aX s=true then (FH h).choose else 0
theorem dL {s:Str}(h:aX s=true):s=qtx (dC s)/\QB 23 (dC s):=by
 unfold dC;rw [dif_pos h];exact (FH h).choose_spec
theorem di {q:Rat}(h:aX (qtx q)=true):dC (qtx q)=q:=(iM (dL h).1).symm
noncomputable def ptO (o:Obs):Pt:=(dC o.x,dC o.y)
noncomputable def Il (pts:List Pt)(tris:List Tri)(o:Obs):Bool:=decide (lS pts tris (ptO o)≠[])
def Mk (col:List Lay)(o:Obs):Bool:=decide (kA (isU o.upper) col 0<0) || ((!(o.kind == 1)) && decide (kA (isU o.lower) col 0<0))
def M8 (col:List Lay)(o:Obs):Bool:=(!(o.kind == 1)) && decide (kA (isU o.upper) col 0<=kA (isU o.lower) col 0)
noncomputable def Kt (o:Obs):Bool:=(o.kind == 2) && decide (dC o.depth<0)
def Lb (o:Obs):Bool:=(o.kind == 3) && decide (o.nz=[48])
noncomputable def gM (pts:List Pt)(tris:List Tri)(col:List Lay)(o:Obs):Int :=
 if dR o≠0 then dR o else if Il pts tris o=false then 28 else if Mk col o then 10 else if M8 col o then 6 else if Kt o then 3 else if Lb o then 17 else 0
theorem rV {o:Obs}(h:dR o=0):aX o.x=true/\aX o.y=true/\(o.kind=2->aX o.depth=true):=by
 unfold dR at h;split at h
 ·cases h
 split at h
 ·cases h
 split at h
 ·cases h
 rename_i b;have a:lO o=false:=by simpa using b
 unfold lO at a;rw [Sq,Sq] at a;obtain ⟨⟨h1,h2⟩,_⟩:=a;have h3:(aX o.x && aX o.y)=true:=by simpa using h1
 rw [QT] at h3;refine ⟨h3.1,h3.2,fun c=>?_⟩;rw [c] at h2;simpa using h2
theorem O0 {o:Obs}(h:dR o=0):ptV (ptO o)=.agg ⟨[ai o.x,ai o.y]⟩/\QP 23 (ptO o)/\PtR (ptO o):=by
 obtain ⟨h1,h2,_⟩:=rV h;obtain ⟨a,c⟩:=dL h1;obtain ⟨b,d⟩:=dL h2;refine ⟨?_,⟨c,d⟩, ?_, ?_⟩
 ·unfold ptV gw ptO;rw [<- a,<- b]
 ·unfold ptO;rw [<- a];exact h1
 unfold ptO;rw [<- b];exact h2
theorem dU {k:Int}(h:(k == z)=true):k=z:=by simpa using h
theorem IY (C:Mem)(s:Str)(h:aX s=true)(a:s.length<=999998):Gives cx.P 58 [ai s] C (.int .i64 (eX (dC s).num)):=by
 have e:=(dL h).1;have h2:=fW C (dC s) (by have:=a;exact Q0 (bG (dL h).2 dc_) dc_)
 rwa [<- e] at h2
theorem M7 (C:Mem)(u:Tabs C)(v w:Value)(d:List Pt)(f:List Tri)(b:List Lay)(o:Obs)(x:MeshIn C v d f)(A:Good d f)(y:Sl C 3 w (b.map zj))(z:ObsR o) :
  Gives cx.P 69 [v,w,.agg ⟨Ik o⟩] C (.int .i64 (gM d f b o)):=by
 have B:=x;obtain ⟨L,M,rfl,h1,h2⟩:=id x.ex;refine Uv func69 79 U3 fun w0=>Uq fun R a=>UF U6 fun N=>UF U6 fun O=>C4 1 [1,3,5] a Z<|G.freeze 1 Z fun _ _ D=>G.freeze 0 Z fun E _ c=>Uq fun R a=>Un (bkT c 10) U8<|Uy (I5 _ u.m_ o z) U7<|C4 1 [1,3,5,7] a Z<|Ul 2 [1,3,5,7,15] Z<|Uo (fun m=>?_) fun m=>?_
 ·have hs:dR o≠0:=by
   intro e;rw [e] at m;exact absurd m dc_
  exact Ul 2 [6] Z<|Ut U2<|⟨by unfold gM;rw [aJ hs],Z⟩
 have hs:dR o=0:=by simpa using m
 have i:¬ dR o≠0:=fun h=>h hs;obtain ⟨F,H,I⟩:=O0 hs;have J:=(rV hs).2.2;refine Uq fun R a=>Un (PtrTo.block (Mem.get D mup) _) U8<|Up U6<|Un (bkT c 2) U8<|UC (by have h:=qJ E u.m_ _ d f (ptO o) B.m_ A H I;rw [F] at h;exact h) U7 fl_<|C4 5 [1,5,8,9] a Z<|Um 5 Z fun R a=>US U8<|Ur [1,5,29] a Z<|Uo (fun p=>?_) fun p=>?_
 ·have g:Il d f o=false:=by
   have h:(!Il d f o)=true:=p;simpa using h
  exact Ul 1 [6] Z<|Ut U2<|⟨by unfold gM;rw [aB i,aJ g],Z⟩
 have g:¬ Il d f o=false:=by
  have h:(!Il d f o)=false:=p;have h2:Il d f o=true:=by simpa using h
  rw [h2];decide
 refine UJ [0,1,2,3,4,5,6,7,8,9] [(3,1),(7,1)] Z kr_ fun R Q a=>Us 2 Z<|Un (bkT c 1) U8<|UU (fun _=>(kp _ _ b o.upper y.m_)) U9<|Us 2 Z<|Un (bkT c 1) U8<|UU (fun _=>(kp _ _ b o.lower y.m_)) U9<|C4 2 [5,10,11] a Z<|Um 4 Z fun R a=>UQ U6 (fun _=>PtrTo.blockT (Mem.get c mup) _ 1) U3<|Us 4 Z<|UM U8<|US U8<|C4 1 [5,10,11,38] a Z<|Uo (fun q=>?_) fun q=>?_
 ·have j:Mk b o=true:=q;exact Ul 1 [6] Z<|Ut U2<|⟨by unfold gM;rw [aB i,aB g,aJ j],Z⟩
 have j:¬ Mk b o=true:=by rw [show Mk b o=false from q];decide
 refine Um 1 Z fun R a=>Un (bkT c 1) U8<|Us 5 Z<|UM U8<|C4 1 [5,50] a Z<|Uo (fun r=>?_) fun r=>?_
 ·have k:M8 b o=true:=r;exact Ul 1 [6] Z<|Ut U2<|⟨by unfold gM;rw [aB i,aB g,aB j,aJ k],Z⟩
 have k:¬ M8 b o=true:=by rw [show M8 b o=false from r];decide
 refine Um 1 Z fun R a=>Un (bkT c 1) U8<|Us 3 Z<|UQ U6 (fun _=>PtrTo.blockT (Mem.get c mup) _ 1) U3<|UK (fun K=>(IY _ o.depth (J (by exact dU K.1)) z.depth)) U9<|Up U6<|UM U8<|C4 1 [5,59] a Z<|Uo (fun l=>?_) fun l=>?_
 ·have n:Kt o=true:=by
   rw [ur] at l;exact l
  exact Ul 1 [6] Z<|Ut U2<|⟨by unfold gM;rw [aB i,aB g,aB j,aB k,aJ n],Z⟩
 have n:¬ Kt o=true:=by
  rw [ur] at l;rw [show Kt o=false from l];decide
 refine Um 1 Z fun R a=>Un (bkT c 1) U8<|Us 4 Z<|UQ U6 (fun _=>PtrTo.blockT (Mem.get c mup) _ 1) U3<|Up U6<|UM U8<|C4 1 [69] a Z<|Uo (fun s=>?_) fun s=>?_
 ·have t:Lb o=true:=by
   unfold Lb;rw [<- IM];exact s
  exact Ul 1 [6] Z<|Ut U2<|⟨by unfold gM;rw [aB i,aB g,aB j,aB k,aB n,aJ t],Z⟩
 have t:¬ Lb o=true:=by
  unfold Lb;rw [<- IM];intro h;rw [show ((o.kind == 3) && ((⟨o.nz.toArray⟩:ByteArray).data.toList == (⟨([48]:Str).toArray⟩:ByteArray).data.toList))=false from s] at h;cases h
 exact Ul 1 [6] Z<|Ut U2<|⟨by unfold gM;rw [aB i,aB g,aB j,aB k,aB n,aB t],Z⟩
structure Bk where
 pts:List Pt
 tris:List Tri
 terr:List Str
 col:List Lay
 obs:List Obs
structure BookIn (C:Mem)(bv:Value)(B:Bk):Prop where
 ex:∃ v1 v2 tv cv ov,bv=.agg ⟨[v1,v2,tv,cv,ov]⟩/\Sl C 2 v1 (B.pts.map gw)/\Sl C 3 v2 (B.tris.map kM)/\Sl C 1 tv (B.terr.map nP)/\Sl C 3 cv (B.col.map zj)/\Sl C 10 ov (B.obs.map Ik)
theorem BookIn.mono {C D:Mem}{b:Value}{B:Bk}(h:BookIn C b B)(a:C.le D):BookIn D b B:=by
 obtain ⟨c,d,e,f,g,h1,h2,h3,h4,h5,i⟩:=h.ex;exact ⟨c,d,e,f,g,h1,h2.mono a,h3.mono a,h4.mono a,h5.mono a,i.mono a⟩
theorem BookIn.m_ {D:Mem}{B:Bk}(h:BookIn C bv B)(a:C.le D:=by exact mup):BookIn D bv B:=BookIn.mono h a
structure BookR (B:Bk):Prop where
 terr:∀ s∈B.terr,s.length<=999998
 col:∀ x∈B.col,Oj x
 lcol:B.col.length<=1000000
 obs:∀ o∈B.obs,ObsR o
noncomputable def obZ (B:Bk)(pre:List Obs)(o:Obs):Int:=if gM B.pts B.tris B.col o≠0 then gM B.pts B.tris B.col o else if o.name∈pre.map Obs.name then 9 else 0
def JL:Obs:=⟨0,[],[],[],[],[],[],[],[],[]⟩
noncomputable def rm (B:Bk):Nat->Int
 | 0=>0
 | n+1=>if rm B n≠0 then rm B n else obZ B (B.obs.take n) (B.obs.getD n JL)
noncomputable def iH (B:Bk):Int:=if BZ B.pts.length B.terr≠0 then BZ B.pts.length B.terr else if tf B.col≠0 then tf B.col else if 100<B.obs.length then 4 else rm B B.obs.length
theorem wK {B:Bk}{n:Nat}(h:rm B n≠0):∀ m,n<=m->rm B m=rm B n
 | 0,hm=>by rw [show n=0 by omega]
 | m+1,hm=>by
  rcases Rh m n with h1 | h1
  ·rw [show n=m+1 by omega]
  have a:=wK h m h1;simp only [rm,a];rw [aJ h]
theorem Pc {l:List Obs}{x:Obs}(h:l[i]?=some x):l.getD i JL=x:=by rw [al,h,R0]
theorem um {B:Bk}{x:Obs}(a:rm B i=0)(b:B.obs[i]?=some x):rm B (i+1)=obZ B (B.obs.take i) x:=by
 simp only [rm,a];rw [aB dc_,Pc b]
theorem Gf {B:Bk}{x:Obs}(c:rm B i=0)(a:B.obs[i]?=some x)(b:obZ B (B.obs.take i) x=z)(d:z≠0):rm B B.obs.length=z:=by
 have e:=(aE.1 a).1;have h1:=um c a;rw [wK (n:=i+1) (by rw [h1,b];exact d) B.obs.length om_,h1,b]
def Gt (l:List Obs):List (Str × Value):=l.map fun o=>(o.name,.bool true)
theorem Gs (l:List Obs)(s:Str):kW (.bool false) false (dq (Gt l) s)=.bool (decide (s∈l.map Obs.name)):=by
 have a:(Gt l).map (·.1)=l.map Obs.name:=by unfold Gt;rw [Ry];rfl
 cases h:dq (Gt l) s with
 | none =>
  have h1:=cH.1 h;rw [a] at h1;rw [Q8 h1];rfl
 | some v =>
  have h1:=fZ h;have h2:=S5 (f:=(·.1)) h1;rw [a] at h2;obtain ⟨o,_,b⟩:=QO.1 h1;cases b
  rw [QZ h2];rfl
theorem JR {l:List Obs}{o:Obs}(h:o.name ∉ l.map Obs.name):fT (Gt l) o.name (.bool true)=Gt (l++[o]):=by
 have a:(Gt l).map (·.1)=l.map Obs.name:=by unfold Gt;rw [Ry];rfl
 rw [jV (by rw [cH,a];exact h)];simp [Gt]
theorem lg (C:Mem)(n:Tabs C)(F:Value)(B:Bk)(L:BookIn C F B)(t:Good B.pts B.tris)(o:BookR B) :
  Gives cx.P 36 [F] C (.int .i64 (iH B)):=by
 obtain ⟨H,I,Y,cv,ov,rfl,h1,h2,h3,h4,h5⟩:=id L.ex;obtain ⟨M,N,rfl,O,aa,_⟩:=id h5;have ab:maxLen<=9223372036854775807:=by simp [maxLen]
 simp only [aw] at h5 O ⊢;have hm:MeshIn C (.agg ⟨[H,I]⟩) B.pts B.tris:=⟨H,I,rfl,h1,h2⟩;refine Uv func36 59 U3 fun w0=>Uq fun R a=>UF U6 fun Q=>C4 1 [1] a Z<|G.freeze 0 Z fun _ _ b=>Um 1 Z fun R a=>Un (bkT b 2) U8<|Uy (jZ _ n.m_ _ B.pts B.tris hm.m_ t) U7<|C4 1 [1,3] a Z<|Ul 2 [1,3,14] Z<|Uo (fun J=>?_) fun J=>?_
 ·exact absurd J dc_
 refine Um 1 Z fun R a=>Un (bkT b 2) U8<|Up U6<|Un (bkT b 1) U8<|Uy (uH _ n.m_ _ _ B.pts B.tris B.terr hm.m_ t h3.m_ o.terr) U7<|C4 1 [1,4] a Z<|Ul 2 [1,4,22] Z<|Uo (fun p=>?_) fun p=>?_
 ·have c:BZ B.pts.length B.terr≠0:=by
   intro e;rw [e] at p;exact absurd p dc_
  exact Ul 2 [2] Z<|Ut U2<|⟨by unfold iH;rw [aJ c],Z⟩
 have c:¬ BZ B.pts.length B.terr≠0:=by
  have h:BZ B.pts.length B.terr=0:=by simpa using p
  exact fun h2=>h2 h
 refine Um 1 Z fun R a=>Un (bkT b 1) U8<|Uy (qK _ n.m_ _ B.col h4.m_ o.col o.lcol) U7<|C4 1 [1,5] a Z<|Ul 2 [1,5,28] Z<|Uo (fun q=>?_) fun q=>?_
 ·have d:tf B.col≠0:=by
   intro e;rw [e] at q;exact absurd q dc_
  exact Ul 2 [2] Z<|Ut U2<|⟨by unfold iH;rw [aB c,aJ d],Z⟩
 have d:¬ tf B.col≠0:=by
  have h:tf B.col=0:=by simpa using q
  exact fun h2=>h2 h
 refine Um 1 Z fun R a=>Un (bkT b 1) U8<|C4 2 [1,33] a Z<|Uo (fun u=>?_) fun u=>?_
 ·have g:100<B.obs.length:=by
   simp only [QQ] at u;omega
  exact Ul 1 [2] Z<|Ut U2<|⟨by unfold iH;rw [aB c,aB d,aJ g],Z⟩
 have g:¬ 100<B.obs.length:=by
  simp only [Q1] at u;omega
 refine Uq fun R a=>D.makeMap keyS Z Z Z Z fl_ fun v=>C4 1 [1,6] a Z<|Um 1 Z fun R a=>Un (bkT b 1) U8<|C4 2 [1,6,36,37,38] a Z<|G.loop (fun fr C' K S=>∃ (i:Nat),(i<=B.obs.length/\rm B i=0)/\fr=[(1,[],.pointer (some ⟨Q,0,none⟩)),(6,[],.map (some v)),(36,[],.slice M B.obs.length N),(37,[],.int .i64 B.obs.length),(38,[],.int .i64 i)]/\K=[.obj v (aR keyS.enc (Gt (B.obs.take i)))]/\S=B.obs.length-i) (hn_ [1,6,36,37,38] Z) ⟨0,⟨QK _,Z⟩,Z,Z,Z⟩ (fun fr ac ad m _ T=>?_);obtain ⟨i,⟨hi,k⟩,rfl,rfl,rfl⟩:=T;refine Ul 1 [1,6,36,37,38,39] Z<|Uo (fun w=>?_) fun w=>?_
 ·have y:i<B.obs.length:=by simpa using w
  obtain ⟨x,f⟩:∃ x,B.obs[i]?=some x:=⟨B.obs[i],aj y⟩;have U:=o.obs x (QF f);have V:B.obs.take (i+1)=B.obs.take i++[x]:=by rw [Q5,f];rfl
  refine Uq fun R a=>UD h5.m_ U10 om_ (ci f) fl_ fun ag W=>Un W U8<|UH U5 fun b8=>Ux (j:=0) U12<|Ur [1,6,8,36,37,38] a Z<|Um 1 Z fun R a=>Un (bkT b 2) U8<|Up U6<|Un (bkT b 1) U8<|Uu af U9<|Uy (M7 _ n.m_ _ _ B.pts B.tris B.col x hm.m_ t h4.m_ U) U7<|C4 1 [1,6,8,9,36,37,38] a Z<|Ul 2 [1,6,8,9,36,37,38,49] Z<|Uo (fun r=>?_) fun r=>?_
  ·have l:gM B.pts B.tris B.col x≠0:=by
    intro e;rw [e] at r;exact absurd r dc_
   have A:=Gf k f (z:=gM B.pts B.tris B.col x) (by unfold obZ;rw [aJ l]) l;exact Ul 2 [2] Z<|Ut U2<|⟨by unfold iH;rw [aB c,aB d,aB g,A],Z⟩
  have l:¬ gM B.pts B.tris B.col x≠0:=by
   have h:gM B.pts B.tris B.col x=0:=by simpa using r
   exact fun h2=>h2 h
  refine Um 2 Z fun R a=>Uu af U9<|VI keyS ae Z Z Z Z Z Z Z Z kr_ Z (Gs (B.obs.take i) x.name) Z Z<|Ur [1,6,8,36,37,38,54] a Z<|Uo (fun E=>?_) fun E=>?_
  ·have s:x.name∈(B.obs.take i).map Obs.name:=aW E;have A:=Gf k f (z:=9) (by unfold obZ;rw [aB l,aJ s]) dc_;exact Ul 1 [2] Z<|Ut U2<|⟨by unfold iH;rw [aB c,aB d,aB g,A],Z⟩
  have s:x.name ∉ (B.obs.take i).map Obs.name:=QJ E;have X:rm B (i+1)=0:=by rw [um k f];unfold obZ;rw [aB l,aB s]
  refine Um 2 Z fun R a=>Uu af U9<|D.mapUpdate keyS (j:=1) Z Z Z Z Z Z Z Z Z Z kr_<|Ur [1,6,36,37,38] a Z<|Uq fun R a=>Uw _ U7<|C4 1 [1,6,36,37,38] a Z<|Ve 1 Z<|UE (L':=[.obj v (aR keyS.enc (Gt (B.obs.take (i+1))))]) (by rw [V,<- JR s];rfl)<|UA (m':=B.obs.length-(i+1)) om_ mup (hn_ [1,6,36,37,38] Z) ⟨i+1,⟨by omega,X⟩,Z,Z,Z⟩
 have y:i=B.obs.length:=by
  have:¬ i<B.obs.length:=by simpa using w
  omega
 refine Ul 1 [2] Z<|Ut U2<|⟨?_,Z⟩;rw [y] at k;unfold iH;rw [aB c,aB d,aB g,k]
theorem mq (C:Mem)(g:Tabs C)(b:Value)(B:Bk)(c:BookIn C b B)(j:Good B.pts B.tris)(k:BookR B)(l:iH B=0)(i:Nat)(n:i<B.obs.length) :
  Gives cx.P 240 [b,.int .i64 i] C (.int .i64 0):=by
 have d:=c;obtain ⟨o,p,q,r,s,rfl,h1,h2,h3,h4,h5⟩:=id c.ex;obtain ⟨t,u,rfl,m,v,_⟩:=id h5;have w:maxLen<=9223372036854775807:=by simp [maxLen]
 simp only [aw] at h5 m d ⊢;refine Uv func240 20 U3 fun w0=>Uq fun R a=>UF U6 fun x=>C4 1 [1,2] a Z<|Uq fun R a=>Uu af U9<|UC (by have h:=lg _ g.m_ _ B d.m_ j k;rw [l] at h;exact h) U7 fl_<|C4 1 [1,2,5] a Z<|Ul 2 [1,2,5,9] Z<|Uo (fun e=>?_) fun e=>?_
 ·exact absurd e dc_
 refine Um 5 Z fun R a=>Uu af U9<|Us 2 Z<|US U8<|Ur [19] a Z<|Uo (fun f=>?_) fun f=>?_
 ·exfalso;simp only [Sr,QQ] at f;omega
 exact Ul 1 [4] Z<|Ut U2<|⟨Z,Z⟩
noncomputable def kK (o:Obs)(z:Rat):Rat:=if o.kind=2 then z-dC o.depth else z
structure ObsAt (o:Obs)(p:Pt):Prop where
 x:o.x=qtx p.1
 y:o.y=qtx p.2
 q:QP 23 p
 r:PtR p
 d:o.kind=2->aX o.depth=true
theorem wM {o:Obs}{p:Pt}(h:ObsAt o p):(.agg ⟨[ai o.x,ai o.y]⟩:Value)=ptV p:=by unfold ptV gw;rw [h.x,h.y]
structure Terr (B:Bk)(fs:List Rat):Prop where
 e:B.terr=fs.map qtx
 l:fs.length=B.pts.length
 q:∀ q∈fs,QB 22 q
theorem OB {B:Bk}{a:List Rat}(h:Terr B a):∀ q∈a,aX (qtx q)=true:=fun q b=>bQ (h.q q b)
theorem GZ (C:Mem)(k:Tabs C)(m:Value)(B:Bk)(i:List Rat)(o:Obs)(p:Pt)(z:Rat)(v:BookIn C m B)(w:Good B.pts B.tris)(b:Terr B i)(c:ObsAt o p)(x:EP B.pts B.tris i p=.tuple #[ai (qtx z),.int .i64 0])(y:QB 22 z) :
  Gives cx.P 241 [m,.agg ⟨Ik o⟩] C (.tuple #[ai (qtx (kK o z)),.int .i64 0]):=by
 obtain ⟨n,s,E,F,H,rfl,h1,h2,h3,h4,h5⟩:=id v.ex;have hm:MeshIn C (.agg ⟨[n,s]⟩) B.pts B.tris:=⟨n,s,rfl,h1,h2⟩;rw [b.e,<- zh] at h3;refine Uv func241 31 U3 fun w0=>Uq fun R a=>UF U6 fun I=>UF U6 fun J=>C4 2 [2,3] a Z<|G.freeze 1 Z fun _ _ t=>G.freeze 0 Z fun u _ j=>Um 1 Z fun R a=>Un (bkT t 2) U8<|Up U6<|Un (bkT t 1) U8<|Up U6<|Un (bkT j 2) U8<|UC (by have h:=Ix u k.m_ _ _ B.pts B.tris i 22 dc_ dc_ hm.m_ w h3.m_ b.l b.q (OB b) p c.q c.r;rw [x,<- wM c] at h;exact h) U7 fl_<|C4 5 [3,6,7] a Z<|Um 4 Z fun R a=>UQ U6 (fun _=>PtrTo.blockT (Mem.get j mup) _ 1) U3<|Up U6<|UM U8<|Ur [3,6,7,24] a Z<|Uo (fun f=>?_) fun f=>?_
 ·have g:o.kind=2:=dU (SC.1 f).2;obtain ⟨A,D⟩:=dL (c.d g);refine Um 2 Z fun R a=>Un (bkT j 1) U8<|UC (by have h:=ep u k.m_ z (dC o.depth) 23 dc_ dc_ (y.le dc_) D;rw [<- A] at h;exact h) U7 fl_<|C4 1 [6,7] a Z<|Ul 4 [4,5] Z<|Uz (G.dropAll (UO U3 ?_));exact ⟨by unfold kK;rw [aJ g],Z⟩
 have g:¬ o.kind=2:=by
  intro e;rw [show ((((0:Int) == 0) && (o.kind == 2))=true) by rw [e];rfl] at f;cases f
 refine Ul 4 [4,5] Z<|Uz (G.dropAll (UO U3 ?_));exact ⟨by unfold kK;rw [aB g],Z⟩
theorem DO (C:Mem)(c:Tabs C)(h:Value)(B:Bk)(d:List Rat)(i:Nat)(o:Obs)(p:Pt)(z:Rat)(b:BookIn C h B)(j:Good B.pts B.tris)(q:BookR B)(r:iH B=0)(s:Terr B d)(k:B.obs[i]?=some o)(t:ObsAt o p)(u:EP B.pts B.tris d p=.tuple #[ai (qtx z),.int .i64 0])(v:QB 22 z)(l:QB 22 (kK o z)) :
  Gives cx.P 193 [h,.int .i64 i] C (.tuple #[ai (qtx (kK o z)),.int .i64 0]):=by
 have e:=b;have w:=(aE.1 k).1;obtain ⟨A,D,E,F,H,rfl,h1,h2,h3,h4,h5⟩:=id b.ex;obtain ⟨I,J,rfl,x,K,_⟩:=id h5;have L:maxLen<=9223372036854775807:=by simp [maxLen]
 simp only [aw] at h5 x e ⊢;refine Uv func193 36 U3 fun w0=>?_;refine Uq fun R a=>?_;refine UF U6 (fun M=>?_);refine C4 2 [1,2] a Z ?_;clear a R;refine G.freeze 0 Z (fun _ _ f=>?_);refine Uq fun R a=>?_;refine Un (bkT f 5) U8 ?_;refine Up U6 ?_;refine Uy (mq _ c.m_ _ B e.m_ j q r i w) U7 ?_;refine C4 1 [1,2,6] a Z ?_;clear a R;refine Ul 2 [1,2,6,13] Z ?_;refine Uo (fun m=>?_) fun m=>?_
 ·exact absurd m dc_
 refine UJ [0,1,2,3,4,5,6,7,8,9,10,11] [(6,1)] Z kr_ (fun R b a=>?_);refine Un (bkT f 5) U8 ?_;refine Up U6 ?_;refine Un (bkT f 1) U8 ?_;refine Up U6 ?_;refine UD h5.m_ U10 om_ (ci k) fl_ (fun N y=>?_);refine Un y U8 ?_;refine UU (fun _=>(GZ _ c.m_ _ B d o p z e.m_ j s t u v)) U9 ?_;refine Us 5 Z ?_;refine Ur [7,8] a Z ?_;clear a b R;refine Um 4 Z fun R a=>?_;refine UU (fun _=>(dY _ c.m_ _ (ua l))) U9 ?_;refine Up U6 ?_;refine UM U8 ?_;refine Ur [7,8,31] a Z ?_;clear a R;refine Uo (fun g=>?_) fun g=>?_
 ·exfalso;rw [xC l] at g;exact absurd g dc_
 refine Ul 2 [7,8,33] Z ?_;refine Uo (fun n=>?_) fun n=>?_
 ·exact absurd n dc_
 refine Ul 3 [4,5] Z ?_;refine Uz (G.dropAll (UO U3 ?_));exact ⟨Z,Z⟩
def vR (lo hi:Int)(n:Nat):List Nat:=(List.range n).filter fun k:Nat=>decide (lo<=(k:Int)/\(k:Int)<hi)
def E3 (col:List Lay)(o:Obs):Int:=if o.kind=1 then kA (isU o.upper) col 0-1 else kA (isU o.lower) col 0
def E4 (col:List Lay)(o:Obs):Int:=if o.kind=1 then kA (isU o.upper) col 0+1 else kA (isU o.upper) col 0
def cI (col:List Lay)(o:Obs):List Nat:=vR (E3 col o) (E4 col o) (col.length-1)
theorem IJ {a b:Int}(j:max a 0<=(i:Int))(l:(i:Int)<=max (max a 0) (min b n))(o:min b (n:Int)<=(i:Int)):(List.range i).filter (fun k:Nat=>decide (a<=(k:Int)))=vR a b n:=by
 unfold vR;have hs:∀ m:Nat,(List.range (i+m)).filter (fun k:Nat=>decide (a<=(k:Int)/\(k:Int)<b/\k<n))=(List.range i).filter (fun k:Nat=>decide (a<=(k:Int)/\(k:Int)<b/\k<n)):=by
  intro m;induction m with
  | zero=>rfl
  | succ m c =>
   rw [show i+(m+1)=i+m+1 by omega,RK,Sh,c,List.filter_cons];rw [aB (by simp only [QQ];omega)];simp
 have f:(List.range i).filter (fun k:Nat=>decide (a<=(k:Int)))=(List.range i).filter (fun k:Nat=>decide (a<=(k:Int)/\(k:Int)<b/\k<n)):=by
  refine List.filter_congr (fun k d=>?_);rw [Q2] at d;rw [Rv];omega
 have g:(List.range n).filter (fun k:Nat=>decide (a<=(k:Int)/\(k:Int)<b))=(List.range n).filter (fun k:Nat=>decide (a<=(k:Int)/\(k:Int)<b/\k<n)):=by
  refine List.filter_congr (fun k d=>?_);rw [Q2] at d;rw [Rv];omega
 rw [f,g];rcases Nat.le_total i n with e | e
 ·obtain ⟨m,rfl⟩:=Nat.exists_eq_add_of_le e;exact (hs m).symm
 have h:∀ m:Nat,(List.range (n+m)).filter (fun k:Nat=>decide (a<=(k:Int)/\(k:Int)<b/\k<n))=(List.range n).filter (fun k:Nat=>decide (a<=(k:Int)/\(k:Int)<b/\k<n)):=by
  intro m;induction m with
  | zero=>rfl
  | succ m c =>
   rw [show n+(m+1)=n+m+1 by omega,RK,Sh,c,List.filter_cons];rw [aB (by simp only [QQ];omega)];simp
 obtain ⟨m,rfl⟩:=Nat.exists_eq_add_of_le e;exact h m
theorem sE {a:Type}(p:a->Bool)(l:List a):-1<=kA p l 0/\kA p l 0<=(l.length:Int):=by
 rcases mY p l with ⟨h,_⟩ | ⟨i,x,h,h2,_⟩
 ·omega
 have:=(aE.1 h2).1;omega
theorem yk (C:Mem)(_ab:Tabs C)(F:Value)(B:Bk)(o:Obs)(q:BookIn C F B)(ac:B.col.length<=1000)(M:B.col≠[]) :
  Pur cx.P 242 [F,.agg ⟨Ik o⟩] C fun u D=>Sl D 1 u ((cI B.col o).map aL):=by
 obtain ⟨v1,v2,tv,cv,ov,rfl,h1,h2,h3,h4,h5⟩:=id q.ex;obtain ⟨A4,c4,rfl,N,ad,_⟩:=id h4;have ae:maxLen<=9223372036854775807:=by simp [maxLen]
 have af:=Ru.2 M;have O:=sE (isU o.lower) B.col;have Q:=sE (isU o.upper) B.col;obtain ⟨lw,H⟩:∃ z,kA (isU o.lower) B.col 0=z:=⟨_,rfl⟩;obtain ⟨up,I⟩:∃ z,kA (isU o.upper) B.col 0=z:=⟨_,rfl⟩;obtain ⟨lo,b⟩:∃ z,E3 B.col o=z:=⟨_,rfl⟩;obtain ⟨c,d⟩:∃ z,E4 B.col o=z:=⟨_,rfl⟩;obtain ⟨n,S⟩:∃ n,B.col.length-1=n:=⟨_,rfl⟩;unfold cI;rw [b,d,S];unfold E3 at b;unfold E4 at d;rw [H] at O b;rw [I] at Q b d;simp only [aw] at h4 N ⊢;have ag:-2<=lo/\lo<=1000:=by rw [<- b];split <;> omega
 have ah:-2<=c/\c<=1001:=by rw [<- d];split <;> omega
 refine Uv func242 43 U3 fun w0=>?_;refine Uq fun R a=>?_;refine UF U6 (fun J=>?_);refine UF U6 (fun b3=>?_);refine C4 1 [2,3] a Z ?_;clear a R;refine G.freeze 1 Z (fun _ _ s=>?_);refine G.freeze 0 Z (fun K _ t=>?_);refine UJ [0,1,2,3,4,5,6,7,8,9,10,11] [(4,1),(9,1)] Z kr_ (fun R q a=>?_);refine Up U6 ?_;refine Un (bkT s 1) U8 ?_;refine Up U6 ?_;refine Un (bkT t 1) U8 ?_;refine UK (fun _=>(by have h:=kp K _ B.col o.lower h4.m_;rw [H] at h;exact h)) U9 ?_;refine Up U6 ?_;refine Un (bkT s 1) U8 ?_;refine Up U6 ?_;refine Un (bkT t 1) U8 ?_;refine UK (fun _=>(by have h:=kp K _ B.col o.upper h4.m_;rw [I] at h;exact h)) U9 ?_;refine Us 2 Z ?_;refine Ur [2,3,5,6] a Z ?_;clear a q R;refine Um 1 Z fun R a=>?_;refine Un (bkT t 1) U8 ?_;refine C4 1 [2,5,6,21] a Z ?_;clear a R;refine G.cut (fun fr C' g v=>(True)/\fr=[(2,[],.pointer (some ⟨J,0,none⟩)),(5,[],.int .i64 lo),(6,[],.int .i64 c)]/\g=[]) ?_ (fun fr _ ai v _ x=>?_)
 ·refine Uo (fun l=>?_) fun l=>?_
  ·have f:o.kind=1:=dU l;rw [aJ f] at b d;subst b d;refine Um 1 Z fun R a=>?_;refine Uw _ U7 ?_;refine Up U6 ?_;refine Uw _ U7 ?_;refine C4 2 [2,5,6] a Z ?_;clear a R;refine UB 0 (Mem.le.refl _) (hn_ [2,5,6] Z) ⟨trivial,Z,Z⟩
  have f:¬ o.kind=1:=by
   intro e;rw [show ((o.kind == 1)=true) by rw [e];rfl] at l;cases l
  rw [aB f] at b d;subst b d;refine UB 0 (Mem.le.refl _) (hn_ [2,5,6] Z) ⟨trivial,Z,Z⟩
 obtain ⟨_,rfl,rfl⟩:=x;refine Ul 1 [2,5,6,7] Z ?_;obtain ⟨p,T⟩:∃ p:Nat,max lo 0=(p:Int):=⟨(max lo 0).toNat,by omega⟩;refine Um 1 Z fun R a=>?_;refine D.max (((p:Nat):Int)) U6 T U2 ?_;refine C4 1 [2,6,7,8] a Z ?_;clear a R;refine G.nilArr 3 1 ?_;refine G.loop (fun fr C' g v=>∃ (i:Nat)(out:List Nat)(w:Value),(max lo 0<=(i:Int)/\(i:Int)<=max (max lo 0) (min c n)/\out=(List.range i).filter (fun k:Nat=>decide (lo<=(k:Int))))/\fr=[(2,[],.pointer (some ⟨J,0,none⟩)),(6,[],.int .i64 c),(7,[],w),(8,[],.int .i64 i)]/\g=[.arr w 3 1 out.length (out.map aL).flatten]/\v=2000-i) (hn_ [2,6,7,8] Z) ⟨p,[],_,⟨by omega,by omega,by
  symm;rw [List.filter_eq_nil_iff];intro k f;rw [Q2] at f;simp only [QQ];omega⟩,rfl,rfl,rfl⟩ (fun fr aj ak m _ x=>?_)
 obtain ⟨i,out,w,⟨U,V,A⟩,rfl,rfl,rfl⟩:=x;refine Um 3 Z fun R a=>?_;refine Un (bkT s 1) U8 ?_;refine Up U6 ?_;refine Uw _ U7 ?_;refine D.min ((min c (n:Int))) Z Z Z Z Z Z om_ Z Z ?_;refine C4 1 [2,6,7,8,35] a Z ?_;clear a R;refine Uo (fun E=>?_) fun E=>?_
 ·have al:(i:Int)<min c (n:Int):=aW E;have an:out.length<=i:=by
   rw [A];exact Q0 (RT _ _) am
  have W:(List.range (i+1)).filter (fun k:Nat=>decide (lo<=(k:Int)))=out++[i]:=by
   rw [RK,Sh,<- A,List.filter_cons,aJ (by simp only [QQ];omega)];rfl
  refine Um 2 Z fun R a=>?_;refine UI [aL i] U12 (fun ao _ _ X=>?_);refine D.append (j:=0) U11 X Z ax (by simp only [aK];omega) fl_ (fun L=>?_);refine C4 1 [2,6,7,8] a Z ?_;clear a R;refine Um 1 Z fun R a=>?_;refine Uw _ U7 ?_;refine C4 1 [2,6,7,8] a Z ?_;clear a R;refine UE (L':=[.arr L 3 1 (out++[i]).length ((out++[i]).map aL).flatten]) (by simp [aL]) ?_;refine UA (m':=2000-(i+1)) om_ mup (hn_ [2,6,7,8] Z) ⟨i+1,out++[i],L,⟨by omega,by omega,W.symm⟩,Z,Z,Z⟩
 have Y:min c (n:Int)<=(i:Int):=by
  have:=QJ E;omega
 refine Ul 2 [4] Z ?_;refine G.freezeArr 0 (out.map aL) rfl rfl (by intro r hr;obtain ⟨y,_,rfl⟩:=QO.1 hr;rfl) am (fun Cg hg aa=>?_);refine Ut U2 ?_;exact ⟨Z,by rw [<- IJ U V Y,<- A];exact aa⟩
theorem vQ (C:Mem)(j:Tabs C)(k:Value)(B:Bk)(i:Nat)(o:Obs)(d:BookIn C k B)(p:Good B.pts B.tris)(q:BookR B)(a:iH B=0)(l:B.obs[i]?=some o) :
  Pur cx.P 194 [k,.int .i64 i] C fun u D=>∃ v,u=.tuple #[v,.int .i64 0]/\Sl D 1 v ((cI B.col o).map aL):=by
 have f:=d;have r:=(aE.1 l).1;have b:tf B.col=0:=by
  unfold iH at a;split at a
  ·rename_i h;exact absurd a h
  split at a
  ·rename_i h;exact absurd a h
  rename_i h;exact Rp h
 have m:B.col≠[]:=by
  intro e;rw [e] at b;exact absurd b dc_
 have s:B.col.length<=1000:=by
  unfold tf at b;rw [aB m] at b;split at b
  ·exact absurd b dc_
  omega
 obtain ⟨y,z,A,E,F,rfl,h1,h2,h3,h4,h5⟩:=id d.ex;obtain ⟨H,I,rfl,t,J,_⟩:=id h5;have K:maxLen<=9223372036854775807:=by simp [maxLen]
 simp only [aw] at h5 t f ⊢;refine Uv func194 20 U3 fun w0=>Uq fun R c=>UF U6 fun L=>C4 2 [1,2] c Z<|G.freeze 0 Z fun _ _ g=>Uq fun R c=>Un (bkT g 5) U8<|Up U6<|Uy (mq _ j.m_ _ B f.m_ p q a i r) U7<|C4 1 [1,2,6] c Z<|Ul 2 [1,2,6,11] Z<|Uo (fun n=>?_) fun n=>?_
 ·exact absurd n dc_
 refine UJ [0,1,2,3,4,5,6,7,8] [] Z kr_ fun R d c=>Un (bkT g 5) U8<|Up U6<|Un (bkT g 1) U8<|Up U6<|UD h5.m_ U10 om_ (ci l) fl_ fun M w=>Un w U8<|UV (yk _ j.m_ _ B o f.m_ s m) U7 fun N _ _ x=>Us 2 Z<|Ur [4,5] c Z ?_;clear c d R;refine Uz (G.dropAll (UO U3 ?_));exact ⟨Z,_,Z,x⟩
theorem Gm (x y:Nat)(a:x<18446744073709551616)(b:y<18446744073709551616)(C:Mem):Gives cx.P 125 [.int .u64 x,.int .u64 y] C (.tuple #[.int .u64 ((x*y / 18446744073709551616:Nat):Int),.int .u64 ((x*y % 18446744073709551616:Nat):Int)]) :=
 Gives.ofCalls kr_ (fun w=>Any.bits_Mul Tryz.mul x y a b w) C
theorem fG {a:Value}{k m:Nat}{b:List Value}(_d:k+m<=n)(c:m<=k)(_e:b.length=n-k) :
  az (List.replicate k a++b) ((List.replicate k a++b).take m) k=List.replicate (k+m) a++b.drop m:=by
 have h1:(List.replicate k a++b).take m=List.replicate m a:=by
  rw [List.take_append_of_le_length (by simpa using c),List.take_replicate,R9 c]
 have h2:(List.replicate k a++b).take k=List.replicate k a:=by
  rw [List.take_append_of_le_length am,List.take_replicate,Nat.min_self]
 have h3:(List.replicate k a++b).drop (k+m)=b.drop m:=by
  rw [Ty,Sc,RX am,SB];congr 1;omega
 unfold az;rw [h1,h2,Sc,h3,List.replicate_append_replicate]
theorem zZ (a:Value)(n:Nat):fq [a] n=List.replicate n a:=by
 rw [de];induction n with
 | zero=>rfl
 | succ n b=>rw [RP,Sa,b,RP];rfl
theorem lP (n:Nat)(a:n<18446744073709551616)(C:Mem):Gives cx.P 125 [.int .u64 (1:Int),.int .u64 n] C (.tuple #[.int .u64 0,.int .u64 n]):=by
 have h:=Gm 1 n om_ a C;have b:1*n / 18446744073709551616=0:=by omega
 have c:1*n % 18446744073709551616=n:=by omega
 rw [b,c] at h;exact h
theorem sa (C:Mem)(v:Value)(n:Nat)(s:Str)(g:Sl C 1 v [[ai s]])(y:n<=1000000):Jog.Fn cx.P 83 [v,.int .i64 n] C [] fun u _z e=>∃ b,u=.slice (some ⟨b,0,none⟩) n n/\e=[.arr u 56 1 n (List.replicate n (ai s))]:=by
 have p:=g;obtain ⟨A,c,rfl,_⟩:=p;refine Uv func83 48 U3 fun w0=>Ul 1 [0,1] Z<|Ul 2 [0,1,10] Z<|Uo (fun h=>?_) fun h=>?_
 ·simp at h;omega
 refine Um 2 Z fun R d=>Vb (c:=1) U8 Z fl_<|Up U6<|Vb (c:=(n:Int)) U8 (by rw [IntKind.wrap_u64];omega) fl_<|UC (lP n om_ _) U7 fl_<|C4 5 [0,5,6] d Z<|Um 5 Z fun R d=>US U8<|Ur [0,6,26] d Z<|Uo (fun i=>?_) fun i=>?_
 ·simp at i;omega
 refine Um 1 Z fun R d=>Vb (c:=(n:Int)) U8 (by rw [IntKind.wrap_i64];omega) fl_<|Vo U9 (QG _) (by show 16*n<=281474976710656;omega) (by simp only [maxLen];omega) fl_ fun a=>C4 1 [0,7] d Z<|Um 2 Z fun R d=>V2 (j:=0) (q:=min 1 n) U12 g U2 (by rw [cC];show 0+min 1 n*1<=n*1;omega) fl_<|C4 1 [7,8] d Z ?_;have r:az (fq [ai []] n) (([[ai s]]:List (List Value)).take (min 1 n)).flatten 0=List.replicate (min 1 n) (ai s)++List.replicate (n-min 1 n) (ai []):=by
  rw [zZ];cases n with
  | zero=>rfl
  | succ n=>rw [show min 1 (n+1)=1 by omega,RP];rfl
 refine UE (L':=[.arr (.slice (some ⟨a,0,none⟩) n n) 56 1 n (List.replicate (min 1 n) (ai s)++List.replicate (n-min 1 n) (ai []))]) (by rw [<- r];rfl)<|G.loop (fun fr C' e t=>∃ (k:Nat),(k<=n/\min 1 n<=k)/\fr=[(7,[],.slice (some ⟨a,0,none⟩) n n),(8,[],.int .i64 k)]/\e=[.arr (.slice (some ⟨a,0,none⟩) n n) 56 1 n (List.replicate k (ai s)++List.replicate (n-k) (ai []))]/\t=n-k) (hn_ [7,8] Z) ⟨min 1 n,⟨Nat.min_le_right _ _,QG _⟩,Z,Z,Z⟩ (fun fr B D m w x=>?_);obtain ⟨k,⟨l,E⟩,rfl,rfl,rfl⟩:=x;refine Ul 4 [7,8,37] Z<|Uo (fun f=>?_) fun f=>?_
 ·simp only [QQ] at f;have o:k<n:=by omega
  have F:1<=k:=by omega
  refine UJ [0,1,2,3,4,5,6,7,8,9] [] Z kr_ fun R H d=>Us 3 Z<|Vf k n n U12 (fun _=>⟨.inr ⟨_,Z⟩,.inl ⟨Z,Z⟩,.inl ⟨Z,Z⟩,l,QG _,QG _⟩) U2<|Us 2 Z<|Vf 0 k n U12 (fun _=>⟨.inl ⟨Z,Z⟩,.inr ⟨_,Z⟩,.inl ⟨Z,Z⟩,QK _,l,QG _⟩) U2 ?_;refine V1 (j:=0) (off:=k) (g0:=a) (dl:=n-k) (dc:=n-k) (sl:=k-0) (sc:=n-0) (q:=min k (n-k)) U8 (by show some (Value.slice (if n=k then some (⟨a,0,none⟩:Addr) else (some (⟨a,0,none⟩:Addr)).map (·.add (k*1))) (n-k) (n-k))=_;rw [aB om_];simp [Addr.add_lit]) (by show some (Value.slice (if n=0 then some (⟨a,0,none⟩:Addr) else (some (⟨a,0,none⟩:Addr)).map (·.add (0*1))) (k-0) (n-0))=_;split <;> simp [Addr.add_lit]) U2 (by simp [nN,ai]) ap fl_ ?_;refine UX (((k+min k (n-k):Nat):Int)) U4 om_ om_ om_ U2<|C4 1 [7,8] d Z<|UE (L':=[.arr (.slice (some ⟨a,0,none⟩) n n) 56 1 n (List.replicate (k+min k (n-k)) (ai s)++List.replicate (n-(k+min k (n-k))) (ai []))]) (by rw [fG (n:=n) om_ (Nat.min_le_left _ _) am,List.drop_replicate,Nat.sub_sub];rfl)<|UA (m':=n-(k+min k (n-k))) om_ w (hn_ [7,8] Z) ⟨k+min k (n-k),⟨by omega,by omega⟩,Z,Z,Z⟩
 simp only [Q1] at f;have o:k=n:=by omega
 subst o;refine Ul 2 [4] Z<|Uz (UZ Z Z ?_);exact ⟨a,Z,by simp⟩
theorem mQ (C:Mem)(v:Value)(n:Nat)(s:Str)(g:Sl C 1 v [[ai s]])(y:n<=1000000):Jog.Fn cx.P 243 [v,.int .i64 n] C [] fun u _z e=>∃ b,u=.slice (some ⟨b,0,none⟩) n n/\e=[.arr u 56 1 n (List.replicate n (ai s))]:=by
 have p:=g;obtain ⟨A,c,rfl,_⟩:=p;refine Uv func243 48 U3 fun w0=>Ul 1 [0,1] Z<|Ul 2 [0,1,10] Z<|Uo (fun h=>?_) fun h=>?_
 ·simp at h;omega
 refine Um 2 Z fun R d=>Vb (c:=1) U8 Z fl_<|Up U6<|Vb (c:=(n:Int)) U8 (by rw [IntKind.wrap_u64];omega) fl_<|UC (lP n om_ _) U7 fl_<|C4 5 [0,5,6] d Z<|Um 5 Z fun R d=>US U8<|Ur [0,6,26] d Z<|Uo (fun i=>?_) fun i=>?_
 ·simp at i;omega
 refine Um 1 Z fun R d=>Vb (c:=(n:Int)) U8 (by rw [IntKind.wrap_i64];omega) fl_<|Vo U9 (QG _) (by show 16*n<=281474976710656;omega) (by simp only [maxLen];omega) fl_ fun a=>C4 1 [0,7] d Z<|Um 2 Z fun R d=>V2 (j:=0) (q:=min 1 n) U12 g U2 (by rw [cC];show 0+min 1 n*1<=n*1;omega) fl_<|C4 1 [7,8] d Z ?_;have r:az (fq [ai []] n) (([[ai s]]:List (List Value)).take (min 1 n)).flatten 0=List.replicate (min 1 n) (ai s)++List.replicate (n-min 1 n) (ai []):=by
  rw [zZ];cases n with
  | zero=>rfl
  | succ n=>rw [show min 1 (n+1)=1 by omega,RP];rfl
 refine UE (L':=[.arr (.slice (some ⟨a,0,none⟩) n n) 56 1 n (List.replicate (min 1 n) (ai s)++List.replicate (n-min 1 n) (ai []))]) (by rw [<- r];rfl)<|G.loop (fun fr C' e t=>∃ (k:Nat),(k<=n/\min 1 n<=k)/\fr=[(7,[],.slice (some ⟨a,0,none⟩) n n),(8,[],.int .i64 k)]/\e=[.arr (.slice (some ⟨a,0,none⟩) n n) 56 1 n (List.replicate k (ai s)++List.replicate (n-k) (ai []))]/\t=n-k) (hn_ [7,8] Z) ⟨min 1 n,⟨Nat.min_le_right _ _,QG _⟩,Z,Z,Z⟩ (fun fr B D m w x=>?_);obtain ⟨k,⟨l,E⟩,rfl,rfl,rfl⟩:=x;refine Ul 4 [7,8,37] Z<|Uo (fun f=>?_) fun f=>?_
 ·simp only [QQ] at f;have o:k<n:=by omega
  have F:1<=k:=by omega
  refine UJ [0,1,2,3,4,5,6,7,8,9] [] Z kr_ fun R H d=>Us 3 Z<|Vf k n n U12 (fun _=>⟨.inr ⟨_,Z⟩,.inl ⟨Z,Z⟩,.inl ⟨Z,Z⟩,l,QG _,QG _⟩) U2<|Us 2 Z<|Vf 0 k n U12 (fun _=>⟨.inl ⟨Z,Z⟩,.inr ⟨_,Z⟩,.inl ⟨Z,Z⟩,QK _,l,QG _⟩) U2 ?_;refine V1 (j:=0) (off:=k) (g0:=a) (dl:=n-k) (dc:=n-k) (sl:=k-0) (sc:=n-0) (q:=min k (n-k)) U8 (by show some (Value.slice (if n=k then some (⟨a,0,none⟩:Addr) else (some (⟨a,0,none⟩:Addr)).map (·.add (k*1))) (n-k) (n-k))=_;rw [aB om_];simp [Addr.add_lit]) (by show some (Value.slice (if n=0 then some (⟨a,0,none⟩:Addr) else (some (⟨a,0,none⟩:Addr)).map (·.add (0*1))) (k-0) (n-0))=_;split <;> simp [Addr.add_lit]) U2 (by simp [nN,ai]) ap fl_ ?_;refine UX (((k+min k (n-k):Nat):Int)) U4 om_ om_ om_ U2<|C4 1 [7,8] d Z<|UE (L':=[.arr (.slice (some ⟨a,0,none⟩) n n) 56 1 n (List.replicate (k+min k (n-k)) (ai s)++List.replicate (n-(k+min k (n-k))) (ai []))]) (by rw [fG (n:=n) om_ (Nat.min_le_left _ _) am,List.drop_replicate,Nat.sub_sub];rfl)<|UA (m':=n-(k+min k (n-k))) om_ w (hn_ [7,8] Z) ⟨k+min k (n-k),⟨by omega,by omega⟩,Z,Z,Z⟩
 simp only [Q1] at f;have o:k=n:=by omega
 subst o;refine Ul 2 [4] Z<|Uz (UZ Z Z ?_);exact ⟨a,Z,by simp⟩
theorem fU (C:Mem)(s p:Nat)(h:s*p<=100000):Jog.Fn cx.P 191 [gE s p] C [] fun u _f c=>∃ b,u=.slice (some ⟨b,0,none⟩) (s*p:Nat) (s*p:Nat)/\c=[.arr u 56 1 (s*p) (List.replicate (s*p) (ai [48]))]:=by
 refine Uv func191 7 U3 fun w0=>Uq fun R a=>UF U6 fun g=>C4 1 [1] a Z<|UN [(3,3)] Z fun R a=>UI [[ai [48]]] U12 fun i _ _ d=>Uu af U9<|UC (lH _ s p om_) U7 fl_<|D.call (sa _ _ (s*p) [48] d.m_ om_) Z (.inr dc_) U6 (QL _) fl_ fun j _ k _ e=>C4 1 [2] a Z ?_;obtain ⟨b,rfl,rfl⟩:=e;refine Ve 1 Z<|Uz (UZ Z Z ?_);exact ⟨b,Z,Z⟩
def ofE (z:Int)(s p:Nat):Int:=if z≠0 then z else if 60<s*p then 4 else 0
def ofS (e:Int)(s p:Nat):Value:=if e=0 then gE s p else gE 0 0
structure BookZ (C:Mem)(bv:Value)(B:Bk)(z:Int):Prop where
 i:BookIn C bv B
 ch:∀ D:Mem,C.le D->Gives cx.P 36 [bv] D (.int .i64 z)
 ne:z=0->B.col≠[]
 lc:B.col.length<=1000
 lp:B.pts.length<=400
theorem BookZ.mono {C D:Mem}{a:Value}{B:Bk}{z:Int}(h:BookZ C a B z)(c:C.le D):BookZ D a B z:=⟨h.i.mono c,fun E d=>h.ch E (fun b o e=>d b o (c b o e)),h.ne,h.lc,h.lp⟩
theorem BookZ.m_ {D:Mem}{B:Bk}(h:BookZ C bv B z)(a:C.le D:=by exact mup):BookZ D bv B z:=BookZ.mono h a
def bs (B:Bk):Nat:=B.col.length-1
def bp (B:Bk):Nat:=B.pts.length
theorem OG {B:Bk}(h:BookZ C bv B z):bs B*bp B<=400000:=by
 have h1:=h.lc;have h2:=h.lp;have:bs B*bp B<=1000*400:=Sy (by unfold bs;omega) (by unfold bp;omega);omega
theorem Pa (C:Mem)(l:Value)(B:Bk)(z:Int)(c:BookZ C l B z):Gives cx.P 64 [l] C (.tuple #[ofS (ofE z (bs B) (bp B)) (bs B) (bp B),.int .i64 (ofE z (bs B) (bp B))]):=by
 obtain ⟨n,o,p,q,r,rfl,h1,h2,h3,h4,h5⟩:=id c.i.ex;obtain ⟨s,t,rfl,u,v,_⟩:=id h1;obtain ⟨w,x,rfl,y,A,_⟩:=id h4;have D:=OG c;have E:=c.lc;have m:=c.ch;have F:maxLen<=9223372036854775807:=by simp [maxLen]
 simp only [aw] at m ⊢;refine Uv func64 26 U3 fun w0=>Uq fun R a=>UF U6 fun H=>UH U5 fun I=>C4 1 [1,2] a Z<|G.freeze 1 Z fun _ _ g=>Uq fun R a=>Un (bkT g 5) U8<|Uy (m _ mup) U7<|C4 1 [1,2,4] a Z<|Ul 2 [1,2,4,9] Z<|Uo (fun f=>?_) fun f=>?_
 ·have b:z≠0:=by
   intro e;rw [e] at f;exact absurd f dc_
  have d:ofE z (bs B) (bp B)=z:=by unfold ofE;rw [aJ b]
  refine Uq fun R a=>UG [.int .i64 0,.int .i64 0] U8<|Up U6<|Ux (j:=0) U12<|C4 1 [2,3] a Z<|Uz (Vw af U5 ?_);exact ⟨by rw [d];unfold ofS;rw [aB b];rfl,Z⟩
 have b:z=0:=by simpa using f
 have J:=Ru.2 (c.ne b);have K:bs B+1=B.col.length:=by unfold bs;omega
 refine Um 1 Z fun R a=>Un (bkT g 1) U8<|Up U6<|UX (((bs B:Nat):Int)) U4 om_ om_ om_ U2<|Us 2 Z<|Un (bkT g 1) U8<|Up U6<|UG [.int .i64 (bs B:Nat),.int .i64 (bp B:Nat)] U8<|UH U5 fun L=>Ux (j:=0) U12<|Ur [2,5] a Z<|Uq fun R a=>Uu af U9<|UC (lH _ (bs B) (bp B) om_) U7 fl_<|C4 1 [2,5,23] a Z<|Uo (fun h=>?_) fun h=>?_
 ·have k:60<bs B*bp B:=by
   have:=aW h;omega
  have d:ofE z (bs B) (bp B)=4:=by unfold ofE;rw [b,aB dc_,aJ k]
  refine Uq fun R a=>UG [.int .i64 0,.int .i64 0] U8<|Ux (j:=1) U12<|C4 1 [2,3] a Z<|Uz (Vw af U5 ?_);exact ⟨by rw [d];rfl,Z⟩
 have k:¬ 60<bs B*bp B:=by
  have:=QJ h;omega
 have d:ofE z (bs B) (bp B)=0:=by unfold ofE;rw [b,aB dc_,aB k]
 refine Uq fun R a=>Uu af U9<|Ux (j:=1) U12<|C4 1 [2,3] a Z<|Uz (Vw af U5 ?_);exact ⟨by rw [d];rfl,Z⟩
theorem KB (C:Mem)(c:Value)(B:Bk)(z:Int)(b:BookZ C c B z):Gives cx.P 35 [c] C (.tuple #[.int .i64 (if ofE z (bs B) (bp B)=0 then ((bs B*bp B:Nat):Int) else 0),.int .i64 (ofE z (bs B) (bp B))]):=by
 have s:=OG b;have g:=b;obtain ⟨k,l,m,n,o,rfl,h1,h2,h3,h4,h5⟩:=id b.i.ex;obtain ⟨e,d⟩:∃ e,ofE z (bs B) (bp B)=e:=⟨_,rfl⟩;have f:∀ D:Mem,C.le D->Gives cx.P 64 [.agg ⟨[k,l,m,n,o]⟩] D (.tuple #[ofS e (bs B) (bp B),.int .i64 e]):=fun D p=>by have h:=Pa D _ B z (g.mono p);rwa [d] at h
 rw [d];have q:ofS e (bs B) (bp B)=.agg ⟨[.int .i64 (if e=0 then ((bs B:Nat):Int) else 0),.int .i64 (if e=0 then ((bp B:Nat):Int) else 0)]⟩:=by unfold ofS gE;split <;> rfl
 have r:∀ D:Mem,Gives cx.P 65 [.agg ⟨[.int .i64 (if e=0 then ((bs B:Nat):Int) else 0),.int .i64 (if e=0 then ((bp B:Nat):Int) else 0)]⟩] D (.int .i64 (if e=0 then ((bs B*bp B:Nat):Int) else 0)):=fun D=>by
  by_cases h:e=0
  ·rw [aJ h,aJ h,aJ h];exact lH D (bs B) (bp B) om_
  rw [aB h,aB h,aB h];exact lH D 0 0 om_
 rw [q] at f;refine Uv func35 14 U3 fun w0=>Uq fun R a=>UF U6 fun t=>C4 2 [1] a Z<|Uq fun R a=>Uu af U9<|Uy (f _ mup) U7<|Us 3 Z<|UH U5 fun u=>Ux (j:=0) U12<|C4 1 [4,5] a Z<|Uq fun R a=>Uu af U9<|Uy (r _) U7<|C4 3 [2,3] a Z<|Uz (G.dropAll (UO U3 ?_));exact ⟨Z,Z⟩
theorem Ql (C:Mem)(a:Value)(B:Bk)(b:BookZ C a B 0)(c:bs B*bp B<=60):Gives cx.P 64 [a] C (.tuple #[gE (bs B) (bp B),.int .i64 0]):=by
 have h:=Pa C a B 0 b;have e:ofE 0 (bs B) (bp B)=0:=by unfold ofE;rw [aB dc_,aB om_]
 rw [e] at h;exact h
def rY (n:Nat)(done:List (Nat × Rat)):List Rat:=(List.range n).map fun j=>(dq done j).getD 0
def lm (n:Nat)(done:List (Nat × Rat)):List Value:=(rY n done).map fun q=>ai (qtx q)
theorem mb (n:Nat):List.replicate n (ai [48])=lm n []:=by
 unfold lm rY;rw [Ry];symm;rw [List.eq_replicate_iff];refine ⟨by simp,fun v a=>?_⟩;obtain ⟨j,_,rfl⟩:=QO.1 a;show ai (qtx 0)=_;rw [qtx_zero]
theorem me (n:Nat)(a:List (Nat × Rat)):(lm n a).length=n:=by simp [lm,rY]
theorem fx (b:List (Nat × Rat))(q:Rat)(h:a<n):az (lm n b) [ai (qtx q)] a=lm n ((a,q)::b):=by
 have g:=me n b;unfold az;refine List.ext_getElem? (fun j=>?_);have f:∀ (d:List (Nat × Rat)),(lm n d)[j]?=if j<n then some (ai (qtx ((dq d j).getD 0))) else none:=fun d=>by
  unfold lm rY;rw [Ry,QI];split
  ·rename_i c;rw [Ro c];rfl
  rename_i c;rw [QS (by simpa using Nat.le_of_not_lt c)];rfl
 rw [f ((a,q)::b)];have e:((lm n b).take a).length=a:=by rw [QW,g];omega
 rcases Nat.lt_trichotomy j a with c | rfl | c
 ·rw [Rb,RF (by rw [e];exact c),Rk,aJ c,f b,aJ om_,aJ om_];simp only [dq];rw [aB om_]
 ·rw [Rb,Rf (by rw [e];exact QG _),e,Td,aJ h];simp [dq]
 rw [Rf (by rw [QM,e];simp;omega),QM,e,List.getElem?_drop];rw [show a+[ai (qtx q)].length+(j-(a+[ai (qtx q)].length))=j by simp;omega,f b];split
 ·simp only [dq];rw [aB om_]
 rfl
theorem wm {d a:List (Nat × Rat)}(h:d.Perm a)(b:(d.map (·.1)).Nodup):rY n d=rY n a:=by
 unfold rY;refine List.map_congr_left (fun j _=>?_);rw [wR h b]
def eK (fm:List (Nat × Rat)):List (Int × Value):=fm.map fun x=>(((x.1:Nat):Int),ai (qtx x.2))
def Ih (p surface:Nat)(sign:Rat)(x:Nat × Rat):Nat × Rat:=(surface*p+x.1,sign*x.2)
theorem mT:QB 1 (-1:Rat):=gg QB_one
theorem yx (C:Mem)(s p a k:Nat)(h:a*p+k<=1000000):Gives cx.P 190 [gE s p,.int .i64 (a:Nat),.int .i64 (k:Nat)] C (.int .i64 ((a*p+k:Nat):Int)):=by
 have e:((a:Nat):Int)*(p:Nat)=((a*p:Nat):Int):=(RG _ _).symm;have h2:=OO C s p (a:Nat) (k:Nat) (by rw [e];omega) om_;rw [e,<- To] at h2;exact h2
def Jc (s p surface:Nat)(fm:List (Nat × Rat))(sign:Rat):List Rat:=rY (s*p) (fm.map (Ih p surface sign))
theorem OR (C:Mem)(J:Tabs C)(s p f b:Nat)(c:List (Nat × Rat))(g o:Rat)(k:Nat)(K:0<k)(hk:k<=1000)(ab:s*p<=100000)(hs:f<s)(A:C b=some (aR keyZ.enc (eK c)))(ac:(c.map (·.1)).Nodup)(ad:∀ x∈c,x.1<p)(ae:∀ x∈c,QB k x.2)(L:QB k g)(ag:QB k o) :
  Pur cx.P 196 [gE s p,.int .i64 f,.map (some b),ai (qtx g),ai (qtx o)] C fun u D=>∃ v,u=.agg ⟨[v,ai (qtx (g*o))]⟩/\Sl D 1 v ((Jc s p f c g).map fe):=by
 have aw:maxLen<=9223372036854775807:=by simp [maxLen]
 have M:(eK c).length=c.length:=by simp [eK]
 have ax:f*p+p<=s*p:=by
  rw [<- Nat.succ_mul];exact Rz _ hs
 have ay:=(c.map (·.1)).length;refine Uv func196 38 U3 fun w0=>Uq fun R l=>UF U6 fun b5=>UH U5 fun z=>Ur [1,2,3,4,5,10] l Z<|G.freeze 1 Z fun _ _ N=>UN [(1,3)] Z fun R l=>Un (bkT N 2) U8<|D.call (fU _ s p ab) Z (.inr dc_) U6 (QL _) fl_ (fun az _ aA _ ah=>?_);obtain ⟨bz,rfl,rfl⟩:=ah;refine Us 2 Z<|UC (dB _ J.m_ g o k K om_ L ag) U7 fl_<|UG [.slice (some ⟨bz,0,none⟩) (s*p:Nat) (s*p:Nat),ai (qtx (g*o))] U8<|UH U5 fun ak=>Ux (j:=0) U12<|Ur [1,2,3,5,10,11] l Z<|G.freeze 0 Z fun _ _ O=>UE (L':=[.arr (.slice (some ⟨bz,0,none⟩) (s*p) (s*p)) 56 1 (s*p) (lm (s*p) []),.obj z (.cells ⟨[.slice none 0 0,ai []]⟩ 123 (0,0))]) (by rw [mb];rfl)<|Um 1 Z fun R l=>WA keyZ (Mem.get A mup) Z Z Z Z Z Z Z fl_ fun E=>Ur [1,3,5,10,11,21] l Z<|G.loop (fun fr C' B μ=>∃ (seen:List Nat),(seen.Nodup/\(∀ j∈seen,j<c.length))/\fr=[(1,[],.int .i64 f),(3,[],ai (qtx g)),(5,[],.pointer (some ⟨b5,0,none⟩)),(10,[],.pointer (some ⟨z,0,none⟩)),(11,[],.pointer (some ⟨ak,0,none⟩)),(21,[],.pointer (some ⟨E,0,none⟩))]/\B=[.obj E (bB b (eK c).length seen),.arr (.slice (some ⟨bz,0,none⟩) (s*p) (s*p)) 56 1 (s*p) (lm (s*p) (seen.reverse.map fun i=>Ih p f g (c.getD i (0,0)))),.obj z (.cells ⟨[.slice none 0 0,ai []]⟩ 123 (0,0))]/\μ=c.length-seen.length) (hn_ [1,3,5,10,11,21] Z) ⟨[],⟨List.nodup_nil,by simp⟩,Z,Z,Z⟩ (fun fr aB aC m _ hI=>?_);obtain ⟨seen,⟨Q,S⟩,rfl,rfl,rfl⟩:=hI;refine Uq fun R l=>WG keyZ (q:=0) (Mem.get A mup) Z Z Z Z Z Z fl_ fun T aD t U=>C4 1 [1,3,5,10,11,21,23] l Z<|Uo (fun w=>?_) fun w=>?_
 ·obtain ⟨aE,j,F,am,rfl⟩:T=true/\∃ j,j<(eK c).length/\j ∉ seen/\t=seen++[j]:=by
   rcases U with ⟨h1,_⟩ | h1
   ·rw [h1] at w;cases w
   exact h1
  rw [M] at F;obtain ⟨⟨n,q⟩,H⟩:∃ x,c[j]?=some x:=⟨c[j],aj F⟩;have V:=QF H;have aF:n<p:=ad _ V;have an:QB k q:=ae _ V;have ao:(eK c)[j]?=some (((n:Nat):Int),ai (qtx q)):=by unfold eK;rw [QI,H];rfl
  have ap:c.getD j (0,0)=(n,q):=by rw [al,H];rfl
  have W:(seen++[j]).Nodup:=by
   rw [Sw];exact ⟨Q,by simp,fun a ha b hb e=>by rw [Q3.1 hb] at e;subst e;exact am ha⟩
  have X:∀ i∈seen++[j],i<c.length:=fun i I=>by
   rcases QX.1 I with h | h
   ·exact S i h
   rw [Q3.1 h];exact F
  have aG:(seen++[j]).length<=c.length:=by
   have:=List.Nodup.length_le_of_subset W (l₂:=List.range c.length) (fun i I=>Q2.2 (X i I));simpa using this
  have aH:(seen++[j]).length=seen.length+1:=by simp
  have aq:f*p+n<s*p:=by omega
  refine Uq fun R l=>WE keyZ (Mem.get A mup) ao af Z Z Z Z Z Z Z<|C4 4 [1,3,5,10,11,12,13,21] l Z<|UJ [0,1,2,3,4,5,6,7,8,9,10] [(5,1),(8,1)] Z kr_ fun R hB l=>Up U6<|Un (bkT O 1) U8<|Un (bkT N 2) U8<|Us 2 Z<|UK (fun _=>(yx _ s p f n om_)) U9<|Us 2 Z<|UK (fun _=>(dB _ J.m_ g q k K om_ L an)) U9<|UR ((f*p+n)) U10 (fun _=>⟨by omega,by omega,(SL _).symm⟩) U2<|UW (j:=1) U11 (by rw [me];simp;omega)<|Ur [1,3,5,10,11,21] l Z<|G.perm (L':=[.obj E (bB b (eK c).length (seen++[j])),.arr (.slice (some ⟨bz,0,none⟩) (s*p) (s*p)) 56 1 (s*p) (lm (s*p) ((seen++[j]).reverse.map fun i=>Ih p f g (c.getD i (0,0)))),.obj z (.cells ⟨[.slice none 0 0,ai []]⟩ 123 (0,0))]) (by
   rw [List.reverse_append,List.reverse_singleton,List.singleton_append,Q9,ap];unfold Ih;rw [<- fx _ _ aq];exact List.Perm.swap _ _ _) ?_
  refine UA (m':=c.length-(seen++[j]).length) om_ mup (hn_ [1,3,5,10,11,21] Z) ⟨seen++[j],⟨W,X⟩,Z,Z,Z⟩
 obtain ⟨aI,rfl,Y⟩:T=false/\t=seen/\∀ j,j<(eK c).length->j∈seen:=by
  rcases U with h1 | ⟨h1,_⟩
  ·exact h1
  rw [h1] at w;cases w
 rw [M] at Y;have aa:(t.reverse.map fun i=>Ih p f g (c.getD i (0,0))).Perm (c.map (Ih p f g)):=by
  have h1:=(wd (d:=((0:Nat),(0:Rat))) Q S Y).map (Ih p f g);rw [Ry] at h1;exact ((List.reverse_perm t).map _).trans h1
 have ar:((c.map (Ih p f g)).map (·.1)).Nodup:=by
  rw [Ry];have e:((·.1) ∘ Ih p f g:Nat × Rat->Nat)=(fun k=>f*p+k) ∘ (·.1):=rfl;rw [e,<- Ry];rw [List.Nodup,List.pairwise_map];exact ac.imp (fun {a b} h=>by omega)
 have au:lm (s*p) (t.reverse.map fun i=>Ih p f g (c.getD i (0,0)))=((Jc s p f c g).map fe).flatten:=by
  unfold Jc lm;rw [wm aa ((aa.map (·.1)).nodup_iff.2 ar)];exact (eC (fun q=>ai (qtx q)) _).symm
 refine Ve 0 Z<|G.freezeArr 0 ((Jc s p f c g).map fe) rfl au (by intro r hr;obtain ⟨y,_,rfl⟩:=QO.1 hr;rfl) (by simp [Jc,rY]) fun Cg hg av=>Uq fun R l=>Un (bkT O 2) U8<|Ux (j:=0) U12<|Ur [10] l Z<|Uz (Vi af U4 ?_);exact ⟨Z,_,Z,av⟩
structure RowQ where
 f:List Rat
 b:Rat
def aU (vs:List Value)(rows:List RowQ):List (List Value):=List.zipWith (fun w (r:RowQ)=>[w,ai (qtx r.b)]) vs rows
def RowsOk (C:Mem)(vs:List Value)(rows:List RowQ):Prop:=vs.length=rows.length/\∀ (i:Nat)(w:Value)(r:RowQ),vs[i]?=some w->rows[i]?=some r->Sl C 1 w (r.f.map fe)
theorem RowsOk.mono {C D:Mem}{a:List Value}{b:List RowQ}(h:RowsOk C a b)(c:C.le D):RowsOk D a b:=⟨h.1,fun i w r h1 h2=>(h.2 i w r h1 h2).mono c⟩
theorem RowsOk.m_ {D:Mem}{a:List RowQ}(h:RowsOk C vs a)(b:C.le D:=by exact mup):RowsOk D vs a:=RowsOk.mono h b
theorem RowsOk.nil (C:Mem):RowsOk C [] []:=⟨rfl,fun i w r h1 _=>by simp at h1⟩
theorem RowsOk.snoc {a:List RowQ}{r:RowQ}(h:RowsOk C vs a)(c:Sl C 1 v (r.f.map fe)):RowsOk C (vs++[v]) (a++[r]):=by
 have h0:=h.1;refine ⟨by simp [h0],fun j w d h1 h2=>?_⟩;rcases Rh j vs.length with e | g
 ·rw [RF e] at h1;rw [RF om_] at h2;exact h.2 j w d h1 h2
 rw [Rf g] at h1;rw [Rf om_,<- h0] at h2;cases b:j-vs.length with
 | zero=>rw [b] at h1 h2;simp at h1 h2;subst h1;subst h2;exact c
 | succ q=>rw [b] at h1;simp at h1
theorem fj {a:List RowQ}(h:vs.length=a.length)(v:Value)(r:RowQ):aU (vs++[v]) (a++[r])=aU vs a++[[v,ai (qtx r.b)]]:=by
 unfold aU;rw [List.zipWith_append h];rfl
theorem dA {a:List RowQ}(h:vs.length=a.length):(aU vs a).length=a.length:=by simp [aU,h]
theorem jg (b:List Value)(c:List RowQ):∀ r∈aU b c,r.length=2:=by
 intro r hr;unfold aU at hr;obtain ⟨i,a⟩:=Sg hr;rw [List.getElem?_zipWith] at a;cases h1:b[i]? <;> cases h2:c[i]? <;> rw [h1,h2] at a <;> simp at a
 subst a;rfl
def RowsIn (C:Mem)(v:Value)(rows:List RowQ):Prop:=∃ vs:List Value,RowsOk C vs rows/\Sl C 2 v (aU vs rows)
theorem RowsIn.mono {C D:Mem}{v:Value}{a:List RowQ}(h:RowsIn C v a)(b:C.le D):RowsIn D v a:=by
 obtain ⟨vs,h1,h2⟩:=h;exact ⟨vs,h1.mono b,h2.mono b⟩
theorem RowsIn.m_ {D:Mem}{a:List RowQ}(h:RowsIn C v a)(b:C.le D:=by exact mup):RowsIn D v a:=RowsIn.mono h b
def sC (s p:Nat)(x:Lay)(i k:Nat):RowQ:=⟨rY (s*p) [(i*p+k, -1),((i-1)*p+k,1)], -x.min⟩
def GX (s p:Nat)(m:Rat)(i k:Nat):RowQ:=⟨rY (s*p) [(i*p+k,1),((i-1)*p+k, -1)],m⟩
def kF (s p:Nat)(x:Lay)(i k:Nat):List RowQ :=
 sC s p x i k::(match x.max with
  | none=>[]
  | some m=>[GX s p m i k])
def bx (s p:Nat)(x:Lay)(i:Nat):Nat->List RowQ
 | 0=>[]
 | k+1=>bx s p x i k++kF s p x i k
def bk (s p:Nat)(col:List Lay):Nat->List RowQ
 | 0=>[]
 | n+1=>bk s p col n++bx s p (col.getD (n+1) ⟨[],0,none⟩) (n+1) p
theorem mN (s p:Nat)(x:Lay)(i:Nat):∀ k,(bx s p x i k).length<=2*k
 | 0=>QG _
 | k+1=>by
  have:=mN s p x i k;have h2:(kF s p x i k).length<=2:=by unfold kF;split <;> simp
  simp only [bx,QM];omega
theorem jK (s p:Nat)(a:List Lay):∀ n,(bk s p a n).length<=2*(n*p)
 | 0=>by simp [bk]
 | n+1=>by
  have:=jK s p a n;have h2:=mN s p (a.getD (n+1) ⟨[],0,none⟩) (n+1) p;simp only [bk,QM,Nat.succ_mul];omega
theorem cU:qtx (-1)=[45,49]:=by
 rw [gl (q:=1) dc_ dc_,dD]
theorem st2 (c d:Rat)(e:a<n)(f:b<n):az (az (List.replicate n (ai [48])) [ai (qtx c)] a) [ai (qtx d)] b=lm n [(b,d),(a,c)]:=by
 rw [mb,fx _ _ e,fx _ _ f]
theorem PS (c d:Rat)(e:a<n)(f:b<n)(g:a≠b):az (az (List.replicate n (ai [48])) [ai (qtx d)] b) [ai (qtx c)] a=lm n [(b,d),(a,c)]:=by
 rw [st2 d c f e];unfold lm;rw [wm (List.Perm.swap _ _ _) (by simp;exact g)]
theorem jA (n:Nat)(d:List (Nat × Rat)):lm n d=((rY n d).map fe).flatten:=(eC (fun q=>ai (qtx q)) _).symm
theorem jP (n:Nat)(d:List (Nat × Rat)):(rY n d).length=n:=by simp [rY]
theorem vN (C:Mem)(_aM:Tabs C)(v:Value)(s p:Nat)(c:List Lay)(J:Sl C 3 v (c.map zj))(hs:s+1=c.length)(aN:s*p<=60)(am:∀ x∈c,Oj x) :
  Pur cx.P 127 [gE s p,v] C fun u D=>RowsIn D u (bk s p c (c.length-2)):=by
 obtain ⟨F,c0,rfl,an,aO,_⟩:=id J;have aP:maxLen<=9223372036854775807:=by simp [maxLen]
 simp only [aw] at J an ⊢;refine Uv func127 81 U3 fun w0=>Uq fun R d=>UF U6 fun H=>C4 1 [1,2] d Z<|G.freeze 0 Z fun _ _ K=>Ul 1 [1,2,5] Z<|Ul 1 [1,2,5,6] Z<|G.nilArr 123 2<|G.loop (fun fr C' f t=>∃ (i:Nat)(vs:List Value)(w:Value),(1<=i/\(i+1<=c.length∨i=1)/\RowsOk C' vs (bk s p c (i-1)))/\fr=[(1,[],.slice F c.length c0),(2,[],.pointer (some ⟨H,0,none⟩)),(5,[],w),(6,[],.int .i64 i)]/\f=[.arr w 123 2 (bk s p c (i-1)).length (aU vs (bk s p c (i-1))).flatten]/\t=c.length-i) (hn_ [1,2,5,6] Z) ⟨1,[],_,⟨QG _,.inr Z,RowsOk.nil _⟩,Z,Z,Z⟩ (fun fr aQ aR m _ z=>?_);obtain ⟨i,vs,w,⟨aS,aT,O⟩,rfl,rfl,rfl⟩:=z;refine Um 1 Z fun R d=>Uw _ U7<|C4 3 [1,2,5,6,15] d Z<|Uo (fun W=>?_) fun W=>?_
 ·have ac:i+1<c.length:=by
   have:=aW W;omega
  obtain ⟨x,L⟩:∃ x,c[i]?=some x:=⟨c[i]'om_,aj om_⟩;obtain ⟨M,aV,aX⟩:=am x (QF L);have aY:=jK s p c (i-1);refine Um 1 Z fun R d=>Un (bkT K 1) U8<|C4 1 [1,2,5,6,19,20] d Z<|UE (L':=[.arr w 123 2 (bk s p c (i-1)++bx s p x i 0).length (aU vs (bk s p c (i-1)++bx s p x i 0)).flatten]) (by simp [bx])<|G.loop (fun fr C' f t=>∃ (k:Nat)(g:List Value)(o:Value),(k<=p/\RowsOk C' g (bk s p c (i-1)++bx s p x i k))/\fr=[(1,[],.slice F c.length c0),(2,[],.pointer (some ⟨H,0,none⟩)),(5,[],o),(6,[],.int .i64 i),(19,[],.int .i64 p),(20,[],.int .i64 k)]/\f=[.arr o 123 2 (bk s p c (i-1)++bx s p x i k).length (aU g (bk s p c (i-1)++bx s p x i k)).flatten]/\t=p-k) (hn_ [1,2,5,6,19,20] Z) ⟨0,vs,w,⟨QK _,by simpa [bx] using O⟩,Z,Z,Z⟩ (fun fr aZ a0 m _ z=>?_);obtain ⟨k,g,o,⟨hk,X⟩,rfl,rfl,rfl⟩:=z;refine Ul 1 [1,2,5,6,19,20,21] Z<|Uo (fun Y=>?_) fun Y=>?_
  ·have ad:k<p:=by simpa using Y
   have a1:i*p+p<=s*p:=by
    rw [<- Nat.succ_mul];exact Rz _ om_
   have a2:(i-1)*p+p=i*p:=by
    rw [<- Nat.succ_mul,show (i-1).succ=i by omega]
   have a3:=mN s p x i k;have a4:(i-1)*p<=60:=by omega
   have ag:(bk s p c (i-1)++bx s p x i k).length<=400:=by
    rw [QM];omega
   refine Ul 2 [1,2,5,6,7,19,20] Z<|UJ [0,1,2,3,4,5,6,7,8,9,10] [(4,1),(8,1)] Z kr_ fun R Q d=>Un (bkT K 2) U8<|Up U6<|UX (((i-1:Nat):Int)) U4 om_ om_ om_ U2<|Up U6<|UK (fun _=>(yx _ s p (i-1) k om_)) U9<|Un (bkT K 2) U8<|Us 2 Z<|UK (fun _=>(yx _ s p i k om_)) U9<|C4 2 [1,2,5,6,8,9,19,20] d Z<|G.cut (fun fr C' f t=>∃ (bz e:Nat),(True)/\fr=[(1,[],.slice F c.length c0),(2,[],.pointer (some ⟨H,0,none⟩)),(5,[],o),(6,[],.int .i64 i),(8,[],.int .i64 ((((i-1)*p+k:Nat)):Int)),(9,[],.int .i64 (((i*p+k:Nat)):Int)),(10,[],.pointer (some ⟨e,0,none⟩)),(19,[],.int .i64 p),(20,[],.int .i64 k)]/\f=[.arr (.slice (some ⟨bz,0,none⟩) (s*p) (s*p)) 56 1 (s*p) (List.replicate (s*p) (ai [48])),.obj e (.cells ⟨[.slice (some ⟨bz,0,none⟩) (s*p) (s*p),ai (qtx (-x.min))]⟩ 123 (0,0)),.arr o 123 2 (bk s p c (i-1)++bx s p x i k).length (aU g (bk s p c (i-1)++bx s p x i k)).flatten]) ?_ (fun fr a5 a6 t a7 z=>?_)
   ·refine Vg (.cut [0,2,3,4,5] (.alt 1 (.fin [6,7,8,9,10]) (.alt 6 (.cut [] (.alt 1 (.fin [7,8,9,10]) (.alt 9 (.fin [1,7,8,10]) .stop))) (.alt 9 (.cut [] (.alt 1 (.fin [6,7,8,10]) (.alt 6 (.fin [1,7,8,10]) .stop))) .stop)))) [(7,1),(1,3)] Z Z kr_ fun R Q d B=>Un (bkT K 2) U8<|Us 2 Z<|UD J.m_ U10 om_ (ci L) fl_ fun a8 ao=>Vz ao U10 fl_ fun a9 S=>UY B Z ⟨?_, ?_, ?_,trivial⟩
    ·refine D.call (fU _ s p om_) Z (.inr dc_) U6 (QL _) fl_ fun T U V _ E=>Un S.m_ U8<|UU (fun _=>(eY _ x.min (Dp M))) U9 ?_;obtain ⟨bz,rfl,rfl⟩:=E;refine UG [.slice (some ⟨bz,0,none⟩) (s*p:Nat) (s*p:Nat),ai (qtx (-x.min))] U8<|UH U5 (fun e=>?_)
     first | refine Vh (j:=0) U12 ?_ | refine Vh (j:=1) U12 ?_
     exact Ur [1,2,5,6,8,9,10,19,20] d Z<|G.perm (L':=[.arr (.slice (some ⟨bz,0,none⟩) (s*p) (s*p)) 56 1 (s*p) (List.replicate (s*p) (ai [48])),.obj e (.cells ⟨[.slice (some ⟨bz,0,none⟩) (s*p) (s*p),ai (qtx (-x.min))]⟩ 123 (0,0)),.arr o 123 2 (bk s p c (i-1)++bx s p x i k).length (aU g (bk s p c (i-1)++bx s p x i k)).flatten]) (by first | exact QL _ | exact List.Perm.swap _ _ _)<|UB 0 mup (hn_ [1,2,5,6,8,9,10,19,20] Z) ⟨bz,e,trivial,Z,Z⟩
    ·refine Un S.m_ U8<|UY B Z ⟨?_, ?_,trivial⟩
     ·refine D.call (fU _ s p om_) Z (.inr dc_) U6 (QL _) fl_ fun T U V _ E=>UU (fun _=>(eY _ x.min (Dp M))) U9 ?_;obtain ⟨bz,rfl,rfl⟩:=E;refine UG [.slice (some ⟨bz,0,none⟩) (s*p:Nat) (s*p:Nat),ai (qtx (-x.min))] U8<|UH U5 (fun e=>?_)
      first | refine Vh (j:=0) U12 ?_ | refine Vh (j:=1) U12 ?_
      exact Ur [1,2,5,6,8,9,10,19,20] d Z<|G.perm (L':=[.arr (.slice (some ⟨bz,0,none⟩) (s*p) (s*p)) 56 1 (s*p) (List.replicate (s*p) (ai [48])),.obj e (.cells ⟨[.slice (some ⟨bz,0,none⟩) (s*p) (s*p),ai (qtx (-x.min))]⟩ 123 (0,0)),.arr o 123 2 (bk s p c (i-1)++bx s p x i k).length (aU g (bk s p c (i-1)++bx s p x i k)).flatten]) (by first | exact QL _ | exact List.Perm.swap _ _ _)<|UB 0 mup (hn_ [1,2,5,6,8,9,10,19,20] Z) ⟨bz,e,trivial,Z,Z⟩
     refine UH U5 fun e=>D.call (fU _ s p om_) Z (.inr dc_) U6 (QL _) fl_ fun T U V _ E=>UU (fun _=>(eY _ x.min (Dp M))) U9 ?_;obtain ⟨bz,rfl,rfl⟩:=E;refine UG [.slice (some ⟨bz,0,none⟩) (s*p:Nat) (s*p:Nat),ai (qtx (-x.min))] U8 ?_
     first | refine Vh (j:=0) U12 ?_ | refine Vh (j:=1) U12 ?_
     exact Ur [1,2,5,6,8,9,10,19,20] d Z<|G.perm (L':=[.arr (.slice (some ⟨bz,0,none⟩) (s*p) (s*p)) 56 1 (s*p) (List.replicate (s*p) (ai [48])),.obj e (.cells ⟨[.slice (some ⟨bz,0,none⟩) (s*p) (s*p),ai (qtx (-x.min))]⟩ 123 (0,0)),.arr o 123 2 (bk s p c (i-1)++bx s p x i k).length (aU g (bk s p c (i-1)++bx s p x i k)).flatten]) (by first | exact QL _ | exact List.Perm.swap _ _ _)<|UB 0 mup (hn_ [1,2,5,6,8,9,10,19,20] Z) ⟨bz,e,trivial,Z,Z⟩
    refine UH U5 fun e=>UY B Z ⟨?_, ?_,trivial⟩
    ·refine D.call (fU _ s p om_) Z (.inr dc_) U6 (QL _) fl_ fun T U V _ E=>Un S.m_ U8<|UU (fun _=>(eY _ x.min (Dp M))) U9 ?_;obtain ⟨bz,rfl,rfl⟩:=E;refine UG [.slice (some ⟨bz,0,none⟩) (s*p:Nat) (s*p:Nat),ai (qtx (-x.min))] U8 ?_
     first | refine Vh (j:=0) U12 ?_ | refine Vh (j:=1) U12 ?_
     exact Ur [1,2,5,6,8,9,10,19,20] d Z<|G.perm (L':=[.arr (.slice (some ⟨bz,0,none⟩) (s*p) (s*p)) 56 1 (s*p) (List.replicate (s*p) (ai [48])),.obj e (.cells ⟨[.slice (some ⟨bz,0,none⟩) (s*p) (s*p),ai (qtx (-x.min))]⟩ 123 (0,0)),.arr o 123 2 (bk s p c (i-1)++bx s p x i k).length (aU g (bk s p c (i-1)++bx s p x i k)).flatten]) (by first | exact QL _ | exact List.Perm.swap _ _ _)<|UB 0 mup (hn_ [1,2,5,6,8,9,10,19,20] Z) ⟨bz,e,trivial,Z,Z⟩
    refine Un S.m_ U8<|D.call (fU _ s p om_) Z (.inr dc_) U6 (QL _) fl_ fun T U V _ E=>UU (fun _=>(eY _ x.min (Dp M))) U9 ?_;obtain ⟨bz,rfl,rfl⟩:=E;refine UG [.slice (some ⟨bz,0,none⟩) (s*p:Nat) (s*p:Nat),ai (qtx (-x.min))] U8 ?_
    first | refine Vh (j:=0) U12 ?_ | refine Vh (j:=1) U12 ?_
    exact Ur [1,2,5,6,8,9,10,19,20] d Z<|G.perm (L':=[.arr (.slice (some ⟨bz,0,none⟩) (s*p) (s*p)) 56 1 (s*p) (List.replicate (s*p) (ai [48])),.obj e (.cells ⟨[.slice (some ⟨bz,0,none⟩) (s*p) (s*p),ai (qtx (-x.min))]⟩ 123 (0,0)),.arr o 123 2 (bk s p c (i-1)++bx s p x i k).length (aU g (bk s p c (i-1)++bx s p x i k)).flatten]) (by first | exact QL _ | exact List.Perm.swap _ _ _)<|UB 0 mup (hn_ [1,2,5,6,8,9,10,19,20] Z) ⟨bz,e,trivial,Z,Z⟩
   obtain ⟨bz,e,_,rfl,rfl⟩:=z;refine G.cut (fun fr C' f t=>(True)/\fr=[(1,[],.slice F c.length c0),(2,[],.pointer (some ⟨H,0,none⟩)),(5,[],o),(6,[],.int .i64 i),(8,[],.int .i64 ((((i-1)*p+k:Nat)):Int)),(9,[],.int .i64 (((i*p+k:Nat)):Int)),(10,[],.pointer (some ⟨e,0,none⟩)),(19,[],.int .i64 p),(20,[],.int .i64 k)]/\f=[.arr (.slice (some ⟨bz,0,none⟩) (s*p) (s*p)) 56 1 (s*p) (lm (s*p) [(i*p+k, -1),((i-1)*p+k,1)]),.obj e (.cells ⟨[.slice (some ⟨bz,0,none⟩) (s*p) (s*p),ai (qtx (-x.min))]⟩ 123 (0,0)),.arr o 123 2 (bk s p c (i-1)++bx s p x i k).length (aU g (bk s p c (i-1)++bx s p x i k)).flatten]) ?_ (fun fr ba bb t bc z=>?_)
   ·refine Vg (.cut [0,1,2,3,5,6] (.alt 4 (.fin [7,8,9]) (.alt 7 (.fin [4,8,9]) .stop))) [] Z Z kr_ fun R Q d B=>Up U6<|Uu ae U9<|Us 3 Z<|UR (((i-1)*p+k)) U10 (fun _=>⟨by omega,by omega,(SL _).symm⟩) U2<|UY B Z ⟨?_, ?_,trivial⟩
    ·refine Uu ae U9<|UW (j:=0) U11 (by simp [];omega)<|UR ((i*p+k)) U10 (fun _=>⟨by omega,by omega,(SL _).symm⟩) U2<|UW (j:=0) U11 (by simp [az];omega)<|Ur [1,2,5,6,8,9,10,19,20] d Z<|UE (L':=[.arr (.slice (some ⟨bz,0,none⟩) (s*p) (s*p)) 56 1 (s*p) (lm (s*p) [(i*p+k, -1),((i-1)*p+k,1)]),.obj e (.cells ⟨[.slice (some ⟨bz,0,none⟩) (s*p) (s*p),ai (qtx (-x.min))]⟩ 123 (0,0)),.arr o 123 2 (bk s p c (i-1)++bx s p x i k).length (aU g (bk s p c (i-1)++bx s p x i k)).flatten]) (by
      first
      | (rw [<- st2 (n:=s*p) 1 (-1) om_ om_,dD,cU];rfl)
      | (rw [<- PS (n:=s*p) 1 (-1) om_ om_ om_,dD,cU];rfl)) ?_
     exact UB 0 (Mem.le.refl _) (hn_ [1,2,5,6,8,9,10,19,20] Z) ⟨trivial,Z,Z⟩
    refine UW (j:=0) U11 (by simp [];omega)<|Uu ae U9<|UR ((i*p+k)) U10 (fun _=>⟨by omega,by omega,(SL _).symm⟩) U2<|UW (j:=0) U11 (by simp [az];omega)<|Ur [1,2,5,6,8,9,10,19,20] d Z<|UE (L':=[.arr (.slice (some ⟨bz,0,none⟩) (s*p) (s*p)) 56 1 (s*p) (lm (s*p) [(i*p+k, -1),((i-1)*p+k,1)]),.obj e (.cells ⟨[.slice (some ⟨bz,0,none⟩) (s*p) (s*p),ai (qtx (-x.min))]⟩ 123 (0,0)),.arr o 123 2 (bk s p c (i-1)++bx s p x i k).length (aU g (bk s p c (i-1)++bx s p x i k)).flatten]) (by
     first
     | (rw [<- st2 (n:=s*p) 1 (-1) om_ om_,dD,cU];rfl)
     | (rw [<- PS (n:=s*p) 1 (-1) om_ om_ om_,dD,cU];rfl)) ?_
    exact UB 0 (Mem.le.refl _) (hn_ [1,2,5,6,8,9,10,19,20] Z) ⟨trivial,Z,Z⟩
   obtain ⟨_,rfl,rfl⟩:=z;refine G.freezeArr 0 ((rY (s*p) [(i*p+k, -1),((i-1)*p+k,1)]).map fe) rfl (jA _ _) (by intro r hr;obtain ⟨y,_,rfl⟩:=QO.1 hr;rfl) (by simp [jP]) (fun Cz hz ap=>?_);have aq:=X.1;have aa:=RowsOk.snoc (r:=sC s p x i k) X.m_ ap;have ar:=fj aq (.slice (some ⟨bz,0,none⟩) (s*p) (s*p)) (sC s p x i k);refine Um 1 Z fun R d=>Uu af U9<|UI [[.slice (some ⟨bz,0,none⟩) (s*p:Nat) (s*p:Nat),ai (qtx (-x.min))]] U12 fun bd _ _ au=>D.append (j:=1) U11 au Z ax (by simp only [aK];omega) fl_ fun A=>C4 1 [1,2,5,6,8,9,10,19,20] d Z<|UE (L':=[.arr A 123 2 (bk s p c (i-1)++bx s p x i k++[sC s p x i k]).length (aU (g++[.slice (some ⟨bz,0,none⟩) (s*p) (s*p)]) (bk s p c (i-1)++bx s p x i k++[sC s p x i k])).flatten,.obj e (.cells ⟨[.slice (some ⟨bz,0,none⟩) (s*p) (s*p),ai (qtx (-x.min))]⟩ 123 (0,0))]) (by rw [ar];simp [sC];omega)<|Um 2 Z fun R d=>UD J.m_ U10 om_ (ci L) fl_ fun be av=>Vz av U10 fl_ fun bf ay=>Un ay U8<|C4 1 [1,2,5,6,8,9,10,19,20,58] d Z<|Uo (fun I=>?_) fun I=>?_
   ·obtain ⟨m,hm⟩:∃ m,x.max=some m:=by
     rw [pL] at I;exact TM.1 I
    have N:kF s p x i k=[sC s p x i k,GX s p m i k]:=by unfold kF;rw [hm]
    have aA:vx x.max=qtx m:=by rw [hm];rfl
    refine G.cut (fun fr C' f t=>∃ (h:Nat),(True)/\fr=[(1,[],.slice F c.length c0),(2,[],.pointer (some ⟨H,0,none⟩)),(5,[],A),(6,[],.int .i64 i),(8,[],.int .i64 ((((i-1)*p+k:Nat)):Int)),(9,[],.int .i64 (((i*p+k:Nat)):Int)),(10,[],.pointer (some ⟨e,0,none⟩)),(19,[],.int .i64 p),(20,[],.int .i64 k)]/\f=[.arr (.slice (some ⟨h,0,none⟩) (s*p) (s*p)) 56 1 (s*p) (List.replicate (s*p) (ai [48])),.obj e (.cells ⟨[.slice (some ⟨h,0,none⟩) (s*p) (s*p),ai (vx x.max)]⟩ 123 (0,0)),.arr A 123 2 (bk s p c (i-1)++bx s p x i k++[sC s p x i k]).length (aU (g++[.slice (some ⟨bz,0,none⟩) (s*p) (s*p)]) (bk s p c (i-1)++bx s p x i k++[sC s p x i k])).flatten]) ?_ (fun fr bg bh t bi z=>?_)
    ·refine Vg (.cut [0,2,3,4,5] (.alt 1 (.fin [6,7,8]) (.alt 6 (.fin [1,7,8]) .stop))) [(1,3)] Z Z kr_ fun R Q d B=>Un (bkT K 2) U8<|Us 2 Z<|UD J.m_ U10 om_ (ci L) fl_ fun bj aB=>Vz aB U10 fl_ fun bl ah=>UY B Z ⟨?_, ?_,trivial⟩
     ·refine D.call (fU _ s p om_) Z (.inr dc_) U6 (QL _) fl_ fun aC aD aE _ ab=>Un ah.m_ U8 ?_;obtain ⟨h,rfl,rfl⟩:=ab;refine UG [.slice (some ⟨h,0,none⟩) (s*p:Nat) (s*p:Nat),ai (vx x.max)] U8 ?_
      first | refine Vh (j:=2) U12 ?_ | refine Vh (j:=1) U12 ?_
      exact Ur [1,2,5,6,8,9,10,19,20] d Z<|G.perm (L':=[.arr (.slice (some ⟨h,0,none⟩) (s*p) (s*p)) 56 1 (s*p) (List.replicate (s*p) (ai [48])),.obj e (.cells ⟨[.slice (some ⟨h,0,none⟩) (s*p) (s*p),ai (vx x.max)]⟩ 123 (0,0)),.arr A 123 2 (bk s p c (i-1)++bx s p x i k++[sC s p x i k]).length (aU (g++[.slice (some ⟨bz,0,none⟩) (s*p) (s*p)]) (bk s p c (i-1)++bx s p x i k++[sC s p x i k])).flatten]) (by first | exact QL _ | exact List.Perm.swap _ _ _)<|UB 0 mup (hn_ [1,2,5,6,8,9,10,19,20] Z) ⟨h,trivial,Z,Z⟩
     refine Un ah.m_ U8<|D.call (fU _ s p om_) Z (.inr dc_) U6 (QL _) fl_ (fun aC aD aE _ ab=>?_);obtain ⟨h,rfl,rfl⟩:=ab;refine UG [.slice (some ⟨h,0,none⟩) (s*p:Nat) (s*p:Nat),ai (vx x.max)] U8 ?_
     first | refine Vh (j:=2) U12 ?_ | refine Vh (j:=1) U12 ?_
     exact Ur [1,2,5,6,8,9,10,19,20] d Z<|G.perm (L':=[.arr (.slice (some ⟨h,0,none⟩) (s*p) (s*p)) 56 1 (s*p) (List.replicate (s*p) (ai [48])),.obj e (.cells ⟨[.slice (some ⟨h,0,none⟩) (s*p) (s*p),ai (vx x.max)]⟩ 123 (0,0)),.arr A 123 2 (bk s p c (i-1)++bx s p x i k++[sC s p x i k]).length (aU (g++[.slice (some ⟨bz,0,none⟩) (s*p) (s*p)]) (bk s p c (i-1)++bx s p x i k++[sC s p x i k])).flatten]) (by first | exact QL _ | exact List.Perm.swap _ _ _)<|UB 0 mup (hn_ [1,2,5,6,8,9,10,19,20] Z) ⟨h,trivial,Z,Z⟩
    obtain ⟨h,_,rfl,rfl⟩:=z;refine G.cut (fun fr C' f t=>(True)/\fr=[(1,[],.slice F c.length c0),(2,[],.pointer (some ⟨H,0,none⟩)),(5,[],A),(6,[],.int .i64 i),(10,[],.pointer (some ⟨e,0,none⟩)),(19,[],.int .i64 p),(20,[],.int .i64 k)]/\f=[.arr (.slice (some ⟨h,0,none⟩) (s*p) (s*p)) 56 1 (s*p) (lm (s*p) [(i*p+k,1),((i-1)*p+k, -1)]),.obj e (.cells ⟨[.slice (some ⟨h,0,none⟩) (s*p) (s*p),ai (vx x.max)]⟩ 123 (0,0)),.arr A 123 2 (bk s p c (i-1)++bx s p x i k++[sC s p x i k]).length (aU (g++[.slice (some ⟨bz,0,none⟩) (s*p) (s*p)]) (bk s p c (i-1)++bx s p x i k++[sC s p x i k])).flatten]) ?_ (fun fr bm bn t bo z=>?_)
    ·refine Vg (.cut [0,1,2,3,5,6] (.alt 4 (.fin [7,8,9]) (.alt 7 (.fin [4,8,9]) .stop))) [] Z Z kr_ fun R Q d B=>Up U6<|Uu ae U9<|Us 3 Z<|UR (((i-1)*p+k)) U10 (fun _=>⟨by omega,by omega,(SL _).symm⟩) U2<|UY B Z ⟨?_, ?_,trivial⟩
     ·refine Uu ae U9<|UW (j:=0) U11 (by simp [];omega)<|UR ((i*p+k)) U10 (fun _=>⟨by omega,by omega,(SL _).symm⟩) U2<|UW (j:=0) U11 (by simp [az];omega)<|Ur [1,2,5,6,10,19,20] d Z<|UE (L':=[.arr (.slice (some ⟨h,0,none⟩) (s*p) (s*p)) 56 1 (s*p) (lm (s*p) [(i*p+k,1),((i-1)*p+k, -1)]),.obj e (.cells ⟨[.slice (some ⟨h,0,none⟩) (s*p) (s*p),ai (vx x.max)]⟩ 123 (0,0)),.arr A 123 2 (bk s p c (i-1)++bx s p x i k++[sC s p x i k]).length (aU (g++[.slice (some ⟨bz,0,none⟩) (s*p) (s*p)]) (bk s p c (i-1)++bx s p x i k++[sC s p x i k])).flatten]) (by
       first
       | (rw [<- st2 (n:=s*p) (-1) 1 om_ om_,dD,cU];rfl)
       | (rw [<- PS (n:=s*p) (-1) 1 om_ om_ om_,dD,cU];rfl)) ?_
      exact UB 0 (Mem.le.refl _) (hn_ [1,2,5,6,10,19,20] Z) ⟨trivial,Z,Z⟩
     refine UW (j:=0) U11 (by simp [];omega)<|Uu ae U9<|UR ((i*p+k)) U10 (fun _=>⟨by omega,by omega,(SL _).symm⟩) U2<|UW (j:=0) U11 (by simp [az];omega)<|Ur [1,2,5,6,10,19,20] d Z<|UE (L':=[.arr (.slice (some ⟨h,0,none⟩) (s*p) (s*p)) 56 1 (s*p) (lm (s*p) [(i*p+k,1),((i-1)*p+k, -1)]),.obj e (.cells ⟨[.slice (some ⟨h,0,none⟩) (s*p) (s*p),ai (vx x.max)]⟩ 123 (0,0)),.arr A 123 2 (bk s p c (i-1)++bx s p x i k++[sC s p x i k]).length (aU (g++[.slice (some ⟨bz,0,none⟩) (s*p) (s*p)]) (bk s p c (i-1)++bx s p x i k++[sC s p x i k])).flatten]) (by
      first
      | (rw [<- st2 (n:=s*p) (-1) 1 om_ om_,dD,cU];rfl)
      | (rw [<- PS (n:=s*p) (-1) 1 om_ om_ om_,dD,cU];rfl)) ?_
     exact UB 0 (Mem.le.refl _) (hn_ [1,2,5,6,10,19,20] Z) ⟨trivial,Z,Z⟩
    obtain ⟨_,rfl,rfl⟩:=z;refine G.freezeArr 0 ((rY (s*p) [(i*p+k,1),((i-1)*p+k, -1)]).map fe) rfl (jA _ _) (by intro r hr;obtain ⟨y,_,rfl⟩:=QO.1 hr;rfl) (by simp [jP]) (fun bp bq aF=>?_);have aG:=RowsOk.snoc (r:=GX s p m i k) aa.m_ aF;have aH:=fj aa.1 (.slice (some ⟨h,0,none⟩) (s*p) (s*p)) (GX s p m i k);refine Um 1 Z fun R d=>Uu af U9<|UI [[.slice (some ⟨h,0,none⟩) (s*p:Nat) (s*p:Nat),ai (vx x.max)]] U12 fun br _ _ aI=>D.append (j:=1) U11 aI Z (by simp only [QM,aK,maxLen] at ag ⊢;omega) (by simp only [QM,aK] at ag ⊢;omega) fl_ fun ak=>C4 1 [1,2,5,6,19,20] d Z<|Uq fun R d=>Uw _ U7<|C4 1 [1,2,5,6,19,20] d Z<|Ve 1 Z<|UE (L':=[.arr ak 123 2 (bk s p c (i-1)++bx s p x i (k+1)).length (aU (g++[.slice (some ⟨bz,0,none⟩) (s*p) (s*p)]++[.slice (some ⟨h,0,none⟩) (s*p) (s*p)]) (bk s p c (i-1)++bx s p x i (k+1))).flatten]) (by
     rw [bx,N,<- Rb,show ∀ (l:List RowQ)(a b:RowQ),l++[a,b]=l++[a]++[b] from fun l a b=>by simp,aH,aA];simp [GX];omega) ?_
    refine UA (m':=p-(k+1)) om_ mup (hn_ [1,2,5,6,19,20] Z) ⟨k+1,_,ak,⟨by omega,by
     rw [bx,N,<- Rb,show ∀ (l:List RowQ)(a b:RowQ),l++[a,b]=l++[a]++[b] from fun l a b=>by simp];exact aG.mono mup⟩,Z,Z,Z⟩
   have hm:x.max=none:=by
    rw [pL] at I;cases aJ:x.max with
    | none=>rfl
    | some q=>rw [aJ] at I;cases I
   have N:kF s p x i k=[sC s p x i k]:=by unfold kF;rw [hm]
   refine Uq fun R d=>Uw _ U7<|C4 1 [1,2,5,6,19,20] d Z<|Ve 1 Z<|UE (L':=[.arr A 123 2 (bk s p c (i-1)++bx s p x i (k+1)).length (aU (g++[.slice (some ⟨bz,0,none⟩) (s*p) (s*p)]) (bk s p c (i-1)++bx s p x i (k+1))).flatten]) (by rw [bx,N,<- Rb];rfl)<|UA (m':=p-(k+1)) om_ mup (hn_ [1,2,5,6,19,20] Z) ⟨k+1,_,A,⟨by omega,by
    rw [bx,N,<- Rb];exact aa.mono mup⟩,Z,Z,Z⟩
  have ad:k=p:=by
   have:¬ k<p:=by simpa using Y
   omega
  have al:bk s p c (i-1)++bx s p x i k=bk s p c i:=by
   obtain ⟨j,rfl⟩:∃ j,i=j+1:=⟨i-1,by omega⟩;rw [ad,SV,bk,LG L]
  refine Um 1 Z fun R d=>Uw _ U7<|C4 1 [1,2,5,6] d Z<|UE (L':=[.arr o 123 2 (bk s p c (i+1-1)).length (aU g (bk s p c (i+1-1))).flatten]) (by rw [al];rfl)<|UA (m':=c.length-(i+1)) om_ mup (hn_ [1,2,5,6] Z) ⟨i+1,g,o,⟨by omega,.inl om_,by rw [SV,<- al];exact X⟩,Z,Z,Z⟩
 have ac:i-1=c.length-2:=by
  have:=QJ W;omega
 refine Ul 2 [4] Z ?_;rw [ac] at O ⊢;exact G.freezeArr 0 (aU vs (bk s p c (c.length-2))) Z Z (jg _ _) (dA O.1) fun Cg hg aL=>Ut U2<|⟨Z,vs,O.mono mup,aL⟩
end Go.Proofs.YthnpijdjlddpmaaGreatDoor
