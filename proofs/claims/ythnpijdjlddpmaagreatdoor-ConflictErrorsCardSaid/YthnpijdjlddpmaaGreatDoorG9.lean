/- Laws that the proofs of this seat share, part 9. -/
import Derived.Test.YthnpijdjlddpmaaGreatDoorG8
import Derived.Test.YthnpijdjlddpmaaGreatDoorShelf
set_option maxHeartbeats 4000000
namespace Go.Proofs.YthnpijdjlddpmaaGreatDoor
open Go.Proofs.Tryz
open Go Go.Jog
set_option maxRecDepth 100000
variable {C:Mem}{a b:Nat}{bv:Value}{i:Nat}{l:List Lay}{n:Nat}{v:Value}{vs:List Value}{x:Lay}{z:Int}
def E3 (x:Lay):Bool:=match x.max with
 | none=>false
 | some m=>decide (m<x.min)
def JL (pre:List Lay)(x:Lay):Int:=if fo x.unit=false then 8 else if 0<=kb (isU x.unit) pre 0 then 9 else if x.min<0 then 3 else if E3 x then 6 else 0
def CA (l:List Lay):Nat->Int
 | 0=>0
 | n+1=>if CA l n≠0 then CA l n else JL (l.take n) (l.getD n ⟨[],0,none⟩)
def ug (l:List Lay):Int:=if l=[] then 13 else if 60<l.length then 4 else CA l l.length
theorem wc {l:List Lay}{n:Nat}(h:CA l n≠0):∀ m,n<=m->CA l m=CA l n
 | 0,hm=>by rw [show n=0 by omega]
 | m+1,hm=>by
  rcases OZ m n with h1 | h1
  ·rw [show n=m+1 by omega]
  have a:=wc h m h1;simp only [CA,a];rw [aI h]
theorem JK (h:l[i]?=some x):l.getD i ⟨[],0,none⟩=x:=by rw [ax,h,Pu]
theorem AG (a:CA l i=0)(b:l[i]?=some x):CA l (i+1)=JL (l.take i) x:=by
 simp only [CA,a];rw [aA dc_,JK b]
theorem tK (d:CA l i=0)(a:l[i]?=some x)(b:JL (l.take i) x=z)(f:z≠0)(g:¬ 60<l.length):ug l=z:=by
 have c:=(aF.1 a).1;have h1:=AG d a;unfold ug;rw [aA (fun e=>by rw [e] at c;simp at c),aA g,wc (n:=i+1) (by rw [h1,b];exact f) l.length om_,h1,b]
theorem LJ (C:Mem)(c:Tabs C)(a:Option Rat)(b:Rat)(d:QB 22 b)(e:∀ q,a=some q->QB 22 q)(h:(!((⟨(uf a).toArray⟩:ByteArray).data.toList == (⟨#[]⟩:ByteArray).data.toList))=true) :
  Gives cx.P 107 [ai (uf a),ai (qtx b)] C (.int .i64 (Df (a.getD 0) b)):=by
 rw [oE] at h;cases a with
 | none=>cases h
 | some q=>exact jV C c q b 22 dc_ dc_ (e q rfl) d
theorem zW (x:Lay):(x.max.isSome && decide (Df (x.max.getD 0) x.min<0))=E3 x:=by
 unfold E3;cases x.max with
 | none=>rfl
 | some q =>
  show (true && decide (Df q x.min<0))=decide (q<x.min);unfold Df;by_cases h:q<x.min
  ·simp [h]
  rw [aA h,OV h];split <;> rfl
theorem sT (q:Rat):decide (eL q.num<0)=decide (q<0):=by
 rw [Pp,<- zu];rcases dT q.num with h | h | h <;> omega
theorem pr (C:Mem)(y:Tabs C)(v:Value)(l:List Lay)(k:Sl C 3 v (l.map xR))(F:∀ x∈l,Mh x)(S:l.length<=1000000):Gives cx.P 68 [v] C (.int .i64 (ug l)):=by
 obtain ⟨A,c0,rfl,H,T,_⟩:=id k;have U:maxLen<=9223372036854775807:=by simp [maxLen]
 simp only [al] at k H ⊢;refine Sc func68 57 U3 fun w0=>C6 1 [0] Z<|C6 4 [0,6] Z<|R6 (fun n=>?_) fun n=>?_
 ·have h0:l=[]:=by
   have h:((l.length:Nat):Int)=0:=by simpa using n
   exact O6 om_
  exact C6 1 [2] Z<|Sb U2<|⟨by rw [h0];rfl,Z⟩
 have h0:l≠[]:=by
  intro e;rw [e] at n;exact absurd n dc_
 refine C6 4 [0,10] Z<|R6 (fun o=>?_) fun o=>?_
 ·have h60:60<l.length:=by
   simp only [Oz] at o;omega
  exact C6 1 [2] Z<|Sb U2<|⟨by unfold ug;rw [aA h0,aI h60],Z⟩
 have h60:¬ 60<l.length:=by
  simp only [OL] at o;omega
 refine C6 3 [0,14,15,16] Z<|G.loop (fun fr C' I J=>∃ (i:Nat),(i<=l.length/\CA l i=0)/\fr=[(0,[],.slice A l.length c0),(14,[],.slice A l.length c0),(15,[],.int .i64 l.length),(16,[],.int .i64 i)]/\I=[]/\J=l.length-i) (hn_ [0,14,15,16] Z) ⟨0,⟨Ow _,Z⟩,Z,Z,Z⟩ (fun fr V W m K L=>?_);obtain ⟨i,⟨X,b⟩,rfl,rfl,rfl⟩:=L;refine C6 1 [0,14,15,16,17] Z<|R6 (fun p=>?_) fun p=>?_
 ·have q:i<l.length:=by simpa using p
  obtain ⟨x,c⟩:∃ x,l[i]?=some x:=⟨l[i],ak q⟩;obtain ⟨r,B,M⟩:=F x (Oq c);have D:=Sl.sub k (l:=0) (h:=i) (m:=c0) (Ow _) ap om_ (Oo _);rw [Pz,<- Rb] at D;refine R4 1 Z fun R a=>Sm k.m_ U10 om_ (bO c) fl_ fun Y N=>R5 N U8<|Sq U5 fun b4=>R7 U6<|Sf (j:=0) U12<|Sa [0,3,4,14,15,16] a Z<|R8 fun R a=>Sd af U9<|Sg (If _ y.m_ x ⟨r,B,M⟩) U7<|C4 1 [0,3,4,5,14,15,16] a Z<|C6 2 [0,3,4,5,14,15,16,24] Z<|R6 (fun E=>?_) fun E=>?_
  ·exact absurd E dc_
  refine R4 1 Z fun R a=>Sd af U9<|Sk (gK _ x.unit om_) U7 fl_<|C4 2 [0,3,4,14,15,16,26] a Z<|R6 (fun s=>?_) fun s=>?_
  ·have d:fo x.unit=false:=by simpa using s
   exact C6 1 [2] Z<|Sb U2<|⟨by rw [tK (z:=8) b c (by unfold JL;rw [aI d]) dc_ h60],Z⟩
  have d:¬ fo x.unit=false:=by
   have h:fo x.unit=true:=by simpa using s
   rw [h];decide
  refine Ss [0,1,2,3,4,5,6,7] [(5,1)] Z kr_ fun R hB a=>R9 2 Z<|SX 0 i c0 U12 (fun _=>⟨.inl ⟨Z,Z⟩,.inr ⟨_,Z⟩,.inl ⟨Z,Z⟩,by omega,by omega,by omega⟩) U2<|R7 U6<|Sd af U9<|SF (fun _=>(AH _ _ (l.take i) x.unit D.m_)) U9<|C4 2 [0,4,14,15,16,31] a Z<|R6 (fun t=>?_) fun t=>?_
  ·have f:0<=kb (isU x.unit) (l.take i) 0:=by simpa using t
   exact C6 1 [2] Z<|Sb U2<|⟨by rw [tK (z:=9) b c (by unfold JL;rw [aA d,aI f]) dc_ h60],Z⟩
  have f:¬ 0<=kb (isU x.unit) (l.take i) 0:=by simpa using t
  refine R4 1 Z fun R a=>Sd af U9<|Sg (jd _ x.min (BE r)) U7<|C4 2 [0,4,14,15,16,39] a Z<|R6 (fun g=>?_) fun g=>?_
  ·have hs:x.min<0:=by
    rw [sT] at g;exact NM g
   exact C6 1 [2] Z<|Sb U2<|⟨by rw [tK (z:=3) b c (by unfold JL;rw [aA d,aA f,aI hs]) dc_ h60],Z⟩
  have hs:¬ x.min<0:=by
   rw [sT] at g;exact Ox g
  refine R4 1 Z fun R a=>Sd af U9<|R9 3 Z<|Sd af U9<|R7 U6<|Sd af U9<|Su (fun O=>(LJ _ y.m_ x.max x.min r B (by exact O.1))) U9<|R7 U6<|Sv U8<|C4 1 [0,14,15,16,44] a Z<|R6 (fun u=>?_) fun u=>?_
  ·have w:E3 x=true:=by
    rw [<- zW,<- oE];exact u
   exact C6 1 [2] Z<|Sb U2<|⟨by rw [tK (z:=6) b c (by unfold JL;rw [aA d,aA f,aA hs,aI w]) dc_ h60],Z⟩
  have w:E3 x=false:=by
   rw [<- zW,<- oE];exact u
  have Q:CA l (i+1)=0:=by rw [AG b c];unfold JL;rw [aA d,aA f,aA hs,w];rfl
  refine R8 fun R a=>Se _ U7<|C4 1 [0,14,15,16] a Z<|G.dropAll<|Sj (m':=l.length-(i+1)) om_ K (hn_ [0,14,15,16] Z) ⟨i+1,⟨by omega,Q⟩,Z,Z,Z⟩
 have q:i=l.length:=by
  have:¬ i<l.length:=by simpa using p
  omega
 refine C6 1 [2] Z<|Sb U2<|⟨?_,Z⟩;rw [q] at b;unfold ug;rw [aA h0,aA h60,b]
theorem ya (C:Mem)(f:Tabs C)(v:Value)(l:List Lay)(u:Str)(c:Sl C 3 v (l.map xR))(g:∀ x∈l,Mh x)(a:ug l=0)(i:Nat)(j:kb (isU u) l 0=(i:Nat)):Gives cx.P 197 [v,ai u] C (.tuple #[.int .i64 (i:Nat),.bool true,.int .i64 0]):=by
 have k:l.length<=1000000:=by
  unfold ug at a;split at a
  ·cases a
  split at a
  ·cases a
  omega
 refine Sc func197 20 U3 fun w0=>C6 3 [0,1] Z<|R4 1 Z fun R b=>Sk (by have h:=pr _ f.m_ v l c.m_ g k;rw [a] at h;exact h) U7 fl_<|C4 1 [0,1,7] b Z<|C6 2 [0,1,7,12] Z<|R6 (fun d=>?_) fun d=>?_
 ·exact absurd d dc_
 refine R4 2 Z fun R b=>Sk (by have h:=AH _ v l u c.m_;rw [j] at h;exact h) U7 fl_<|C4 1 [8] b Z<|C6 2 [8,18] Z<|R6 (fun e=>?_) fun e=>?_
 ·refine C6 4 [4,5,6] Z<|Sh (G.dropAll (S4 U4 ?_));exact ⟨Z,Z⟩
 exfalso;simp only [OL] at e;omega
structure Obs where
 kind:Int
 name:Str
 x:Str
 y:Str
 depth:Str
 upper:Str
 lower:Str
 nx:Str
 ny:Str
 nz:Str
def vS (o:Obs):List Value:=[.int .i64 o.kind,ai o.name,ai o.x,ai o.y,ai o.depth,ai o.upper,ai o.lower,ai o.nx,ai o.ny,ai o.nz]
structure ObsR (o:Obs):Prop where
 name:o.name.length<=999998
 x:o.x.length<=999998
 y:o.y.length<=999998
 depth:o.depth.length<=999998
 upper:o.upper.length<=999998
 lower:o.lower.length<=999998
 nx:o.nx.length<=999998
 ny:o.ny.length<=999998
 nz:o.nz.length<=999998
def sU (o:Obs):Bool:=(!fo o.name || !fo o.upper) || ((!(o.kind == 1)) && !fo o.lower)
def qZ (o:Obs):Bool:=(!(bg o.x && bg o.y) || ((o.kind == 2) && !bg o.depth)) || ((o.kind == 3) && !(bg o.nx && bg o.ny && bg o.nz))
def tt (o:Obs):Bool:=(((o.kind == 1) && !(o.lower == [])) || ((!(o.kind == 2)) && !(o.depth == []))) || ((!(o.kind == 3)) && !(decide (o.nx=[]/\o.ny=[]/\o.nz=[])))
def eK (o:Obs):Int:=if o.kind<1∨3<o.kind then 12 else if sU o then 8 else if qZ o then 2 else if tt o then 7 else 0
theorem nil3 (a b c:Str):(!((a == []) && ((b == []) && ((c == []) && true))))=!decide (a=[]/\b=[]/\c=[]):=by
 cases a <;> cases b <;> cases c <;> rfl
theorem F8 (b:Bool):(pU b != 0)=!b:=by cases b <;> rfl
theorem Ho (C:Mem)(h:Tabs C)(o:Obs)(b:ObsR o):Gives cx.P 108 [.agg ⟨vS o⟩] C (.int .i64 (eK o)):=by
 have h1:=b.name;have h2:=b.upper;have h3:=b.lower;refine Sc func108 87 U3 fun w0=>R8 fun R c=>So U6 fun m=>C4 1 [1] c Z<|G.freeze 0 Z fun _ _ a=>R4 1 Z fun R c=>R5 (bkT a 1) U8<|R9 3 Z<|Sz U6 (fun _=>PtrTo.blockT (Mem.get a mup) _ 1) U3<|R7 U6<|SA U8<|Sa [1,10] c Z<|R6 (fun i=>?_) fun i=>?_
 ·have d:o.kind<1∨3<o.kind:=by simpa using i
  exact C6 1 [2] Z<|Sb U2<|⟨by unfold eK;rw [aI d],Z⟩
 have d:¬ (o.kind<1∨3<o.kind):=by simpa using i
 refine R4 1 Z fun R c=>R5 (bkT a 1) U8<|Sk (gK _ o.name om_) U7 fl_<|R9 3 Z<|Sz U6 (fun _=>PtrTo.blockT (Mem.get a mup) _ 1) U3<|Su (fun _=>(gK _ o.upper om_)) U9<|R7 U6<|SA U8<|R9 2 Z<|Sz U6 (fun _=>PtrTo.blockT (Mem.get a mup) _ 1) U3<|R9 3 Z<|Sz U6 (fun _=>PtrTo.blockT (Mem.get a mup) _ 1) U3<|Su (fun _=>(gK _ o.lower om_)) U9<|R7 U6<|Sv U8<|SA U8<|Sa [1,31] c Z<|R6 (fun j=>?_) fun j=>?_
 ·have e:sU o=true:=j;exact C6 1 [2] Z<|Sb U2<|⟨by unfold eK;rw [aA d,aI e],Z⟩
 have e:¬ sU o=true:=by rw [show sU o=false from j];decide
 refine R4 1 Z fun R c=>R5 (bkT a 2) U8<|Sg (gZ _ h.m_ o.x o.y b.x b.y) U7<|R9 3 Z<|Sz U6 (fun _=>PtrTo.blockT (Mem.get a mup) _ 1) U3<|R9 3 Z<|Sz U6 (fun _=>PtrTo.blockT (Mem.get a mup) _ 1) U3<|SF (fun _=>(dF _ h.m_ o.depth b.depth)) U9<|R7 U6<|Sv U8<|SA U8<|R9 2 Z<|Sz U6 (fun _=>PtrTo.blockT (Mem.get a mup) _ 1) U3<|R9 3 Z<|Sz U6 (fun _=>PtrTo.blockT (Mem.get a mup) _ 3) U3<|SF (fun _=>(qw _ h.m_ o.nx o.ny o.nz b.nx b.ny b.nz)) U9<|R7 U6<|Sv U8<|SA U8<|Sa [1,57] c Z<|R6 (fun f=>?_) fun f=>?_
 ·have g:qZ o=true:=by
   simp only [F8] at f;exact f
  exact C6 1 [2] Z<|Sb U2<|⟨by unfold eK;rw [aA d,aA e,aI g],Z⟩
 have g:¬ qZ o=true:=by
  simp only [F8] at f;rw [show qZ o=false from f];decide
 refine R4 1 Z fun R c=>R5 (bkT a 1) U8<|R9 3 Z<|Sz U6 (fun _=>PtrTo.blockT (Mem.get a mup) _ 1) U3<|R7 U6<|Sv U8<|R9 2 Z<|Sz U6 (fun _=>PtrTo.blockT (Mem.get a mup) _ 1) U3<|R9 3 Z<|Sz U6 (fun _=>PtrTo.blockT (Mem.get a mup) _ 1) U3<|R7 U6<|Sv U8<|SA U8<|R9 2 Z<|Sz U6 (fun _=>PtrTo.blockT (Mem.get a mup) _ 1) U3<|R9 3 Z<|Sz U6 (fun _=>PtrTo.blockT (Mem.get a mup) _ 3) U3<|Sn [ai [],ai [],ai []] U8<|Ux (!decide (o.nx=[]/\o.ny=[]/\o.nz=[])) kr_ Z Z Z Z Z Z Z Z (fun _=>(nil3 o.nx o.ny o.nz)) Z Z<|Sv U8<|SA U8<|Sa [86] c Z<|R6 (fun k=>?_) fun k=>?_
 ·have l:tt o=true:=k;exact C6 1 [2] Z<|Sb U2<|⟨by unfold eK;rw [aA d,aA e,aA g,aI l],Z⟩
 have l:¬ tt o=true:=by rw [show tt o=false from k];decide
 exact C6 1 [2] Z<|Sb U2<|⟨by unfold eK;rw [aA d,aA e,aA g,aA l],Z⟩
noncomputable def dO (s:Str):Rat:=if h:bg s=true then (Jx h).choose else 0
theorem dw {s:Str}(h:bg s=true):s=qtx (dO s)/\QB 23 (dO s):=by
 unfold dO;rw [dif_pos h];exact (Jx h).choose_spec
theorem Ec {q:Rat}(h:bg (qtx q)=true):dO (qtx q)=q:=(mD (dw h).1).symm
noncomputable def ptO (o:Obs):Pt:=(dO o.x,dO o.y)
noncomputable def J0 (pts:List Pt)(tris:List Tri)(o:Obs):Bool:=decide (oP pts tris (ptO o)≠[])
def NC (col:List Lay)(o:Obs):Bool:=decide (kb (isU o.upper) col 0<0) || ((!(o.kind == 1)) && decide (kb (isU o.lower) col 0<0))
def NF (col:List Lay)(o:Obs):Bool:=(!(o.kind == 1)) && decide (kb (isU o.upper) col 0<=kb (isU o.lower) col 0)
noncomputable def Mf (o:Obs):Bool:=(o.kind == 2) && decide (dO o.depth<0)
def Mk (o:Obs):Bool:=(o.kind == 3) && decide (o.nz=[48])
noncomputable def iq (pts:List Pt)(tris:List Tri)(col:List Lay)(o:Obs):Int :=
 if eK o≠0 then eK o else if J0 pts tris o=false then 28 else if NC col o then 10 else if NF col o then 6 else if Mf o then 3 else if Mk o then 17 else 0
theorem qK {o:Obs}(h:eK o=0):bg o.x=true/\bg o.y=true/\(o.kind=2->bg o.depth=true):=by
 unfold eK at h;split at h
 ·cases h
 split at h
 ·cases h
 split at h
 ·cases h
 rename_i b;have a:qZ o=false:=by simpa using b
 unfold qZ at a;rw [PR,PR] at a;obtain ⟨⟨h1,h2⟩,_⟩:=a;have h3:(bg o.x && bg o.y)=true:=by simpa using h1
 rw [OC] at h3;refine ⟨h3.1,h3.2,fun c=>?_⟩;rw [c] at h2;simpa using h2
theorem MQ {o:Obs}(h:eK o=0):ptV (ptO o)=.agg ⟨[ai o.x,ai o.y]⟩/\QP 23 (ptO o)/\PtR (ptO o):=by
 obtain ⟨h1,h2,_⟩:=qK h;obtain ⟨a,c⟩:=dw h1;obtain ⟨b,d⟩:=dw h2;refine ⟨?_,⟨c,d⟩, ?_, ?_⟩
 ·unfold ptV fR ptO;rw [<- a,<- b]
 ·unfold ptO;rw [<- a];exact h1
 unfold ptO;rw [<- b];exact h2
theorem dD {k:Int}(h:(k == z)=true):k=z:=by simpa using h
theorem Hh (C:Mem)(s:Str)(h:bg s=true)(a:s.length<=999998):Gives cx.P 58 [ai s] C (.int .i64 (eL (dO s).num)):=by
 have e:=(dw h).1;have h2:=jd C (dO s) (by have:=a;exact OQ (bK (dw h).2 dc_) dc_)
 rwa [<- e] at h2
theorem K2 (C:Mem)(u:Tabs C)(v w:Value)(d:List Pt)(f:List Tri)(b:List Lay)(o:Obs)(x:MeshIn C v d f)(A:Good d f)(y:Sl C 3 w (b.map xR))(z:ObsR o) :
  Gives cx.P 69 [v,w,.agg ⟨vS o⟩] C (.int .i64 (iq d f b o)):=by
 have B:=x;obtain ⟨L,M,rfl,h1,h2⟩:=id x.ex;refine Sc func69 79 U3 fun w0=>R8 fun R a=>So U6 fun N=>So U6 fun O=>C4 1 [1,3,5] a Z<|G.freeze 1 Z fun _ _ D=>G.freeze 0 Z fun E _ c=>R8 fun R a=>R5 (bkT c 10) U8<|Sg (Ho _ u.m_ o z) U7<|C4 1 [1,3,5,7] a Z<|C6 2 [1,3,5,7,15] Z<|R6 (fun m=>?_) fun m=>?_
 ·have hs:eK o≠0:=by
   intro e;rw [e] at m;exact absurd m dc_
  exact C6 2 [6] Z<|Sb U2<|⟨by unfold iq;rw [aI hs],Z⟩
 have hs:eK o=0:=by simpa using m
 have i:¬ eK o≠0:=fun h=>h hs;obtain ⟨F,H,I⟩:=MQ hs;have J:=(qK hs).2.2;refine R8 fun R a=>R5 (PtrTo.block (Mem.get D mup) _) U8<|R7 U6<|R5 (bkT c 2) U8<|Sk (by have h:=pq E u.m_ _ d f (ptO o) B.m_ A H I;rw [F] at h;exact h) U7 fl_<|C4 5 [1,5,8,9] a Z<|R4 5 Z fun R a=>SA U8<|Sa [1,5,29] a Z<|R6 (fun p=>?_) fun p=>?_
 ·have g:J0 d f o=false:=by
   have h:(!J0 d f o)=true:=p;simpa using h
  exact C6 1 [6] Z<|Sb U2<|⟨by unfold iq;rw [aA i,aI g],Z⟩
 have g:¬ J0 d f o=false:=by
  have h:(!J0 d f o)=false:=p;have h2:J0 d f o=true:=by simpa using h
  rw [h2];decide
 refine Ss [0,1,2,3,4,5,6,7,8,9] [(3,1),(7,1)] Z kr_ fun R Q a=>R9 2 Z<|R5 (bkT c 1) U8<|SF (fun _=>(jv _ _ b o.upper y.m_)) U9<|R9 2 Z<|R5 (bkT c 1) U8<|SF (fun _=>(jv _ _ b o.lower y.m_)) U9<|C4 2 [5,10,11] a Z<|R4 4 Z fun R a=>Sz U6 (fun _=>PtrTo.blockT (Mem.get c mup) _ 1) U3<|R9 4 Z<|Sv U8<|SA U8<|C4 1 [5,10,11,38] a Z<|R6 (fun q=>?_) fun q=>?_
 ·have j:NC b o=true:=q;exact C6 1 [6] Z<|Sb U2<|⟨by unfold iq;rw [aA i,aA g,aI j],Z⟩
 have j:¬ NC b o=true:=by rw [show NC b o=false from q];decide
 refine R4 1 Z fun R a=>R5 (bkT c 1) U8<|R9 5 Z<|Sv U8<|C4 1 [5,50] a Z<|R6 (fun r=>?_) fun r=>?_
 ·have k:NF b o=true:=r;exact C6 1 [6] Z<|Sb U2<|⟨by unfold iq;rw [aA i,aA g,aA j,aI k],Z⟩
 have k:¬ NF b o=true:=by rw [show NF b o=false from r];decide
 refine R4 1 Z fun R a=>R5 (bkT c 1) U8<|R9 3 Z<|Sz U6 (fun _=>PtrTo.blockT (Mem.get c mup) _ 1) U3<|Su (fun K=>(Hh _ o.depth (J (by exact dD K.1)) z.depth)) U9<|R7 U6<|Sv U8<|C4 1 [5,59] a Z<|R6 (fun l=>?_) fun l=>?_
 ·have n:Mf o=true:=by
   rw [sT] at l;exact l
  exact C6 1 [6] Z<|Sb U2<|⟨by unfold iq;rw [aA i,aA g,aA j,aA k,aI n],Z⟩
 have n:¬ Mf o=true:=by
  rw [sT] at l;rw [show Mf o=false from l];decide
 refine R4 1 Z fun R a=>R5 (bkT c 1) U8<|R9 4 Z<|Sz U6 (fun _=>PtrTo.blockT (Mem.get c mup) _ 1) U3<|R7 U6<|Sv U8<|C4 1 [69] a Z<|R6 (fun s=>?_) fun s=>?_
 ·have t:Mk o=true:=by
   unfold Mk;rw [<- G7];exact s
  exact C6 1 [6] Z<|Sb U2<|⟨by unfold iq;rw [aA i,aA g,aA j,aA k,aA n,aI t],Z⟩
 have t:¬ Mk o=true:=by
  unfold Mk;rw [<- G7];intro h;rw [show ((o.kind == 3) && ((⟨o.nz.toArray⟩:ByteArray).data.toList == (⟨([48]:Str).toArray⟩:ByteArray).data.toList))=false from s] at h;cases h
 exact C6 1 [6] Z<|Sb U2<|⟨by unfold iq;rw [aA i,aA g,aA j,aA k,aA n,aA t],Z⟩
structure Bk where
 pts:List Pt
 tris:List Tri
 terr:List Str
 col:List Lay
 obs:List Obs
structure BookIn (C:Mem)(bv:Value)(B:Bk):Prop where
 ex:∃ v1 v2 tv cv ov,bv=.agg ⟨[v1,v2,tv,cv,ov]⟩/\Sl C 2 v1 (B.pts.map fR)/\Sl C 3 v2 (B.tris.map jP)/\Sl C 1 tv (B.terr.map mR)/\Sl C 3 cv (B.col.map xR)/\Sl C 10 ov (B.obs.map vS)
theorem BookIn.mono {C D:Mem}{b:Value}{B:Bk}(h:BookIn C b B)(a:C.le D):BookIn D b B:=by
 obtain ⟨c,d,e,f,g,h1,h2,h3,h4,h5,i⟩:=h.ex;exact ⟨c,d,e,f,g,h1,h2.mono a,h3.mono a,h4.mono a,h5.mono a,i.mono a⟩
theorem BookIn.m_ {D:Mem}{B:Bk}(h:BookIn C bv B)(a:C.le D:=by exact mup):BookIn D bv B:=BookIn.mono h a
structure BookR (B:Bk):Prop where
 terr:∀ s∈B.terr,s.length<=999998
 col:∀ x∈B.col,Mh x
 lcol:B.col.length<=1000000
 obs:∀ o∈B.obs,ObsR o
noncomputable def obZ (B:Bk)(pre:List Obs)(o:Obs):Int:=if iq B.pts B.tris B.col o≠0 then iq B.pts B.tris B.col o else if o.name∈pre.map Obs.name then 9 else 0
def H2:Obs:=⟨0,[],[],[],[],[],[],[],[],[]⟩
noncomputable def qj (B:Bk):Nat->Int
 | 0=>0
 | n+1=>if qj B n≠0 then qj B n else obZ B (B.obs.take n) (B.obs.getD n H2)
noncomputable def iU (B:Bk):Int:=if Dd B.pts.length B.terr≠0 then Dd B.pts.length B.terr else if ug B.col≠0 then ug B.col else if 100<B.obs.length then 4 else qj B B.obs.length
theorem vt {B:Bk}{n:Nat}(h:qj B n≠0):∀ m,n<=m->qj B m=qj B n
 | 0,hm=>by rw [show n=0 by omega]
 | m+1,hm=>by
  rcases OZ m n with h1 | h1
  ·rw [show n=m+1 by omega]
  have a:=vt h m h1;simp only [qj,a];rw [aI h]
theorem M2 {l:List Obs}{x:Obs}(h:l[i]?=some x):l.getD i H2=x:=by rw [ax,h,Pu]
theorem zJ {B:Bk}{x:Obs}(a:qj B i=0)(b:B.obs[i]?=some x):qj B (i+1)=obZ B (B.obs.take i) x:=by
 simp only [qj,a];rw [aA dc_,M2 b]
theorem EI {B:Bk}{x:Obs}(c:qj B i=0)(a:B.obs[i]?=some x)(b:obZ B (B.obs.take i) x=z)(d:z≠0):qj B B.obs.length=z:=by
 have e:=(aF.1 a).1;have h1:=zJ c a;rw [vt (n:=i+1) (by rw [h1,b];exact d) B.obs.length om_,h1,b]
def EQ (l:List Obs):List (Str × Value):=l.map fun o=>(o.name,.bool true)
theorem EP (l:List Obs)(s:Str):jZ (.bool false) false (cW (EQ l) s)=.bool (decide (s∈l.map Obs.name)):=by
 have a:(EQ l).map (·.1)=l.map Obs.name:=by unfold EQ;rw [Pc];rfl
 cases h:cW (EQ l) s with
 | none =>
  have h1:=ck.1 h;rw [a] at h1;rw [OV h1];rfl
 | some v =>
  have h1:=gF h;have h2:=QE (f:=(·.1)) h1;rw [a] at h2;obtain ⟨o,_,b⟩:=OB.1 h1;cases b
  rw [OK h2];rfl
theorem H6 {l:List Obs}{o:Obs}(h:o.name ∉ l.map Obs.name):fD (EQ l) o.name (.bool true)=EQ (l++[o]):=by
 have a:(EQ l).map (·.1)=l.map Obs.name:=by unfold EQ;rw [Pc];rfl
 rw [jl (by rw [ck,a];exact h)];simp [EQ]
theorem kg (C:Mem)(n:Tabs C)(F:Value)(B:Bk)(L:BookIn C F B)(t:Good B.pts B.tris)(o:BookR B) :
  Gives cx.P 36 [F] C (.int .i64 (iU B)):=by
 obtain ⟨H,I,Y,cv,ov,rfl,h1,h2,h3,h4,h5⟩:=id L.ex;obtain ⟨M,N,rfl,O,aa,_⟩:=id h5;have ab:maxLen<=9223372036854775807:=by simp [maxLen]
 simp only [al] at h5 O ⊢;have hm:MeshIn C (.agg ⟨[H,I]⟩) B.pts B.tris:=⟨H,I,rfl,h1,h2⟩;refine Sc func36 59 U3 fun w0=>R8 fun R a=>So U6 fun Q=>C4 1 [1] a Z<|G.freeze 0 Z fun _ _ b=>R4 1 Z fun R a=>R5 (bkT b 2) U8<|Sg (jo _ n.m_ _ B.pts B.tris hm.m_ t) U7<|C4 1 [1,3] a Z<|C6 2 [1,3,14] Z<|R6 (fun J=>?_) fun J=>?_
 ·exact absurd J dc_
 refine R4 1 Z fun R a=>R5 (bkT b 2) U8<|R7 U6<|R5 (bkT b 1) U8<|Sg (tw _ n.m_ _ _ B.pts B.tris B.terr hm.m_ t h3.m_ o.terr) U7<|C4 1 [1,4] a Z<|C6 2 [1,4,22] Z<|R6 (fun p=>?_) fun p=>?_
 ·have c:Dd B.pts.length B.terr≠0:=by
   intro e;rw [e] at p;exact absurd p dc_
  exact C6 2 [2] Z<|Sb U2<|⟨by unfold iU;rw [aI c],Z⟩
 have c:¬ Dd B.pts.length B.terr≠0:=by
  have h:Dd B.pts.length B.terr=0:=by simpa using p
  exact fun h2=>h2 h
 refine R4 1 Z fun R a=>R5 (bkT b 1) U8<|Sg (pr _ n.m_ _ B.col h4.m_ o.col o.lcol) U7<|C4 1 [1,5] a Z<|C6 2 [1,5,28] Z<|R6 (fun q=>?_) fun q=>?_
 ·have d:ug B.col≠0:=by
   intro e;rw [e] at q;exact absurd q dc_
  exact C6 2 [2] Z<|Sb U2<|⟨by unfold iU;rw [aA c,aI d],Z⟩
 have d:¬ ug B.col≠0:=by
  have h:ug B.col=0:=by simpa using q
  exact fun h2=>h2 h
 refine R4 1 Z fun R a=>R5 (bkT b 1) U8<|C4 2 [1,33] a Z<|R6 (fun u=>?_) fun u=>?_
 ·have g:100<B.obs.length:=by
   simp only [Oz] at u;omega
  exact C6 1 [2] Z<|Sb U2<|⟨by unfold iU;rw [aA c,aA d,aI g],Z⟩
 have g:¬ 100<B.obs.length:=by
  simp only [OL] at u;omega
 refine R8 fun R a=>D.makeMap keyS Z Z Z Z fl_ fun v=>C4 1 [1,6] a Z<|R4 1 Z fun R a=>R5 (bkT b 1) U8<|C4 2 [1,6,36,37,38] a Z<|G.loop (fun fr C' K S=>∃ (i:Nat),(i<=B.obs.length/\qj B i=0)/\fr=[(1,[],.pointer (some ⟨Q,0,none⟩)),(6,[],.map (some v)),(36,[],.slice M B.obs.length N),(37,[],.int .i64 B.obs.length),(38,[],.int .i64 i)]/\K=[.obj v (aN keyS.enc (EQ (B.obs.take i)))]/\S=B.obs.length-i) (hn_ [1,6,36,37,38] Z) ⟨0,⟨Ow _,Z⟩,Z,Z,Z⟩ (fun fr ac ad m _ T=>?_);obtain ⟨i,⟨hi,k⟩,rfl,rfl,rfl⟩:=T;refine C6 1 [1,6,36,37,38,39] Z<|R6 (fun w=>?_) fun w=>?_
 ·have y:i<B.obs.length:=by simpa using w
  obtain ⟨x,f⟩:∃ x,B.obs[i]?=some x:=⟨B.obs[i],ak y⟩;have U:=o.obs x (Oq f);have V:B.obs.take (i+1)=B.obs.take i++[x]:=by rw [OS,f];rfl
  refine R8 fun R a=>Sm h5.m_ U10 om_ (bO f) fl_ fun ag W=>R5 W U8<|Sq U5 fun b8=>Sf (j:=0) U12<|Sa [1,6,8,36,37,38] a Z<|R4 1 Z fun R a=>R5 (bkT b 2) U8<|R7 U6<|R5 (bkT b 1) U8<|Sd af U9<|Sg (K2 _ n.m_ _ _ B.pts B.tris B.col x hm.m_ t h4.m_ U) U7<|C4 1 [1,6,8,9,36,37,38] a Z<|C6 2 [1,6,8,9,36,37,38,49] Z<|R6 (fun r=>?_) fun r=>?_
  ·have l:iq B.pts B.tris B.col x≠0:=by
    intro e;rw [e] at r;exact absurd r dc_
   have A:=EI k f (z:=iq B.pts B.tris B.col x) (by unfold obZ;rw [aI l]) l;exact C6 2 [2] Z<|Sb U2<|⟨by unfold iU;rw [aA c,aA d,aA g,A],Z⟩
  have l:¬ iq B.pts B.tris B.col x≠0:=by
   have h:iq B.pts B.tris B.col x=0:=by simpa using r
   exact fun h2=>h2 h
  refine R4 2 Z fun R a=>Sd af U9<|Tn keyS ae Z Z Z Z Z Z Z Z kr_ Z (EP (B.obs.take i) x.name) Z Z<|Sa [1,6,8,36,37,38,54] a Z<|R6 (fun E=>?_) fun E=>?_
  ·have s:x.name∈(B.obs.take i).map Obs.name:=NM E;have A:=EI k f (z:=9) (by unfold obZ;rw [aA l,aI s]) dc_;exact C6 1 [2] Z<|Sb U2<|⟨by unfold iU;rw [aA c,aA d,aA g,A],Z⟩
  have s:x.name ∉ (B.obs.take i).map Obs.name:=Ox E;have X:qj B (i+1)=0:=by rw [zJ k f];unfold obZ;rw [aA l,aA s]
  refine R4 2 Z fun R a=>Sd af U9<|D.mapUpdate keyS (j:=1) Z Z Z Z Z Z Z Z Z Z kr_<|Sa [1,6,36,37,38] a Z<|R8 fun R a=>Se _ U7<|C4 1 [1,6,36,37,38] a Z<|SQ 1 Z<|Sp (L':=[.obj v (aN keyS.enc (EQ (B.obs.take (i+1))))]) (by rw [V,<- H6 s];rfl)<|Sj (m':=B.obs.length-(i+1)) om_ mup (hn_ [1,6,36,37,38] Z) ⟨i+1,⟨by omega,X⟩,Z,Z,Z⟩
 have y:i=B.obs.length:=by
  have:¬ i<B.obs.length:=by simpa using w
  omega
 refine C6 1 [2] Z<|Sb U2<|⟨?_,Z⟩;rw [y] at k;unfold iU;rw [aA c,aA d,aA g,k]
theorem ly (C:Mem)(g:Tabs C)(b:Value)(B:Bk)(c:BookIn C b B)(j:Good B.pts B.tris)(k:BookR B)(l:iU B=0)(i:Nat)(n:i<B.obs.length) :
  Gives cx.P 240 [b,.int .i64 i] C (.int .i64 0):=by
 have d:=c;obtain ⟨o,p,q,r,s,rfl,h1,h2,h3,h4,h5⟩:=id c.ex;obtain ⟨t,u,rfl,m,v,_⟩:=id h5;have w:maxLen<=9223372036854775807:=by simp [maxLen]
 simp only [al] at h5 m d ⊢;refine Sc func240 20 U3 fun w0=>R8 fun R a=>So U6 fun x=>C4 1 [1,2] a Z<|R8 fun R a=>Sd af U9<|Sk (by have h:=kg _ g.m_ _ B d.m_ j k;rw [l] at h;exact h) U7 fl_<|C4 1 [1,2,5] a Z<|C6 2 [1,2,5,9] Z<|R6 (fun e=>?_) fun e=>?_
 ·exact absurd e dc_
 refine R4 5 Z fun R a=>Sd af U9<|R9 2 Z<|SA U8<|Sa [19] a Z<|R6 (fun f=>?_) fun f=>?_
 ·exfalso;simp only [PX,Oz] at f;omega
 exact C6 1 [4] Z<|Sb U2<|⟨Z,Z⟩
noncomputable def mH (o:Obs)(z:Rat):Rat:=if o.kind=2 then z-dO o.depth else z
structure ObsAt (o:Obs)(p:Pt):Prop where
 x:o.x=qtx p.1
 y:o.y=qtx p.2
 q:QP 23 p
 r:PtR p
 d:o.kind=2->bg o.depth=true
theorem vu {o:Obs}{p:Pt}(h:ObsAt o p):(.agg ⟨[ai o.x,ai o.y]⟩:Value)=ptV p:=by unfold ptV fR;rw [h.x,h.y]
structure Terr (B:Bk)(fs:List Rat):Prop where
 e:B.terr=fs.map qtx
 l:fs.length=B.pts.length
 q:∀ q∈fs,QB 22 q
theorem Ms {B:Bk}{a:List Rat}(h:Terr B a):∀ q∈a,bg (qtx q)=true:=fun q b=>bM (h.q q b)
theorem Fl (C:Mem)(k:Tabs C)(m:Value)(B:Bk)(i:List Rat)(o:Obs)(p:Pt)(z:Rat)(v:BookIn C m B)(w:Good B.pts B.tris)(b:Terr B i)(c:ObsAt o p)(x:GS B.pts B.tris i p=.tuple #[ai (qtx z),.int .i64 0])(y:QB 22 z) :
  Gives cx.P 241 [m,.agg ⟨vS o⟩] C (.tuple #[ai (qtx (mH o z)),.int .i64 0]):=by
 obtain ⟨n,s,E,F,H,rfl,h1,h2,h3,h4,h5⟩:=id v.ex;have hm:MeshIn C (.agg ⟨[n,s]⟩) B.pts B.tris:=⟨n,s,rfl,h1,h2⟩;rw [b.e,<- xQ] at h3;refine Sc func241 31 U3 fun w0=>R8 fun R a=>So U6 fun I=>So U6 fun J=>C4 2 [2,3] a Z<|G.freeze 1 Z fun _ _ t=>G.freeze 0 Z fun u _ j=>R4 1 Z fun R a=>R5 (bkT t 2) U8<|R7 U6<|R5 (bkT t 1) U8<|R7 U6<|R5 (bkT j 2) U8<|Sk (by have h:=GR u k.m_ _ _ B.pts B.tris i 22 dc_ dc_ hm.m_ w h3.m_ b.l b.q (Ms b) p c.q c.r;rw [x,<- vu c] at h;exact h) U7 fl_<|C4 5 [3,6,7] a Z<|R4 4 Z fun R a=>Sz U6 (fun _=>PtrTo.blockT (Mem.get j mup) _ 1) U3<|R7 U6<|Sv U8<|Sa [3,6,7,24] a Z<|R6 (fun f=>?_) fun f=>?_
 ·have g:o.kind=2:=dD (RR.1 f).2;obtain ⟨A,D⟩:=dw (c.d g);refine R4 2 Z fun R a=>R5 (bkT j 1) U8<|Sk (by have h:=dM u k.m_ z (dO o.depth) 23 dc_ dc_ (y.le dc_) D;rw [<- A] at h;exact h) U7 fl_<|C4 1 [6,7] a Z<|C6 4 [4,5] Z<|Sh (G.dropAll (Sy U3 ?_));exact ⟨by unfold mH;rw [aI g],Z⟩
 have g:¬ o.kind=2:=by
  intro e;rw [show ((((0:Int) == 0) && (o.kind == 2))=true) by rw [e];rfl] at f;cases f
 refine C6 4 [4,5] Z<|Sh (G.dropAll (Sy U3 ?_));exact ⟨by unfold mH;rw [aA g],Z⟩
theorem B6 (C:Mem)(c:Tabs C)(h:Value)(B:Bk)(d:List Rat)(i:Nat)(o:Obs)(p:Pt)(z:Rat)(b:BookIn C h B)(j:Good B.pts B.tris)(q:BookR B)(r:iU B=0)(s:Terr B d)(k:B.obs[i]?=some o)(t:ObsAt o p)(u:GS B.pts B.tris d p=.tuple #[ai (qtx z),.int .i64 0])(v:QB 22 z)(l:QB 22 (mH o z)) :
  Gives cx.P 193 [h,.int .i64 i] C (.tuple #[ai (qtx (mH o z)),.int .i64 0]):=by
 have e:=b;have w:=(aF.1 k).1;obtain ⟨A,D,E,F,H,rfl,h1,h2,h3,h4,h5⟩:=id b.ex;obtain ⟨I,J,rfl,x,K,_⟩:=id h5;have L:maxLen<=9223372036854775807:=by simp [maxLen]
 simp only [al] at h5 x e ⊢;refine Sc func193 36 U3 fun w0=>?_;refine R8 fun R a=>?_;refine So U6 (fun M=>?_);refine C4 2 [1,2] a Z ?_;clear a R;refine G.freeze 0 Z (fun _ _ f=>?_);refine R8 fun R a=>?_;refine R5 (bkT f 5) U8 ?_;refine R7 U6 ?_;refine Sg (ly _ c.m_ _ B e.m_ j q r i w) U7 ?_;refine C4 1 [1,2,6] a Z ?_;clear a R;refine C6 2 [1,2,6,13] Z ?_;refine R6 (fun m=>?_) fun m=>?_
 ·exact absurd m dc_
 refine Ss [0,1,2,3,4,5,6,7,8,9,10,11] [(6,1)] Z kr_ (fun R b a=>?_);refine R5 (bkT f 5) U8 ?_;refine R7 U6 ?_;refine R5 (bkT f 1) U8 ?_;refine R7 U6 ?_;refine Sm h5.m_ U10 om_ (bO k) fl_ (fun N y=>?_);refine R5 y U8 ?_;refine SF (fun _=>(Fl _ c.m_ _ B d o p z e.m_ j s t u v)) U9 ?_;refine R9 5 Z ?_;refine Sa [7,8] a Z ?_;clear a b R;refine R4 4 Z fun R a=>?_;refine SF (fun _=>(dF _ c.m_ _ (sD l))) U9 ?_;refine R7 U6 ?_;refine Sv U8 ?_;refine Sa [7,8,31] a Z ?_;clear a R;refine R6 (fun g=>?_) fun g=>?_
 ·exfalso;rw [wg l] at g;exact absurd g dc_
 refine C6 2 [7,8,33] Z ?_;refine R6 (fun n=>?_) fun n=>?_
 ·exact absurd n dc_
 refine C6 3 [4,5] Z ?_;refine Sh (G.dropAll (Sy U3 ?_));exact ⟨Z,Z⟩
def wX (lo hi:Int)(n:Nat):List Nat:=(List.range n).filter fun k:Nat=>decide (lo<=(k:Int)/\(k:Int)<hi)
def DC (col:List Lay)(o:Obs):Int:=if o.kind=1 then kb (isU o.upper) col 0-1 else kb (isU o.lower) col 0
def DD (col:List Lay)(o:Obs):Int:=if o.kind=1 then kb (isU o.upper) col 0+1 else kb (isU o.upper) col 0
def cJ (col:List Lay)(o:Obs):List Nat:=wX (DC col o) (DD col o) (col.length-1)
theorem G3 {a b:Int}(j:max a 0<=(i:Int))(l:(i:Int)<=max (max a 0) (min b n))(o:min b (n:Int)<=(i:Int)):(List.range i).filter (fun k:Nat=>decide (a<=(k:Int)))=wX a b n:=by
 unfold wX;have hs:∀ m:Nat,(List.range (i+m)).filter (fun k:Nat=>decide (a<=(k:Int)/\(k:Int)<b/\k<n))=(List.range i).filter (fun k:Nat=>decide (a<=(k:Int)/\(k:Int)<b/\k<n)):=by
  intro m;induction m with
  | zero=>rfl
  | succ m c =>
   rw [show i+(m+1)=i+m+1 by omega,PB,P8,c,List.filter_cons];rw [aA (by simp only [Oz];omega)];simp
 have f:(List.range i).filter (fun k:Nat=>decide (a<=(k:Int)))=(List.range i).filter (fun k:Nat=>decide (a<=(k:Int)/\(k:Int)<b/\k<n)):=by
  refine List.filter_congr (fun k d=>?_);rw [ON] at d;rw [Pp];omega
 have g:(List.range n).filter (fun k:Nat=>decide (a<=(k:Int)/\(k:Int)<b))=(List.range n).filter (fun k:Nat=>decide (a<=(k:Int)/\(k:Int)<b/\k<n)):=by
  refine List.filter_congr (fun k d=>?_);rw [ON] at d;rw [Pp];omega
 rw [f,g];rcases Nat.le_total i n with e | e
 ·obtain ⟨m,rfl⟩:=Nat.exists_eq_add_of_le e;exact (hs m).symm
 have h:∀ m:Nat,(List.range (n+m)).filter (fun k:Nat=>decide (a<=(k:Int)/\(k:Int)<b/\k<n))=(List.range n).filter (fun k:Nat=>decide (a<=(k:Int)/\(k:Int)<b/\k<n)):=by
  intro m;induction m with
  | zero=>rfl
  | succ m c =>
   rw [show n+(m+1)=n+m+1 by omega,PB,P8,c,List.filter_cons];rw [aA (by simp only [Oz];omega)];simp
 obtain ⟨m,rfl⟩:=Nat.exists_eq_add_of_le e;exact h m
theorem ru {a:Type}(p:a->Bool)(l:List a):-1<=kb p l 0/\kb p l 0<=(l.length:Int):=by
 rcases lY p l with ⟨h,_⟩ | ⟨i,x,h,h2,_⟩
 ·omega
 have:=(aF.1 h2).1;omega
theorem wV (C:Mem)(_ab:Tabs C)(F:Value)(B:Bk)(o:Obs)(q:BookIn C F B)(ac:B.col.length<=1000)(M:B.col≠[]) :
  Pur cx.P 242 [F,.agg ⟨vS o⟩] C fun u D=>Sl D 1 u ((cJ B.col o).map aQ):=by
 obtain ⟨v1,v2,tv,cv,ov,rfl,h1,h2,h3,h4,h5⟩:=id q.ex;obtain ⟨A4,c4,rfl,N,ad,_⟩:=id h4;have ae:maxLen<=9223372036854775807:=by simp [maxLen]
 have af:=O9.2 M;have O:=ru (isU o.lower) B.col;have Q:=ru (isU o.upper) B.col;obtain ⟨lw,H⟩:∃ z,kb (isU o.lower) B.col 0=z:=⟨_,rfl⟩;obtain ⟨up,I⟩:∃ z,kb (isU o.upper) B.col 0=z:=⟨_,rfl⟩;obtain ⟨lo,b⟩:∃ z,DC B.col o=z:=⟨_,rfl⟩;obtain ⟨c,d⟩:∃ z,DD B.col o=z:=⟨_,rfl⟩;obtain ⟨n,S⟩:∃ n,B.col.length-1=n:=⟨_,rfl⟩;unfold cJ;rw [b,d,S];unfold DC at b;unfold DD at d;rw [H] at O b;rw [I] at Q b d;simp only [al] at h4 N ⊢;have ag:-2<=lo/\lo<=1000:=by rw [<- b];split <;> omega
 have ah:-2<=c/\c<=1001:=by rw [<- d];split <;> omega
 refine Sc func242 43 U3 fun w0=>?_;refine R8 fun R a=>?_;refine So U6 (fun J=>?_);refine So U6 (fun b3=>?_);refine C4 1 [2,3] a Z ?_;clear a R;refine G.freeze 1 Z (fun _ _ s=>?_);refine G.freeze 0 Z (fun K _ t=>?_);refine Ss [0,1,2,3,4,5,6,7,8,9,10,11] [(4,1),(9,1)] Z kr_ (fun R q a=>?_);refine R7 U6 ?_;refine R5 (bkT s 1) U8 ?_;refine R7 U6 ?_;refine R5 (bkT t 1) U8 ?_;refine Su (fun _=>(by have h:=jv K _ B.col o.lower h4.m_;rw [H] at h;exact h)) U9 ?_;refine R7 U6 ?_;refine R5 (bkT s 1) U8 ?_;refine R7 U6 ?_;refine R5 (bkT t 1) U8 ?_;refine Su (fun _=>(by have h:=jv K _ B.col o.upper h4.m_;rw [I] at h;exact h)) U9 ?_;refine R9 2 Z ?_;refine Sa [2,3,5,6] a Z ?_;clear a q R;refine R4 1 Z fun R a=>?_;refine R5 (bkT t 1) U8 ?_;refine C4 1 [2,5,6,21] a Z ?_;clear a R;refine G.cut (fun fr C' g v=>(True)/\fr=[(2,[],.pointer (some ⟨J,0,none⟩)),(5,[],.int .i64 lo),(6,[],.int .i64 c)]/\g=[]) ?_ (fun fr _ ai v _ x=>?_)
 ·refine R6 (fun l=>?_) fun l=>?_
  ·have f:o.kind=1:=dD l;rw [aI f] at b d;subst b d;refine R4 1 Z fun R a=>?_;refine Se _ U7 ?_;refine R7 U6 ?_;refine Se _ U7 ?_;refine C4 2 [2,5,6] a Z ?_;clear a R;refine Si 0 (Mem.le.refl _) (hn_ [2,5,6] Z) ⟨trivial,Z,Z⟩
  have f:¬ o.kind=1:=by
   intro e;rw [show ((o.kind == 1)=true) by rw [e];rfl] at l;cases l
  rw [aA f] at b d;subst b d;refine Si 0 (Mem.le.refl _) (hn_ [2,5,6] Z) ⟨trivial,Z,Z⟩
 obtain ⟨_,rfl,rfl⟩:=x;refine C6 1 [2,5,6,7] Z ?_;obtain ⟨p,T⟩:∃ p:Nat,max lo 0=(p:Int):=⟨(max lo 0).toNat,by omega⟩;refine R4 1 Z fun R a=>?_;refine D.max (((p:Nat):Int)) U6 T U2 ?_;refine C4 1 [2,6,7,8] a Z ?_;clear a R;refine G.nilArr 3 1 ?_;refine G.loop (fun fr C' g v=>∃ (i:Nat)(out:List Nat)(w:Value),(max lo 0<=(i:Int)/\(i:Int)<=max (max lo 0) (min c n)/\out=(List.range i).filter (fun k:Nat=>decide (lo<=(k:Int))))/\fr=[(2,[],.pointer (some ⟨J,0,none⟩)),(6,[],.int .i64 c),(7,[],w),(8,[],.int .i64 i)]/\g=[.arr w 3 1 out.length (out.map aQ).flatten]/\v=2000-i) (hn_ [2,6,7,8] Z) ⟨p,[],_,⟨by omega,by omega,by
  symm;rw [List.filter_eq_nil_iff];intro k f;rw [ON] at f;simp only [Oz];omega⟩,rfl,rfl,rfl⟩ (fun fr aj ak m _ x=>?_)
 obtain ⟨i,out,w,⟨U,V,A⟩,rfl,rfl,rfl⟩:=x;refine R4 3 Z fun R a=>?_;refine R5 (bkT s 1) U8 ?_;refine R7 U6 ?_;refine Se _ U7 ?_;refine D.min ((min c (n:Int))) Z Z Z Z Z Z om_ Z Z ?_;refine C4 1 [2,6,7,8,35] a Z ?_;clear a R;refine R6 (fun E=>?_) fun E=>?_
 ·have an:(i:Int)<min c (n:Int):=NM E;have ao:out.length<=i:=by
   rw [A];exact OQ (P2 _ _) am
  have W:(List.range (i+1)).filter (fun k:Nat=>decide (lo<=(k:Int)))=out++[i]:=by
   rw [PB,P8,<- A,List.filter_cons,aI (by simp only [Oz];omega)];rfl
  refine R4 2 Z fun R a=>?_;refine Sr [aQ i] U12 (fun ap _ _ X=>?_);refine D.append (j:=0) U11 X Z aw (by simp only [aV];omega) fl_ (fun L=>?_);refine C4 1 [2,6,7,8] a Z ?_;clear a R;refine R4 1 Z fun R a=>?_;refine Se _ U7 ?_;refine C4 1 [2,6,7,8] a Z ?_;clear a R;refine Sp (L':=[.arr L 3 1 (out++[i]).length ((out++[i]).map aQ).flatten]) (by simp [aQ]) ?_;refine Sj (m':=2000-(i+1)) om_ mup (hn_ [2,6,7,8] Z) ⟨i+1,out++[i],L,⟨by omega,by omega,W.symm⟩,Z,Z,Z⟩
 have Y:min c (n:Int)<=(i:Int):=by
  have:=Ox E;omega
 refine C6 2 [4] Z ?_;refine G.freezeArr 0 (out.map aQ) rfl rfl (by intro r hr;obtain ⟨y,_,rfl⟩:=OB.1 hr;rfl) am (fun Cg hg aa=>?_);refine Sb U2 ?_;exact ⟨Z,by rw [<- G3 U V Y,<- A];exact aa⟩
theorem uG (C:Mem)(j:Tabs C)(k:Value)(B:Bk)(i:Nat)(o:Obs)(d:BookIn C k B)(p:Good B.pts B.tris)(q:BookR B)(a:iU B=0)(l:B.obs[i]?=some o) :
  Pur cx.P 194 [k,.int .i64 i] C fun u D=>∃ v,u=.tuple #[v,.int .i64 0]/\Sl D 1 v ((cJ B.col o).map aQ):=by
 have f:=d;have r:=(aF.1 l).1;have b:ug B.col=0:=by
  unfold iU at a;split at a
  ·rename_i h;exact absurd a h
  split at a
  ·rename_i h;exact absurd a h
  rename_i h;exact O3 h
 have m:B.col≠[]:=by
  intro e;rw [e] at b;exact absurd b dc_
 have s:B.col.length<=1000:=by
  unfold ug at b;rw [aA m] at b;split at b
  ·exact absurd b dc_
  omega
 obtain ⟨y,z,A,E,F,rfl,h1,h2,h3,h4,h5⟩:=id d.ex;obtain ⟨H,I,rfl,t,J,_⟩:=id h5;have K:maxLen<=9223372036854775807:=by simp [maxLen]
 simp only [al] at h5 t f ⊢;refine Sc func194 20 U3 fun w0=>R8 fun R c=>So U6 fun L=>C4 2 [1,2] c Z<|G.freeze 0 Z fun _ _ g=>R8 fun R c=>R5 (bkT g 5) U8<|R7 U6<|Sg (ly _ j.m_ _ B f.m_ p q a i r) U7<|C4 1 [1,2,6] c Z<|C6 2 [1,2,6,11] Z<|R6 (fun n=>?_) fun n=>?_
 ·exact absurd n dc_
 refine Ss [0,1,2,3,4,5,6,7,8] [] Z kr_ fun R d c=>R5 (bkT g 5) U8<|R7 U6<|R5 (bkT g 1) U8<|R7 U6<|Sm h5.m_ U10 om_ (bO l) fl_ fun M w=>R5 w U8<|SI (wV _ j.m_ _ B o f.m_ s m) U7 fun N _ _ x=>R9 2 Z<|Sa [4,5] c Z ?_;clear c d R;refine Sh (G.dropAll (Sy U3 ?_));exact ⟨Z,_,Z,x⟩
theorem EL (x y:Nat)(a:x<18446744073709551616)(b:y<18446744073709551616)(C:Mem):Gives cx.P 125 [.int .u64 x,.int .u64 y] C (.tuple #[.int .u64 ((x*y / 18446744073709551616:Nat):Int),.int .u64 ((x*y % 18446744073709551616:Nat):Int)]) :=
 Gives.ofCalls kr_ (fun w=>Any.bits_Mul Tryz.mul x y a b w) C
theorem ff {a:Value}{k m:Nat}{b:List Value}(_d:k+m<=n)(c:m<=k)(_e:b.length=n-k) :
  aD (List.replicate k a++b) ((List.replicate k a++b).take m) k=List.replicate (k+m) a++b.drop m:=by
 have h1:(List.replicate k a++b).take m=List.replicate m a:=by
  rw [List.take_append_of_le_length (by simpa using c),List.take_replicate,PK c]
 have h2:(List.replicate k a++b).take k=List.replicate k a:=by
  rw [List.take_append_of_le_length am,List.take_replicate,Nat.min_self]
 have h3:(List.replicate k a++b).drop (k+m)=b.drop m:=by
  rw [Q6,P1,PI am,P7];congr 1;omega
 unfold aD;rw [h1,h2,P1,h3,List.replicate_append_replicate]
theorem yB (a:Value)(n:Nat):jH [a] n=List.replicate n a:=by
 rw [dQ];induction n with
 | zero=>rfl
 | succ n b=>rw [PH,PU,b,PH];rfl
theorem kQ (n:Nat)(a:n<18446744073709551616)(C:Mem):Gives cx.P 125 [.int .u64 (1:Int),.int .u64 n] C (.tuple #[.int .u64 0,.int .u64 n]):=by
 have h:=EL 1 n om_ a C;have b:1*n / 18446744073709551616=0:=by omega
 have c:1*n % 18446744073709551616=n:=by omega
 rw [b,c] at h;exact h
theorem qO (C:Mem)(v:Value)(n:Nat)(s:Str)(g:Sl C 1 v [[ai s]])(y:n<=1000000):Jog.Fn cx.P 83 [v,.int .i64 n] C [] fun u _z e=>∃ b,u=.slice (some ⟨b,0,none⟩) n n/\e=[.arr u 56 1 n (List.replicate n (ai s))]:=by
 have p:=g;obtain ⟨A,c,rfl,_⟩:=p;refine Sc func83 48 U3 fun w0=>C6 1 [0,1] Z<|C6 2 [0,1,10] Z<|R6 (fun h=>?_) fun h=>?_
 ·simp at h;omega
 refine R4 2 Z fun R d=>SL (c:=1) U8 Z fl_<|R7 U6<|SL (c:=(n:Int)) U8 (by rw [IntKind.wrap_u64];omega) fl_<|Sk (kQ n om_ _) U7 fl_<|C4 5 [0,5,6] d Z<|R4 5 Z fun R d=>SA U8<|Sa [0,6,26] d Z<|R6 (fun i=>?_) fun i=>?_
 ·simp at i;omega
 refine R4 1 Z fun R d=>SL (c:=(n:Int)) U8 (by rw [IntKind.wrap_i64];omega) fl_<|S3 U9 (Oo _) (by show 16*n<=281474976710656;omega) (by simp only [maxLen];omega) fl_ fun a=>C4 1 [0,7] d Z<|R4 2 Z fun R d=>TH (j:=0) (q:=min 1 n) U12 g U2 (by rw [cI];show 0+min 1 n*1<=n*1;omega) fl_<|C4 1 [7,8] d Z ?_;have r:aD (jH [ai []] n) (([[ai s]]:List (List Value)).take (min 1 n)).flatten 0=List.replicate (min 1 n) (ai s)++List.replicate (n-min 1 n) (ai []):=by
  rw [yB];cases n with
  | zero=>rfl
  | succ n=>rw [show min 1 (n+1)=1 by omega,PH];rfl
 refine Sp (L':=[.arr (.slice (some ⟨a,0,none⟩) n n) 56 1 n (List.replicate (min 1 n) (ai s)++List.replicate (n-min 1 n) (ai []))]) (by rw [<- r];rfl)<|G.loop (fun fr C' e t=>∃ (k:Nat),(k<=n/\min 1 n<=k)/\fr=[(7,[],.slice (some ⟨a,0,none⟩) n n),(8,[],.int .i64 k)]/\e=[.arr (.slice (some ⟨a,0,none⟩) n n) 56 1 n (List.replicate k (ai s)++List.replicate (n-k) (ai []))]/\t=n-k) (hn_ [7,8] Z) ⟨min 1 n,⟨Nat.min_le_right _ _,Oo _⟩,Z,Z,Z⟩ (fun fr B D m w x=>?_);obtain ⟨k,⟨l,E⟩,rfl,rfl,rfl⟩:=x;refine C6 4 [7,8,37] Z<|R6 (fun f=>?_) fun f=>?_
 ·simp only [Oz] at f;have o:k<n:=by omega
  have F:1<=k:=by omega
  refine Ss [0,1,2,3,4,5,6,7,8,9] [] Z kr_ fun R H d=>R9 3 Z<|SX k n n U12 (fun _=>⟨.inr ⟨_,Z⟩,.inl ⟨Z,Z⟩,.inl ⟨Z,Z⟩,l,Oo _,Oo _⟩) U2<|R9 2 Z<|SX 0 k n U12 (fun _=>⟨.inl ⟨Z,Z⟩,.inr ⟨_,Z⟩,.inl ⟨Z,Z⟩,Ow _,l,Oo _⟩) U2 ?_;refine TG (j:=0) (off:=k) (g0:=a) (dl:=n-k) (dc:=n-k) (sl:=k-0) (sc:=n-0) (q:=min k (n-k)) U8 (by show some (Value.slice (if n=k then some (⟨a,0,none⟩:Addr) else (some (⟨a,0,none⟩:Addr)).map (·.add (k*1))) (n-k) (n-k))=_;rw [aA om_];simp [Addr.add_lit]) (by show some (Value.slice (if n=0 then some (⟨a,0,none⟩:Addr) else (some (⟨a,0,none⟩:Addr)).map (·.add (0*1))) (k-0) (n-0))=_;split <;> simp [Addr.add_lit]) U2 (by simp [oF,ai]) ap fl_ ?_;refine SH (((k+min k (n-k):Nat):Int)) U4 om_ om_ om_ U2<|C4 1 [7,8] d Z<|Sp (L':=[.arr (.slice (some ⟨a,0,none⟩) n n) 56 1 n (List.replicate (k+min k (n-k)) (ai s)++List.replicate (n-(k+min k (n-k))) (ai []))]) (by rw [ff (n:=n) om_ (Nat.min_le_left _ _) am,List.drop_replicate,Nat.sub_sub];rfl)<|Sj (m':=n-(k+min k (n-k))) om_ w (hn_ [7,8] Z) ⟨k+min k (n-k),⟨by omega,by omega⟩,Z,Z,Z⟩
 simp only [OL] at f;have o:k=n:=by omega
 subst o;refine C6 2 [4] Z<|Sh (SP Z Z ?_);exact ⟨a,Z,by simp⟩
theorem lS (C:Mem)(v:Value)(n:Nat)(s:Str)(g:Sl C 1 v [[ai s]])(y:n<=1000000):Jog.Fn cx.P 243 [v,.int .i64 n] C [] fun u _z e=>∃ b,u=.slice (some ⟨b,0,none⟩) n n/\e=[.arr u 56 1 n (List.replicate n (ai s))]:=by
 have p:=g;obtain ⟨A,c,rfl,_⟩:=p;refine Sc func243 48 U3 fun w0=>C6 1 [0,1] Z<|C6 2 [0,1,10] Z<|R6 (fun h=>?_) fun h=>?_
 ·simp at h;omega
 refine R4 2 Z fun R d=>SL (c:=1) U8 Z fl_<|R7 U6<|SL (c:=(n:Int)) U8 (by rw [IntKind.wrap_u64];omega) fl_<|Sk (kQ n om_ _) U7 fl_<|C4 5 [0,5,6] d Z<|R4 5 Z fun R d=>SA U8<|Sa [0,6,26] d Z<|R6 (fun i=>?_) fun i=>?_
 ·simp at i;omega
 refine R4 1 Z fun R d=>SL (c:=(n:Int)) U8 (by rw [IntKind.wrap_i64];omega) fl_<|S3 U9 (Oo _) (by show 16*n<=281474976710656;omega) (by simp only [maxLen];omega) fl_ fun a=>C4 1 [0,7] d Z<|R4 2 Z fun R d=>TH (j:=0) (q:=min 1 n) U12 g U2 (by rw [cI];show 0+min 1 n*1<=n*1;omega) fl_<|C4 1 [7,8] d Z ?_;have r:aD (jH [ai []] n) (([[ai s]]:List (List Value)).take (min 1 n)).flatten 0=List.replicate (min 1 n) (ai s)++List.replicate (n-min 1 n) (ai []):=by
  rw [yB];cases n with
  | zero=>rfl
  | succ n=>rw [show min 1 (n+1)=1 by omega,PH];rfl
 refine Sp (L':=[.arr (.slice (some ⟨a,0,none⟩) n n) 56 1 n (List.replicate (min 1 n) (ai s)++List.replicate (n-min 1 n) (ai []))]) (by rw [<- r];rfl)<|G.loop (fun fr C' e t=>∃ (k:Nat),(k<=n/\min 1 n<=k)/\fr=[(7,[],.slice (some ⟨a,0,none⟩) n n),(8,[],.int .i64 k)]/\e=[.arr (.slice (some ⟨a,0,none⟩) n n) 56 1 n (List.replicate k (ai s)++List.replicate (n-k) (ai []))]/\t=n-k) (hn_ [7,8] Z) ⟨min 1 n,⟨Nat.min_le_right _ _,Oo _⟩,Z,Z,Z⟩ (fun fr B D m w x=>?_);obtain ⟨k,⟨l,E⟩,rfl,rfl,rfl⟩:=x;refine C6 4 [7,8,37] Z<|R6 (fun f=>?_) fun f=>?_
 ·simp only [Oz] at f;have o:k<n:=by omega
  have F:1<=k:=by omega
  refine Ss [0,1,2,3,4,5,6,7,8,9] [] Z kr_ fun R H d=>R9 3 Z<|SX k n n U12 (fun _=>⟨.inr ⟨_,Z⟩,.inl ⟨Z,Z⟩,.inl ⟨Z,Z⟩,l,Oo _,Oo _⟩) U2<|R9 2 Z<|SX 0 k n U12 (fun _=>⟨.inl ⟨Z,Z⟩,.inr ⟨_,Z⟩,.inl ⟨Z,Z⟩,Ow _,l,Oo _⟩) U2 ?_;refine TG (j:=0) (off:=k) (g0:=a) (dl:=n-k) (dc:=n-k) (sl:=k-0) (sc:=n-0) (q:=min k (n-k)) U8 (by show some (Value.slice (if n=k then some (⟨a,0,none⟩:Addr) else (some (⟨a,0,none⟩:Addr)).map (·.add (k*1))) (n-k) (n-k))=_;rw [aA om_];simp [Addr.add_lit]) (by show some (Value.slice (if n=0 then some (⟨a,0,none⟩:Addr) else (some (⟨a,0,none⟩:Addr)).map (·.add (0*1))) (k-0) (n-0))=_;split <;> simp [Addr.add_lit]) U2 (by simp [oF,ai]) ap fl_ ?_;refine SH (((k+min k (n-k):Nat):Int)) U4 om_ om_ om_ U2<|C4 1 [7,8] d Z<|Sp (L':=[.arr (.slice (some ⟨a,0,none⟩) n n) 56 1 n (List.replicate (k+min k (n-k)) (ai s)++List.replicate (n-(k+min k (n-k))) (ai []))]) (by rw [ff (n:=n) om_ (Nat.min_le_left _ _) am,List.drop_replicate,Nat.sub_sub];rfl)<|Sj (m':=n-(k+min k (n-k))) om_ w (hn_ [7,8] Z) ⟨k+min k (n-k),⟨by omega,by omega⟩,Z,Z,Z⟩
 simp only [OL] at f;have o:k=n:=by omega
 subst o;refine C6 2 [4] Z<|Sh (SP Z Z ?_);exact ⟨a,Z,by simp⟩
theorem fE (C:Mem)(s p:Nat)(h:s*p<=100000):Jog.Fn cx.P 191 [fW s p] C [] fun u _f c=>∃ b,u=.slice (some ⟨b,0,none⟩) (s*p:Nat) (s*p:Nat)/\c=[.arr u 56 1 (s*p) (List.replicate (s*p) (ai [48]))]:=by
 refine Sc func191 7 U3 fun w0=>R8 fun R a=>So U6 fun g=>C4 1 [1] a Z<|Sx [(3,3)] Z fun R a=>Sr [[ai [48]]] U12 fun i _ _ d=>Sd af U9<|Sk (kJ _ s p om_) U7 fl_<|D.call (qO _ _ (s*p) [48] d.m_ om_) Z (.inr dc_) U6 (Ov _) fl_ fun j _ k _ e=>C4 1 [2] a Z ?_;obtain ⟨b,rfl,rfl⟩:=e;refine SQ 1 Z<|Sh (SP Z Z ?_);exact ⟨b,Z,Z⟩
def ofE (z:Int)(s p:Nat):Int:=if z≠0 then z else if 60<s*p then 4 else 0
def ofS (e:Int)(s p:Nat):Value:=if e=0 then fW s p else fW 0 0
structure BookZ (C:Mem)(bv:Value)(B:Bk)(z:Int):Prop where
 i:BookIn C bv B
 ch:∀ D:Mem,C.le D->Gives cx.P 36 [bv] D (.int .i64 z)
 ne:z=0->B.col≠[]
 lc:B.col.length<=1000
 lp:B.pts.length<=400
theorem BookZ.mono {C D:Mem}{a:Value}{B:Bk}{z:Int}(h:BookZ C a B z)(c:C.le D):BookZ D a B z:=⟨h.i.mono c,fun E d=>h.ch E (fun b o e=>d b o (c b o e)),h.ne,h.lc,h.lp⟩
theorem BookZ.m_ {D:Mem}{B:Bk}(h:BookZ C bv B z)(a:C.le D:=by exact mup):BookZ D bv B z:=BookZ.mono h a
def bs (B:Bk):Nat:=B.col.length-1
def bp (B:Bk):Nat:=B.pts.length
theorem Mx {B:Bk}(h:BookZ C bv B z):bs B*bp B<=400000:=by
 have h1:=h.lc;have h2:=h.lp;have:bs B*bp B<=1000*400:=P4 (by unfold bs;omega) (by unfold bp;omega);omega
theorem MY (C:Mem)(l:Value)(B:Bk)(z:Int)(c:BookZ C l B z):Gives cx.P 64 [l] C (.tuple #[ofS (ofE z (bs B) (bp B)) (bs B) (bp B),.int .i64 (ofE z (bs B) (bp B))]):=by
 obtain ⟨n,o,p,q,r,rfl,h1,h2,h3,h4,h5⟩:=id c.i.ex;obtain ⟨s,t,rfl,u,v,_⟩:=id h1;obtain ⟨w,x,rfl,y,A,_⟩:=id h4;have D:=Mx c;have E:=c.lc;have m:=c.ch;have F:maxLen<=9223372036854775807:=by simp [maxLen]
 simp only [al] at m ⊢;refine Sc func64 26 U3 fun w0=>R8 fun R a=>So U6 fun H=>Sq U5 fun I=>C4 1 [1,2] a Z<|G.freeze 1 Z fun _ _ g=>R8 fun R a=>R5 (bkT g 5) U8<|Sg (m _ mup) U7<|C4 1 [1,2,4] a Z<|C6 2 [1,2,4,9] Z<|R6 (fun f=>?_) fun f=>?_
 ·have b:z≠0:=by
   intro e;rw [e] at f;exact absurd f dc_
  have d:ofE z (bs B) (bp B)=z:=by unfold ofE;rw [aI b]
  refine R8 fun R a=>Sn [.int .i64 0,.int .i64 0] U8<|R7 U6<|Sf (j:=0) U12<|C4 1 [2,3] a Z<|Sh (Tl af U5 ?_);exact ⟨by rw [d];unfold ofS;rw [aA b];rfl,Z⟩
 have b:z=0:=by simpa using f
 have J:=O9.2 (c.ne b);have K:bs B+1=B.col.length:=by unfold bs;omega
 refine R4 1 Z fun R a=>R5 (bkT g 1) U8<|R7 U6<|SH (((bs B:Nat):Int)) U4 om_ om_ om_ U2<|R9 2 Z<|R5 (bkT g 1) U8<|R7 U6<|Sn [.int .i64 (bs B:Nat),.int .i64 (bp B:Nat)] U8<|Sq U5 fun L=>Sf (j:=0) U12<|Sa [2,5] a Z<|R8 fun R a=>Sd af U9<|Sk (kJ _ (bs B) (bp B) om_) U7 fl_<|C4 1 [2,5,23] a Z<|R6 (fun h=>?_) fun h=>?_
 ·have k:60<bs B*bp B:=by
   have:=NM h;omega
  have d:ofE z (bs B) (bp B)=4:=by unfold ofE;rw [b,aA dc_,aI k]
  refine R8 fun R a=>Sn [.int .i64 0,.int .i64 0] U8<|Sf (j:=1) U12<|C4 1 [2,3] a Z<|Sh (Tl af U5 ?_);exact ⟨by rw [d];rfl,Z⟩
 have k:¬ 60<bs B*bp B:=by
  have:=Ox h;omega
 have d:ofE z (bs B) (bp B)=0:=by unfold ofE;rw [b,aA dc_,aA k]
 refine R8 fun R a=>Sd af U9<|Sf (j:=1) U12<|C4 1 [2,3] a Z<|Sh (Tl af U5 ?_);exact ⟨by rw [d];rfl,Z⟩
theorem IP (C:Mem)(c:Value)(B:Bk)(z:Int)(b:BookZ C c B z):Gives cx.P 35 [c] C (.tuple #[.int .i64 (if ofE z (bs B) (bp B)=0 then ((bs B*bp B:Nat):Int) else 0),.int .i64 (ofE z (bs B) (bp B))]):=by
 have s:=Mx b;have g:=b;obtain ⟨k,l,m,n,o,rfl,h1,h2,h3,h4,h5⟩:=id b.i.ex;obtain ⟨e,d⟩:∃ e,ofE z (bs B) (bp B)=e:=⟨_,rfl⟩;have f:∀ D:Mem,C.le D->Gives cx.P 64 [.agg ⟨[k,l,m,n,o]⟩] D (.tuple #[ofS e (bs B) (bp B),.int .i64 e]):=fun D p=>by have h:=MY D _ B z (g.mono p);rwa [d] at h
 rw [d];have q:ofS e (bs B) (bp B)=.agg ⟨[.int .i64 (if e=0 then ((bs B:Nat):Int) else 0),.int .i64 (if e=0 then ((bp B:Nat):Int) else 0)]⟩:=by unfold ofS fW;split <;> rfl
 have r:∀ D:Mem,Gives cx.P 65 [.agg ⟨[.int .i64 (if e=0 then ((bs B:Nat):Int) else 0),.int .i64 (if e=0 then ((bp B:Nat):Int) else 0)]⟩] D (.int .i64 (if e=0 then ((bs B*bp B:Nat):Int) else 0)):=fun D=>by
  by_cases h:e=0
  ·rw [aI h,aI h,aI h];exact kJ D (bs B) (bp B) om_
  rw [aA h,aA h,aA h];exact kJ D 0 0 om_
 rw [q] at f;refine Sc func35 14 U3 fun w0=>R8 fun R a=>So U6 fun t=>C4 2 [1] a Z<|R8 fun R a=>Sd af U9<|Sg (f _ mup) U7<|R9 3 Z<|Sq U5 fun u=>Sf (j:=0) U12<|C4 1 [4,5] a Z<|R8 fun R a=>Sd af U9<|Sg (r _) U7<|C4 3 [2,3] a Z<|Sh (G.dropAll (Sy U3 ?_));exact ⟨Z,Z⟩
theorem N6 (C:Mem)(a:Value)(B:Bk)(b:BookZ C a B 0)(c:bs B*bp B<=60):Gives cx.P 64 [a] C (.tuple #[fW (bs B) (bp B),.int .i64 0]):=by
 have h:=MY C a B 0 b;have e:ofE 0 (bs B) (bp B)=0:=by unfold ofE;rw [aA dc_,aA om_]
 rw [e] at h;exact h
def ue (n:Nat)(done:List (Nat × Rat)):List Rat:=(List.range n).map fun j=>(cW done j).getD 0
def kw (n:Nat)(done:List (Nat × Rat)):List Value:=(ue n done).map fun q=>ai (qtx q)
theorem ld (n:Nat):List.replicate n (ai [48])=kw n []:=by
 unfold kw ue;rw [Pc];symm;rw [List.eq_replicate_iff];refine ⟨by simp,fun v a=>?_⟩;obtain ⟨j,_,rfl⟩:=OB.1 a;show ai (qtx 0)=_;rw [qtx_zero]
theorem lf (n:Nat)(a:List (Nat × Rat)):(kw n a).length=n:=by simp [kw,ue]
theorem eW (b:List (Nat × Rat))(q:Rat)(h:a<n):aD (kw n b) [ai (qtx q)] a=kw n ((a,q)::b):=by
 have g:=lf n b;unfold aD;refine List.ext_getElem? (fun j=>?_);have f:∀ (d:List (Nat × Rat)),(kw n d)[j]?=if j<n then some (ai (qtx ((cW d j).getD 0))) else none:=fun d=>by
  unfold kw ue;rw [Pc,Ou];split
  ·rename_i c;rw [O5 c];rfl
  rename_i c;rw [OD (by simpa using Nat.le_of_not_lt c)];rfl
 rw [f ((a,q)::b)];have e:((kw n b).take a).length=a:=by rw [OG,g];omega
 rcases Nat.lt_trichotomy j a with c | rfl | c
 ·rw [OU,Pi (by rw [e];exact c),O8,aI c,f b,aI om_,aI om_];simp only [cW];rw [aA om_]
 ·rw [OU,OY (by rw [e];exact Oo _),e,QK,aI h];simp [cW]
 rw [OY (by rw [Oy,e];simp;omega),Oy,e,List.getElem?_drop];rw [show a+[ai (qtx q)].length+(j-(a+[ai (qtx q)].length))=j by simp;omega,f b];split
 ·simp only [cW];rw [aA om_]
 rfl
theorem vc {d a:List (Nat × Rat)}(h:d.Perm a)(b:(d.map (·.1)).Nodup):ue n d=ue n a:=by
 unfold ue;refine List.map_congr_left (fun j _=>?_);rw [vy h b]
def eo (fm:List (Nat × Rat)):List (Int × Value):=fm.map fun x=>(((x.1:Nat):Int),ai (qtx x.2))
def GF (p surface:Nat)(sign:Rat)(x:Nat × Rat):Nat × Rat:=(surface*p+x.1,sign*x.2)
theorem ri:QB 1 (-1:Rat):=im QB_one
theorem xl (C:Mem)(s p a k:Nat)(h:a*p+k<=1000000):Gives cx.P 190 [fW s p,.int .i64 (a:Nat),.int .i64 (k:Nat)] C (.int .i64 ((a*p+k:Nat):Int)):=by
 have e:((a:Nat):Int)*(p:Nat)=((a*p:Nat):Int):=(Pj _ _).symm;have h2:=MH C s p (a:Nat) (k:Nat) (by rw [e];omega) om_;rw [e,<- QX] at h2;exact h2
def Hv (s p surface:Nat)(fm:List (Nat × Rat))(sign:Rat):List Rat:=ue (s*p) (fm.map (GF p surface sign))
theorem MJ (C:Mem)(J:Tabs C)(s p f b:Nat)(c:List (Nat × Rat))(g o:Rat)(k:Nat)(K:0<k)(hk:k<=1000)(ab:s*p<=100000)(hs:f<s)(A:C b=some (aN keyZ.enc (eo c)))(ac:(c.map (·.1)).Nodup)(ad:∀ x∈c,x.1<p)(ae:∀ x∈c,QB k x.2)(L:QB k g)(ag:QB k o) :
  Pur cx.P 196 [fW s p,.int .i64 f,.map (some b),ai (qtx g),ai (qtx o)] C fun u D=>∃ v,u=.agg ⟨[v,ai (qtx (g*o))]⟩/\Sl D 1 v ((Hv s p f c g).map eR):=by
 have av:maxLen<=9223372036854775807:=by simp [maxLen]
 have M:(eo c).length=c.length:=by simp [eo]
 have aw:f*p+p<=s*p:=by
  rw [<- Nat.succ_mul];exact Po _ hs
 have ay:=(c.map (·.1)).length;refine Sc func196 38 U3 fun w0=>R8 fun R l=>So U6 fun b5=>Sq U5 fun z=>Sa [1,2,3,4,5,10] l Z<|G.freeze 1 Z fun _ _ N=>Sx [(1,3)] Z fun R l=>R5 (bkT N 2) U8<|D.call (fE _ s p ab) Z (.inr dc_) U6 (Ov _) fl_ (fun az _ aA _ ah=>?_);obtain ⟨bz,rfl,rfl⟩:=ah;refine R9 2 Z<|Sk (dN _ J.m_ g o k K om_ L ag) U7 fl_<|Sn [.slice (some ⟨bz,0,none⟩) (s*p:Nat) (s*p:Nat),ai (qtx (g*o))] U8<|Sq U5 fun aj=>Sf (j:=0) U12<|Sa [1,2,3,5,10,11] l Z<|G.freeze 0 Z fun _ _ O=>Sp (L':=[.arr (.slice (some ⟨bz,0,none⟩) (s*p) (s*p)) 56 1 (s*p) (kw (s*p) []),.obj z (.cells ⟨[.slice none 0 0,ai []]⟩ 123 (0,0))]) (by rw [ld];rfl)<|R4 1 Z fun R l=>Ul keyZ (Mem.get A mup) Z Z Z Z Z Z Z fl_ fun E=>Sa [1,3,5,10,11,21] l Z<|G.loop (fun fr C' B μ=>∃ (seen:List Nat),(seen.Nodup/\(∀ j∈seen,j<c.length))/\fr=[(1,[],.int .i64 f),(3,[],ai (qtx g)),(5,[],.pointer (some ⟨b5,0,none⟩)),(10,[],.pointer (some ⟨z,0,none⟩)),(11,[],.pointer (some ⟨aj,0,none⟩)),(21,[],.pointer (some ⟨E,0,none⟩))]/\B=[.obj E (bl b (eo c).length seen),.arr (.slice (some ⟨bz,0,none⟩) (s*p) (s*p)) 56 1 (s*p) (kw (s*p) (seen.reverse.map fun i=>GF p f g (c.getD i (0,0)))),.obj z (.cells ⟨[.slice none 0 0,ai []]⟩ 123 (0,0))]/\μ=c.length-seen.length) (hn_ [1,3,5,10,11,21] Z) ⟨[],⟨List.nodup_nil,by simp⟩,Z,Z,Z⟩ (fun fr aB aC m _ hI=>?_);obtain ⟨seen,⟨Q,S⟩,rfl,rfl,rfl⟩:=hI;refine R8 fun R l=>Ut keyZ (q:=0) (Mem.get A mup) Z Z Z Z Z Z fl_ fun T aD t U=>C4 1 [1,3,5,10,11,21,23] l Z<|R6 (fun w=>?_) fun w=>?_
 ·obtain ⟨aE,j,F,al,rfl⟩:T=true/\∃ j,j<(eo c).length/\j ∉ seen/\t=seen++[j]:=by
   rcases U with ⟨h1,_⟩ | h1
   ·rw [h1] at w;cases w
   exact h1
  rw [M] at F;obtain ⟨⟨n,q⟩,H⟩:∃ x,c[j]?=some x:=⟨c[j],ak F⟩;have V:=Oq H;have aF:n<p:=ad _ V;have am:QB k q:=ae _ V;have an:(eo c)[j]?=some (((n:Nat):Int),ai (qtx q)):=by unfold eo;rw [Ou,H];rfl
  have ao:c.getD j (0,0)=(n,q):=by rw [ax,H];rfl
  have W:(seen++[j]).Nodup:=by
   rw [P3];exact ⟨Q,by simp,fun a ha b hb e=>by rw [OP.1 hb] at e;subst e;exact al ha⟩
  have X:∀ i∈seen++[j],i<c.length:=fun i I=>by
   rcases OJ.1 I with h | h
   ·exact S i h
   rw [OP.1 h];exact F
  have aG:(seen++[j]).length<=c.length:=by
   have:=List.Nodup.length_le_of_subset W (l₂:=List.range c.length) (fun i I=>ON.2 (X i I));simpa using this
  have aH:(seen++[j]).length=seen.length+1:=by simp
  have ap:f*p+n<s*p:=by omega
  refine R8 fun R l=>Uq keyZ (Mem.get A mup) an af Z Z Z Z Z Z Z<|C4 4 [1,3,5,10,11,12,13,21] l Z<|Ss [0,1,2,3,4,5,6,7,8,9,10] [(5,1),(8,1)] Z kr_ fun R hB l=>R7 U6<|R5 (bkT O 1) U8<|R5 (bkT N 2) U8<|R9 2 Z<|Su (fun _=>(xl _ s p f n om_)) U9<|R9 2 Z<|Su (fun _=>(dN _ J.m_ g q k K om_ L am)) U9<|SC ((f*p+n)) U10 (fun _=>⟨by omega,by omega,(Qi _).symm⟩) U2<|SG (j:=1) U11 (by rw [lf];simp;omega)<|Sa [1,3,5,10,11,21] l Z<|G.perm (L':=[.obj E (bl b (eo c).length (seen++[j])),.arr (.slice (some ⟨bz,0,none⟩) (s*p) (s*p)) 56 1 (s*p) (kw (s*p) ((seen++[j]).reverse.map fun i=>GF p f g (c.getD i (0,0)))),.obj z (.cells ⟨[.slice none 0 0,ai []]⟩ 123 (0,0))]) (by
   rw [List.reverse_append,List.reverse_singleton,List.singleton_append,O1,ao];unfold GF;rw [<- eW _ _ ap];exact List.Perm.swap _ _ _) ?_
  refine Sj (m':=c.length-(seen++[j]).length) om_ mup (hn_ [1,3,5,10,11,21] Z) ⟨seen++[j],⟨W,X⟩,Z,Z,Z⟩
 obtain ⟨aI,rfl,Y⟩:T=false/\t=seen/\∀ j,j<(eo c).length->j∈seen:=by
  rcases U with h1 | ⟨h1,_⟩
  ·exact h1
  rw [h1] at w;cases w
 rw [M] at Y;have aa:(t.reverse.map fun i=>GF p f g (c.getD i (0,0))).Perm (c.map (GF p f g)):=by
  have h1:=(uT (d:=((0:Nat),(0:Rat))) Q S Y).map (GF p f g);rw [Pc] at h1;exact ((List.reverse_perm t).map _).trans h1
 have aq:((c.map (GF p f g)).map (·.1)).Nodup:=by
  rw [Pc];have e:((·.1) ∘ GF p f g:Nat × Rat->Nat)=(fun k=>f*p+k) ∘ (·.1):=rfl;rw [e,<- Pc];rw [List.Nodup,List.pairwise_map];exact ac.imp (fun {a b} h=>by omega)
 have ar:kw (s*p) (t.reverse.map fun i=>GF p f g (c.getD i (0,0)))=((Hv s p f c g).map eR).flatten:=by
  unfold Hv kw;rw [vc aa ((aa.map (·.1)).nodup_iff.2 aq)];exact (dW (fun q=>ai (qtx q)) _).symm
 refine SQ 0 Z<|G.freezeArr 0 ((Hv s p f c g).map eR) rfl ar (by intro r hr;obtain ⟨y,_,rfl⟩:=OB.1 hr;rfl) (by simp [Hv,ue]) fun Cg hg au=>R8 fun R l=>R5 (bkT O 2) U8<|Sf (j:=0) U12<|Sa [10] l Z<|Sh (SV af U4 ?_);exact ⟨Z,_,Z,au⟩
structure RowQ where
 f:List Rat
 b:Rat
def aT (vs:List Value)(rows:List RowQ):List (List Value):=List.zipWith (fun w (r:RowQ)=>[w,ai (qtx r.b)]) vs rows
def RowsOk (C:Mem)(vs:List Value)(rows:List RowQ):Prop:=vs.length=rows.length/\∀ (i:Nat)(w:Value)(r:RowQ),vs[i]?=some w->rows[i]?=some r->Sl C 1 w (r.f.map eR)
theorem RowsOk.mono {C D:Mem}{a:List Value}{b:List RowQ}(h:RowsOk C a b)(c:C.le D):RowsOk D a b:=⟨h.1,fun i w r h1 h2=>(h.2 i w r h1 h2).mono c⟩
theorem RowsOk.m_ {D:Mem}{a:List RowQ}(h:RowsOk C vs a)(b:C.le D:=by exact mup):RowsOk D vs a:=RowsOk.mono h b
theorem RowsOk.nil (C:Mem):RowsOk C [] []:=⟨rfl,fun i w r h1 _=>by simp at h1⟩
theorem RowsOk.snoc {a:List RowQ}{r:RowQ}(h:RowsOk C vs a)(c:Sl C 1 v (r.f.map eR)):RowsOk C (vs++[v]) (a++[r]):=by
 have h0:=h.1;refine ⟨by simp [h0],fun j w d h1 h2=>?_⟩;rcases OZ j vs.length with e | g
 ·rw [Pi e] at h1;rw [Pi om_] at h2;exact h.2 j w d h1 h2
 rw [OY g] at h1;rw [OY om_,<- h0] at h2;cases b:j-vs.length with
 | zero=>rw [b] at h1 h2;simp at h1 h2;subst h1;subst h2;exact c
 | succ q=>rw [b] at h1;simp at h1
theorem eQ {a:List RowQ}(h:vs.length=a.length)(v:Value)(r:RowQ):aT (vs++[v]) (a++[r])=aT vs a++[[v,ai (qtx r.b)]]:=by
 unfold aT;rw [List.zipWith_append h];rfl
theorem dU {a:List RowQ}(h:vs.length=a.length):(aT vs a).length=a.length:=by simp [aT,h]
theorem iE (b:List Value)(c:List RowQ):∀ r∈aT b c,r.length=2:=by
 intro r hr;unfold aT at hr;obtain ⟨i,a⟩:=PQ hr;rw [List.getElem?_zipWith] at a;cases h1:b[i]? <;> cases h2:c[i]? <;> rw [h1,h2] at a <;> simp at a
 subst a;rfl
def RowsIn (C:Mem)(v:Value)(rows:List RowQ):Prop:=∃ vs:List Value,RowsOk C vs rows/\Sl C 2 v (aT vs rows)
theorem RowsIn.mono {C D:Mem}{v:Value}{a:List RowQ}(h:RowsIn C v a)(b:C.le D):RowsIn D v a:=by
 obtain ⟨vs,h1,h2⟩:=h;exact ⟨vs,h1.mono b,h2.mono b⟩
theorem RowsIn.m_ {D:Mem}{a:List RowQ}(h:RowsIn C v a)(b:C.le D:=by exact mup):RowsIn D v a:=RowsIn.mono h b
def rq (s p:Nat)(x:Lay)(i k:Nat):RowQ:=⟨ue (s*p) [(i*p+k, -1),((i-1)*p+k,1)], -x.min⟩
def Fj (s p:Nat)(m:Rat)(i k:Nat):RowQ:=⟨ue (s*p) [(i*p+k,1),((i-1)*p+k, -1)],m⟩
def my (s p:Nat)(x:Lay)(i k:Nat):List RowQ :=
 rq s p x i k::(match x.max with
  | none=>[]
  | some m=>[Fj s p m i k])
def bk (s p:Nat)(x:Lay)(i:Nat):Nat->List RowQ
 | 0=>[]
 | k+1=>bk s p x i k++my s p x i k
def bd (s p:Nat)(col:List Lay):Nat->List RowQ
 | 0=>[]
 | n+1=>bd s p col n++bk s p (col.getD (n+1) ⟨[],0,none⟩) (n+1) p
theorem lO (s p:Nat)(x:Lay)(i:Nat):∀ k,(bk s p x i k).length<=2*k
 | 0=>Oo _
 | k+1=>by
  have:=lO s p x i k;have h2:(my s p x i k).length<=2:=by unfold my;split <;> simp
  simp only [bk,Oy];omega
theorem lN (s p:Nat)(a:List Lay):∀ n,(bd s p a n).length<=2*(n*p)
 | 0=>by simp [bd]
 | n+1=>by
  have:=lN s p a n;have h2:=lO s p (a.getD (n+1) ⟨[],0,none⟩) (n+1) p;simp only [bd,Oy,Nat.succ_mul];omega
theorem cM:qtx (-1)=[45,49]:=by
 rw [fL (q:=1) dc_ dc_,de]
theorem st2 (c d:Rat)(e:a<n)(f:b<n):aD (aD (List.replicate n (ai [48])) [ai (qtx c)] a) [ai (qtx d)] b=kw n [(b,d),(a,c)]:=by
 rw [ld,eW _ _ e,eW _ _ f]
theorem ND (c d:Rat)(e:a<n)(f:b<n)(g:a≠b):aD (aD (List.replicate n (ai [48])) [ai (qtx d)] b) [ai (qtx c)] a=kw n [(b,d),(a,c)]:=by
 rw [st2 d c f e];unfold kw;rw [vc (List.Perm.swap _ _ _) (by simp;exact g)]
theorem iS (n:Nat)(d:List (Nat × Rat)):kw n d=((ue n d).map eR).flatten:=(dW (fun q=>ai (qtx q)) _).symm
theorem jf (n:Nat)(d:List (Nat × Rat)):(ue n d).length=n:=by simp [ue]
theorem uD (C:Mem)(_aL:Tabs C)(v:Value)(s p:Nat)(c:List Lay)(J:Sl C 3 v (c.map xR))(hs:s+1=c.length)(aM:s*p<=60)(an:∀ x∈c,Mh x) :
  Pur cx.P 127 [fW s p,v] C fun u D=>RowsIn D u (bd s p c (c.length-2)):=by
 obtain ⟨F,c0,rfl,ao,aN,_⟩:=id J;have aO:maxLen<=9223372036854775807:=by simp [maxLen]
 simp only [al] at J ao ⊢;refine Sc func127 81 U3 fun w0=>R8 fun R d=>So U6 fun H=>C4 1 [1,2] d Z<|G.freeze 0 Z fun _ _ K=>C6 1 [1,2,5] Z<|C6 1 [1,2,5,6] Z<|G.nilArr 123 2<|G.loop (fun fr C' f t=>∃ (i:Nat)(vs:List Value)(w:Value),(1<=i/\(i+1<=c.length∨i=1)/\RowsOk C' vs (bd s p c (i-1)))/\fr=[(1,[],.slice F c.length c0),(2,[],.pointer (some ⟨H,0,none⟩)),(5,[],w),(6,[],.int .i64 i)]/\f=[.arr w 123 2 (bd s p c (i-1)).length (aT vs (bd s p c (i-1))).flatten]/\t=c.length-i) (hn_ [1,2,5,6] Z) ⟨1,[],_,⟨Oo _,.inr Z,RowsOk.nil _⟩,Z,Z,Z⟩ (fun fr aP aQ m _ z=>?_);obtain ⟨i,vs,w,⟨aR,aS,O⟩,rfl,rfl,rfl⟩:=z;refine R4 1 Z fun R d=>Se _ U7<|C4 3 [1,2,5,6,15] d Z<|R6 (fun W=>?_) fun W=>?_
 ·have ac:i+1<c.length:=by
   have:=NM W;omega
  obtain ⟨x,L⟩:∃ x,c[i]?=some x:=⟨c[i]'om_,ak om_⟩;obtain ⟨M,aU,aW⟩:=an x (Oq L);have aX:=lN s p c (i-1);refine R4 1 Z fun R d=>R5 (bkT K 1) U8<|C4 1 [1,2,5,6,19,20] d Z<|Sp (L':=[.arr w 123 2 (bd s p c (i-1)++bk s p x i 0).length (aT vs (bd s p c (i-1)++bk s p x i 0)).flatten]) (by simp [bk])<|G.loop (fun fr C' f t=>∃ (k:Nat)(g:List Value)(o:Value),(k<=p/\RowsOk C' g (bd s p c (i-1)++bk s p x i k))/\fr=[(1,[],.slice F c.length c0),(2,[],.pointer (some ⟨H,0,none⟩)),(5,[],o),(6,[],.int .i64 i),(19,[],.int .i64 p),(20,[],.int .i64 k)]/\f=[.arr o 123 2 (bd s p c (i-1)++bk s p x i k).length (aT g (bd s p c (i-1)++bk s p x i k)).flatten]/\t=p-k) (hn_ [1,2,5,6,19,20] Z) ⟨0,vs,w,⟨Ow _,by simpa [bk] using O⟩,Z,Z,Z⟩ (fun fr aY aZ m _ z=>?_);obtain ⟨k,g,o,⟨hk,X⟩,rfl,rfl,rfl⟩:=z;refine C6 1 [1,2,5,6,19,20,21] Z<|R6 (fun Y=>?_) fun Y=>?_
  ·have ad:k<p:=by simpa using Y
   have a0:i*p+p<=s*p:=by
    rw [<- Nat.succ_mul];exact Po _ om_
   have a1:(i-1)*p+p=i*p:=by
    rw [<- Nat.succ_mul,show (i-1).succ=i by omega]
   have a2:=lO s p x i k;have a3:(i-1)*p<=60:=by omega
   have ag:(bd s p c (i-1)++bk s p x i k).length<=400:=by
    rw [Oy];omega
   refine C6 2 [1,2,5,6,7,19,20] Z<|Ss [0,1,2,3,4,5,6,7,8,9,10] [(4,1),(8,1)] Z kr_ fun R Q d=>R5 (bkT K 2) U8<|R7 U6<|SH (((i-1:Nat):Int)) U4 om_ om_ om_ U2<|R7 U6<|Su (fun _=>(xl _ s p (i-1) k om_)) U9<|R5 (bkT K 2) U8<|R9 2 Z<|Su (fun _=>(xl _ s p i k om_)) U9<|C4 2 [1,2,5,6,8,9,19,20] d Z<|G.cut (fun fr C' f t=>∃ (bz e:Nat),(True)/\fr=[(1,[],.slice F c.length c0),(2,[],.pointer (some ⟨H,0,none⟩)),(5,[],o),(6,[],.int .i64 i),(8,[],.int .i64 ((((i-1)*p+k:Nat)):Int)),(9,[],.int .i64 (((i*p+k:Nat)):Int)),(10,[],.pointer (some ⟨e,0,none⟩)),(19,[],.int .i64 p),(20,[],.int .i64 k)]/\f=[.arr (.slice (some ⟨bz,0,none⟩) (s*p) (s*p)) 56 1 (s*p) (List.replicate (s*p) (ai [48])),.obj e (.cells ⟨[.slice (some ⟨bz,0,none⟩) (s*p) (s*p),ai (qtx (-x.min))]⟩ 123 (0,0)),.arr o 123 2 (bd s p c (i-1)++bk s p x i k).length (aT g (bd s p c (i-1)++bk s p x i k)).flatten]) ?_ (fun fr a4 a5 t a6 z=>?_)
   ·refine SR (.cut [0,2,3,4,5] (.alt 1 (.fin [6,7,8,9,10]) (.alt 6 (.cut [] (.alt 1 (.fin [7,8,9,10]) (.alt 9 (.fin [1,7,8,10]) .stop))) (.alt 9 (.cut [] (.alt 1 (.fin [6,7,8,10]) (.alt 6 (.fin [1,7,8,10]) .stop))) .stop)))) [(7,1),(1,3)] Z Z kr_ fun R Q d B=>R5 (bkT K 2) U8<|R9 2 Z<|Sm J.m_ U10 om_ (bO L) fl_ fun a7 ap=>Tu ap U10 fl_ fun a8 S=>SE B Z ⟨?_, ?_, ?_,trivial⟩
    ·refine D.call (fE _ s p om_) Z (.inr dc_) U6 (Ov _) fl_ fun T U V _ E=>R5 S.m_ U8<|SF (fun _=>(eJ _ x.min (BE M))) U9 ?_;obtain ⟨bz,rfl,rfl⟩:=E;refine Sn [.slice (some ⟨bz,0,none⟩) (s*p:Nat) (s*p:Nat),ai (qtx (-x.min))] U8<|Sq U5 (fun e=>?_)
     first | refine SU (j:=0) U12 ?_ | refine SU (j:=1) U12 ?_
     exact Sa [1,2,5,6,8,9,10,19,20] d Z<|G.perm (L':=[.arr (.slice (some ⟨bz,0,none⟩) (s*p) (s*p)) 56 1 (s*p) (List.replicate (s*p) (ai [48])),.obj e (.cells ⟨[.slice (some ⟨bz,0,none⟩) (s*p) (s*p),ai (qtx (-x.min))]⟩ 123 (0,0)),.arr o 123 2 (bd s p c (i-1)++bk s p x i k).length (aT g (bd s p c (i-1)++bk s p x i k)).flatten]) (by first | exact Ov _ | exact List.Perm.swap _ _ _)<|Si 0 mup (hn_ [1,2,5,6,8,9,10,19,20] Z) ⟨bz,e,trivial,Z,Z⟩
    ·refine R5 S.m_ U8<|SE B Z ⟨?_, ?_,trivial⟩
     ·refine D.call (fE _ s p om_) Z (.inr dc_) U6 (Ov _) fl_ fun T U V _ E=>SF (fun _=>(eJ _ x.min (BE M))) U9 ?_;obtain ⟨bz,rfl,rfl⟩:=E;refine Sn [.slice (some ⟨bz,0,none⟩) (s*p:Nat) (s*p:Nat),ai (qtx (-x.min))] U8<|Sq U5 (fun e=>?_)
      first | refine SU (j:=0) U12 ?_ | refine SU (j:=1) U12 ?_
      exact Sa [1,2,5,6,8,9,10,19,20] d Z<|G.perm (L':=[.arr (.slice (some ⟨bz,0,none⟩) (s*p) (s*p)) 56 1 (s*p) (List.replicate (s*p) (ai [48])),.obj e (.cells ⟨[.slice (some ⟨bz,0,none⟩) (s*p) (s*p),ai (qtx (-x.min))]⟩ 123 (0,0)),.arr o 123 2 (bd s p c (i-1)++bk s p x i k).length (aT g (bd s p c (i-1)++bk s p x i k)).flatten]) (by first | exact Ov _ | exact List.Perm.swap _ _ _)<|Si 0 mup (hn_ [1,2,5,6,8,9,10,19,20] Z) ⟨bz,e,trivial,Z,Z⟩
     refine Sq U5 fun e=>D.call (fE _ s p om_) Z (.inr dc_) U6 (Ov _) fl_ fun T U V _ E=>SF (fun _=>(eJ _ x.min (BE M))) U9 ?_;obtain ⟨bz,rfl,rfl⟩:=E;refine Sn [.slice (some ⟨bz,0,none⟩) (s*p:Nat) (s*p:Nat),ai (qtx (-x.min))] U8 ?_
     first | refine SU (j:=0) U12 ?_ | refine SU (j:=1) U12 ?_
     exact Sa [1,2,5,6,8,9,10,19,20] d Z<|G.perm (L':=[.arr (.slice (some ⟨bz,0,none⟩) (s*p) (s*p)) 56 1 (s*p) (List.replicate (s*p) (ai [48])),.obj e (.cells ⟨[.slice (some ⟨bz,0,none⟩) (s*p) (s*p),ai (qtx (-x.min))]⟩ 123 (0,0)),.arr o 123 2 (bd s p c (i-1)++bk s p x i k).length (aT g (bd s p c (i-1)++bk s p x i k)).flatten]) (by first | exact Ov _ | exact List.Perm.swap _ _ _)<|Si 0 mup (hn_ [1,2,5,6,8,9,10,19,20] Z) ⟨bz,e,trivial,Z,Z⟩
    refine Sq U5 fun e=>SE B Z ⟨?_, ?_,trivial⟩
    ·refine D.call (fE _ s p om_) Z (.inr dc_) U6 (Ov _) fl_ fun T U V _ E=>R5 S.m_ U8<|SF (fun _=>(eJ _ x.min (BE M))) U9 ?_;obtain ⟨bz,rfl,rfl⟩:=E;refine Sn [.slice (some ⟨bz,0,none⟩) (s*p:Nat) (s*p:Nat),ai (qtx (-x.min))] U8 ?_
     first | refine SU (j:=0) U12 ?_ | refine SU (j:=1) U12 ?_
     exact Sa [1,2,5,6,8,9,10,19,20] d Z<|G.perm (L':=[.arr (.slice (some ⟨bz,0,none⟩) (s*p) (s*p)) 56 1 (s*p) (List.replicate (s*p) (ai [48])),.obj e (.cells ⟨[.slice (some ⟨bz,0,none⟩) (s*p) (s*p),ai (qtx (-x.min))]⟩ 123 (0,0)),.arr o 123 2 (bd s p c (i-1)++bk s p x i k).length (aT g (bd s p c (i-1)++bk s p x i k)).flatten]) (by first | exact Ov _ | exact List.Perm.swap _ _ _)<|Si 0 mup (hn_ [1,2,5,6,8,9,10,19,20] Z) ⟨bz,e,trivial,Z,Z⟩
    refine R5 S.m_ U8<|D.call (fE _ s p om_) Z (.inr dc_) U6 (Ov _) fl_ fun T U V _ E=>SF (fun _=>(eJ _ x.min (BE M))) U9 ?_;obtain ⟨bz,rfl,rfl⟩:=E;refine Sn [.slice (some ⟨bz,0,none⟩) (s*p:Nat) (s*p:Nat),ai (qtx (-x.min))] U8 ?_
    first | refine SU (j:=0) U12 ?_ | refine SU (j:=1) U12 ?_
    exact Sa [1,2,5,6,8,9,10,19,20] d Z<|G.perm (L':=[.arr (.slice (some ⟨bz,0,none⟩) (s*p) (s*p)) 56 1 (s*p) (List.replicate (s*p) (ai [48])),.obj e (.cells ⟨[.slice (some ⟨bz,0,none⟩) (s*p) (s*p),ai (qtx (-x.min))]⟩ 123 (0,0)),.arr o 123 2 (bd s p c (i-1)++bk s p x i k).length (aT g (bd s p c (i-1)++bk s p x i k)).flatten]) (by first | exact Ov _ | exact List.Perm.swap _ _ _)<|Si 0 mup (hn_ [1,2,5,6,8,9,10,19,20] Z) ⟨bz,e,trivial,Z,Z⟩
   obtain ⟨bz,e,_,rfl,rfl⟩:=z;refine G.cut (fun fr C' f t=>(True)/\fr=[(1,[],.slice F c.length c0),(2,[],.pointer (some ⟨H,0,none⟩)),(5,[],o),(6,[],.int .i64 i),(8,[],.int .i64 ((((i-1)*p+k:Nat)):Int)),(9,[],.int .i64 (((i*p+k:Nat)):Int)),(10,[],.pointer (some ⟨e,0,none⟩)),(19,[],.int .i64 p),(20,[],.int .i64 k)]/\f=[.arr (.slice (some ⟨bz,0,none⟩) (s*p) (s*p)) 56 1 (s*p) (kw (s*p) [(i*p+k, -1),((i-1)*p+k,1)]),.obj e (.cells ⟨[.slice (some ⟨bz,0,none⟩) (s*p) (s*p),ai (qtx (-x.min))]⟩ 123 (0,0)),.arr o 123 2 (bd s p c (i-1)++bk s p x i k).length (aT g (bd s p c (i-1)++bk s p x i k)).flatten]) ?_ (fun fr a9 ba t bb z=>?_)
   ·refine SR (.cut [0,1,2,3,5,6] (.alt 4 (.fin [7,8,9]) (.alt 7 (.fin [4,8,9]) .stop))) [] Z Z kr_ fun R Q d B=>R7 U6<|Sd ae U9<|R9 3 Z<|SC (((i-1)*p+k)) U10 (fun _=>⟨by omega,by omega,(Qi _).symm⟩) U2<|SE B Z ⟨?_, ?_,trivial⟩
    ·refine Sd ae U9<|SG (j:=0) U11 (by simp [];omega)<|SC ((i*p+k)) U10 (fun _=>⟨by omega,by omega,(Qi _).symm⟩) U2<|SG (j:=0) U11 (by simp [aD];omega)<|Sa [1,2,5,6,8,9,10,19,20] d Z<|Sp (L':=[.arr (.slice (some ⟨bz,0,none⟩) (s*p) (s*p)) 56 1 (s*p) (kw (s*p) [(i*p+k, -1),((i-1)*p+k,1)]),.obj e (.cells ⟨[.slice (some ⟨bz,0,none⟩) (s*p) (s*p),ai (qtx (-x.min))]⟩ 123 (0,0)),.arr o 123 2 (bd s p c (i-1)++bk s p x i k).length (aT g (bd s p c (i-1)++bk s p x i k)).flatten]) (by
      first
      | (rw [<- st2 (n:=s*p) 1 (-1) om_ om_,de,cM];rfl)
      | (rw [<- ND (n:=s*p) 1 (-1) om_ om_ om_,de,cM];rfl)) ?_
     exact Si 0 (Mem.le.refl _) (hn_ [1,2,5,6,8,9,10,19,20] Z) ⟨trivial,Z,Z⟩
    refine SG (j:=0) U11 (by simp [];omega)<|Sd ae U9<|SC ((i*p+k)) U10 (fun _=>⟨by omega,by omega,(Qi _).symm⟩) U2<|SG (j:=0) U11 (by simp [aD];omega)<|Sa [1,2,5,6,8,9,10,19,20] d Z<|Sp (L':=[.arr (.slice (some ⟨bz,0,none⟩) (s*p) (s*p)) 56 1 (s*p) (kw (s*p) [(i*p+k, -1),((i-1)*p+k,1)]),.obj e (.cells ⟨[.slice (some ⟨bz,0,none⟩) (s*p) (s*p),ai (qtx (-x.min))]⟩ 123 (0,0)),.arr o 123 2 (bd s p c (i-1)++bk s p x i k).length (aT g (bd s p c (i-1)++bk s p x i k)).flatten]) (by
     first
     | (rw [<- st2 (n:=s*p) 1 (-1) om_ om_,de,cM];rfl)
     | (rw [<- ND (n:=s*p) 1 (-1) om_ om_ om_,de,cM];rfl)) ?_
    exact Si 0 (Mem.le.refl _) (hn_ [1,2,5,6,8,9,10,19,20] Z) ⟨trivial,Z,Z⟩
   obtain ⟨_,rfl,rfl⟩:=z;refine G.freezeArr 0 ((ue (s*p) [(i*p+k, -1),((i-1)*p+k,1)]).map eR) rfl (iS _ _) (by intro r hr;obtain ⟨y,_,rfl⟩:=OB.1 hr;rfl) (by simp [jf]) (fun Cz hz aq=>?_);have ar:=X.1;have aa:=RowsOk.snoc (r:=rq s p x i k) X.m_ aq;have au:=eQ ar (.slice (some ⟨bz,0,none⟩) (s*p) (s*p)) (rq s p x i k);refine R4 1 Z fun R d=>Sd af U9<|Sr [[.slice (some ⟨bz,0,none⟩) (s*p:Nat) (s*p:Nat),ai (qtx (-x.min))]] U12 fun bc _ _ av=>D.append (j:=1) U11 av Z aw (by simp only [aV];omega) fl_ fun A=>C4 1 [1,2,5,6,8,9,10,19,20] d Z<|Sp (L':=[.arr A 123 2 (bd s p c (i-1)++bk s p x i k++[rq s p x i k]).length (aT (g++[.slice (some ⟨bz,0,none⟩) (s*p) (s*p)]) (bd s p c (i-1)++bk s p x i k++[rq s p x i k])).flatten,.obj e (.cells ⟨[.slice (some ⟨bz,0,none⟩) (s*p) (s*p),ai (qtx (-x.min))]⟩ 123 (0,0))]) (by rw [au];simp [rq];omega)<|R4 2 Z fun R d=>Sm J.m_ U10 om_ (bO L) fl_ fun be ax=>Tu ax U10 fl_ fun bf ay=>R5 ay U8<|C4 1 [1,2,5,6,8,9,10,19,20,58] d Z<|R6 (fun I=>?_) fun I=>?_
   ·obtain ⟨m,hm⟩:∃ m,x.max=some m:=by
     rw [oE] at I;exact Rn.1 I
    have N:my s p x i k=[rq s p x i k,Fj s p m i k]:=by unfold my;rw [hm]
    have az:uf x.max=qtx m:=by rw [hm];rfl
    refine G.cut (fun fr C' f t=>∃ (h:Nat),(True)/\fr=[(1,[],.slice F c.length c0),(2,[],.pointer (some ⟨H,0,none⟩)),(5,[],A),(6,[],.int .i64 i),(8,[],.int .i64 ((((i-1)*p+k:Nat)):Int)),(9,[],.int .i64 (((i*p+k:Nat)):Int)),(10,[],.pointer (some ⟨e,0,none⟩)),(19,[],.int .i64 p),(20,[],.int .i64 k)]/\f=[.arr (.slice (some ⟨h,0,none⟩) (s*p) (s*p)) 56 1 (s*p) (List.replicate (s*p) (ai [48])),.obj e (.cells ⟨[.slice (some ⟨h,0,none⟩) (s*p) (s*p),ai (uf x.max)]⟩ 123 (0,0)),.arr A 123 2 (bd s p c (i-1)++bk s p x i k++[rq s p x i k]).length (aT (g++[.slice (some ⟨bz,0,none⟩) (s*p) (s*p)]) (bd s p c (i-1)++bk s p x i k++[rq s p x i k])).flatten]) ?_ (fun fr bg bh t bi z=>?_)
    ·refine SR (.cut [0,2,3,4,5] (.alt 1 (.fin [6,7,8]) (.alt 6 (.fin [1,7,8]) .stop))) [(1,3)] Z Z kr_ fun R Q d B=>R5 (bkT K 2) U8<|R9 2 Z<|Sm J.m_ U10 om_ (bO L) fl_ fun bj aA=>Tu aA U10 fl_ fun bl ah=>SE B Z ⟨?_, ?_,trivial⟩
     ·refine D.call (fE _ s p om_) Z (.inr dc_) U6 (Ov _) fl_ fun aB aC aE _ ab=>R5 ah.m_ U8 ?_;obtain ⟨h,rfl,rfl⟩:=ab;refine Sn [.slice (some ⟨h,0,none⟩) (s*p:Nat) (s*p:Nat),ai (uf x.max)] U8 ?_
      first | refine SU (j:=2) U12 ?_ | refine SU (j:=1) U12 ?_
      exact Sa [1,2,5,6,8,9,10,19,20] d Z<|G.perm (L':=[.arr (.slice (some ⟨h,0,none⟩) (s*p) (s*p)) 56 1 (s*p) (List.replicate (s*p) (ai [48])),.obj e (.cells ⟨[.slice (some ⟨h,0,none⟩) (s*p) (s*p),ai (uf x.max)]⟩ 123 (0,0)),.arr A 123 2 (bd s p c (i-1)++bk s p x i k++[rq s p x i k]).length (aT (g++[.slice (some ⟨bz,0,none⟩) (s*p) (s*p)]) (bd s p c (i-1)++bk s p x i k++[rq s p x i k])).flatten]) (by first | exact Ov _ | exact List.Perm.swap _ _ _)<|Si 0 mup (hn_ [1,2,5,6,8,9,10,19,20] Z) ⟨h,trivial,Z,Z⟩
     refine R5 ah.m_ U8<|D.call (fE _ s p om_) Z (.inr dc_) U6 (Ov _) fl_ (fun aB aC aE _ ab=>?_);obtain ⟨h,rfl,rfl⟩:=ab;refine Sn [.slice (some ⟨h,0,none⟩) (s*p:Nat) (s*p:Nat),ai (uf x.max)] U8 ?_
     first | refine SU (j:=2) U12 ?_ | refine SU (j:=1) U12 ?_
     exact Sa [1,2,5,6,8,9,10,19,20] d Z<|G.perm (L':=[.arr (.slice (some ⟨h,0,none⟩) (s*p) (s*p)) 56 1 (s*p) (List.replicate (s*p) (ai [48])),.obj e (.cells ⟨[.slice (some ⟨h,0,none⟩) (s*p) (s*p),ai (uf x.max)]⟩ 123 (0,0)),.arr A 123 2 (bd s p c (i-1)++bk s p x i k++[rq s p x i k]).length (aT (g++[.slice (some ⟨bz,0,none⟩) (s*p) (s*p)]) (bd s p c (i-1)++bk s p x i k++[rq s p x i k])).flatten]) (by first | exact Ov _ | exact List.Perm.swap _ _ _)<|Si 0 mup (hn_ [1,2,5,6,8,9,10,19,20] Z) ⟨h,trivial,Z,Z⟩
    obtain ⟨h,_,rfl,rfl⟩:=z;refine G.cut (fun fr C' f t=>(True)/\fr=[(1,[],.slice F c.length c0),(2,[],.pointer (some ⟨H,0,none⟩)),(5,[],A),(6,[],.int .i64 i),(10,[],.pointer (some ⟨e,0,none⟩)),(19,[],.int .i64 p),(20,[],.int .i64 k)]/\f=[.arr (.slice (some ⟨h,0,none⟩) (s*p) (s*p)) 56 1 (s*p) (kw (s*p) [(i*p+k,1),((i-1)*p+k, -1)]),.obj e (.cells ⟨[.slice (some ⟨h,0,none⟩) (s*p) (s*p),ai (uf x.max)]⟩ 123 (0,0)),.arr A 123 2 (bd s p c (i-1)++bk s p x i k++[rq s p x i k]).length (aT (g++[.slice (some ⟨bz,0,none⟩) (s*p) (s*p)]) (bd s p c (i-1)++bk s p x i k++[rq s p x i k])).flatten]) ?_ (fun fr bm bn t bo z=>?_)
    ·refine SR (.cut [0,1,2,3,5,6] (.alt 4 (.fin [7,8,9]) (.alt 7 (.fin [4,8,9]) .stop))) [] Z Z kr_ fun R Q d B=>R7 U6<|Sd ae U9<|R9 3 Z<|SC (((i-1)*p+k)) U10 (fun _=>⟨by omega,by omega,(Qi _).symm⟩) U2<|SE B Z ⟨?_, ?_,trivial⟩
     ·refine Sd ae U9<|SG (j:=0) U11 (by simp [];omega)<|SC ((i*p+k)) U10 (fun _=>⟨by omega,by omega,(Qi _).symm⟩) U2<|SG (j:=0) U11 (by simp [aD];omega)<|Sa [1,2,5,6,10,19,20] d Z<|Sp (L':=[.arr (.slice (some ⟨h,0,none⟩) (s*p) (s*p)) 56 1 (s*p) (kw (s*p) [(i*p+k,1),((i-1)*p+k, -1)]),.obj e (.cells ⟨[.slice (some ⟨h,0,none⟩) (s*p) (s*p),ai (uf x.max)]⟩ 123 (0,0)),.arr A 123 2 (bd s p c (i-1)++bk s p x i k++[rq s p x i k]).length (aT (g++[.slice (some ⟨bz,0,none⟩) (s*p) (s*p)]) (bd s p c (i-1)++bk s p x i k++[rq s p x i k])).flatten]) (by
       first
       | (rw [<- st2 (n:=s*p) (-1) 1 om_ om_,de,cM];rfl)
       | (rw [<- ND (n:=s*p) (-1) 1 om_ om_ om_,de,cM];rfl)) ?_
      exact Si 0 (Mem.le.refl _) (hn_ [1,2,5,6,10,19,20] Z) ⟨trivial,Z,Z⟩
     refine SG (j:=0) U11 (by simp [];omega)<|Sd ae U9<|SC ((i*p+k)) U10 (fun _=>⟨by omega,by omega,(Qi _).symm⟩) U2<|SG (j:=0) U11 (by simp [aD];omega)<|Sa [1,2,5,6,10,19,20] d Z<|Sp (L':=[.arr (.slice (some ⟨h,0,none⟩) (s*p) (s*p)) 56 1 (s*p) (kw (s*p) [(i*p+k,1),((i-1)*p+k, -1)]),.obj e (.cells ⟨[.slice (some ⟨h,0,none⟩) (s*p) (s*p),ai (uf x.max)]⟩ 123 (0,0)),.arr A 123 2 (bd s p c (i-1)++bk s p x i k++[rq s p x i k]).length (aT (g++[.slice (some ⟨bz,0,none⟩) (s*p) (s*p)]) (bd s p c (i-1)++bk s p x i k++[rq s p x i k])).flatten]) (by
      first
      | (rw [<- st2 (n:=s*p) (-1) 1 om_ om_,de,cM];rfl)
      | (rw [<- ND (n:=s*p) (-1) 1 om_ om_ om_,de,cM];rfl)) ?_
     exact Si 0 (Mem.le.refl _) (hn_ [1,2,5,6,10,19,20] Z) ⟨trivial,Z,Z⟩
    obtain ⟨_,rfl,rfl⟩:=z;refine G.freezeArr 0 ((ue (s*p) [(i*p+k,1),((i-1)*p+k, -1)]).map eR) rfl (iS _ _) (by intro r hr;obtain ⟨y,_,rfl⟩:=OB.1 hr;rfl) (by simp [jf]) (fun bp bq aF=>?_);have aG:=RowsOk.snoc (r:=Fj s p m i k) aa.m_ aF;have aH:=eQ aa.1 (.slice (some ⟨h,0,none⟩) (s*p) (s*p)) (Fj s p m i k);refine R4 1 Z fun R d=>Sd af U9<|Sr [[.slice (some ⟨h,0,none⟩) (s*p:Nat) (s*p:Nat),ai (uf x.max)]] U12 fun br _ _ aI=>D.append (j:=1) U11 aI Z (by simp only [Oy,aV,maxLen] at ag ⊢;omega) (by simp only [Oy,aV] at ag ⊢;omega) fl_ fun aj=>C4 1 [1,2,5,6,19,20] d Z<|R8 fun R d=>Se _ U7<|C4 1 [1,2,5,6,19,20] d Z<|SQ 1 Z<|Sp (L':=[.arr aj 123 2 (bd s p c (i-1)++bk s p x i (k+1)).length (aT (g++[.slice (some ⟨bz,0,none⟩) (s*p) (s*p)]++[.slice (some ⟨h,0,none⟩) (s*p) (s*p)]) (bd s p c (i-1)++bk s p x i (k+1))).flatten]) (by
     rw [bk,N,<- OU,show ∀ (l:List RowQ)(a b:RowQ),l++[a,b]=l++[a]++[b] from fun l a b=>by simp,aH,az];simp [Fj];omega) ?_
    refine Sj (m':=p-(k+1)) om_ mup (hn_ [1,2,5,6,19,20] Z) ⟨k+1,_,aj,⟨by omega,by
     rw [bk,N,<- OU,show ∀ (l:List RowQ)(a b:RowQ),l++[a,b]=l++[a]++[b] from fun l a b=>by simp];exact aG.mono mup⟩,Z,Z,Z⟩
   have hm:x.max=none:=by
    rw [oE] at I;cases aJ:x.max with
    | none=>rfl
    | some q=>rw [aJ] at I;cases I
   have N:my s p x i k=[rq s p x i k]:=by unfold my;rw [hm]
   refine R8 fun R d=>Se _ U7<|C4 1 [1,2,5,6,19,20] d Z<|SQ 1 Z<|Sp (L':=[.arr A 123 2 (bd s p c (i-1)++bk s p x i (k+1)).length (aT (g++[.slice (some ⟨bz,0,none⟩) (s*p) (s*p)]) (bd s p c (i-1)++bk s p x i (k+1))).flatten]) (by rw [bk,N,<- OU];rfl)<|Sj (m':=p-(k+1)) om_ mup (hn_ [1,2,5,6,19,20] Z) ⟨k+1,_,A,⟨by omega,by
    rw [bk,N,<- OU];exact aa.mono mup⟩,Z,Z,Z⟩
  have ad:k=p:=by
   have:¬ k<p:=by simpa using Y
   omega
  have am:bd s p c (i-1)++bk s p x i k=bd s p c i:=by
   obtain ⟨j,rfl⟩:∃ j,i=j+1:=⟨i-1,by omega⟩;rw [ad,Qw,bd,JK L]
  refine R4 1 Z fun R d=>Se _ U7<|C4 1 [1,2,5,6] d Z<|Sp (L':=[.arr o 123 2 (bd s p c (i+1-1)).length (aT g (bd s p c (i+1-1))).flatten]) (by rw [am];rfl)<|Sj (m':=c.length-(i+1)) om_ mup (hn_ [1,2,5,6] Z) ⟨i+1,g,o,⟨by omega,.inl om_,by rw [Qw,<- am];exact X⟩,Z,Z,Z⟩
 have ac:i-1=c.length-2:=by
  have:=Ox W;omega
 refine C6 2 [4] Z ?_;rw [ac] at O ⊢;exact G.freezeArr 0 (aT vs (bd s p c (c.length-2))) Z Z (iE _ _) (dU O.1) fun Cg hg aK=>Sb U2<|⟨Z,vs,O.mono mup,aK⟩
end Go.Proofs.YthnpijdjlddpmaaGreatDoor
