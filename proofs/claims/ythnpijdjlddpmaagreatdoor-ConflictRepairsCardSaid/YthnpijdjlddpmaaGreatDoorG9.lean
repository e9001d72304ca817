/- Laws that the proofs of this seat share, part 9. -/
import Derived.Test.YthnpijdjlddpmaaGreatDoorG8
import Derived.Test.YthnpijdjlddpmaaGreatDoorShelf
set_option maxHeartbeats 4000000
namespace Go.Proofs.YthnpijdjlddpmaaGreatDoor
open Go.Proofs.Tryz
open Go Go.Jog
set_option maxRecDepth 100000
variable {C:Mem}{a b:Nat}{bv:Value}{i k n:Nat}{t:Tri}{v:Value}{vs:List Value}{z:Int}
structure Obs where
 kind:Int
 name:Str
 x:Str
 y:Str
 depth:Str
 upper:Str
 lower:Str
 nx:Str
 ny:Str
 nz:Str
def Ia (o:Obs):List Value:=[.int .i64 o.kind,ah o.name,ah o.x,ah o.y,ah o.depth,ah o.upper,ah o.lower,ah o.nx,ah o.ny,ah o.nz]
structure ObsR (o:Obs):Prop where
 name:o.name.length<=999998
 x:o.x.length<=999998
 y:o.y.length<=999998
 depth:o.depth.length<=999998
 upper:o.upper.length<=999998
 lower:o.lower.length<=999998
 nx:o.nx.length<=999998
 ny:o.ny.length<=999998
 nz:o.nz.length<=999998
def kK (o:Obs):Bool:=(!cW o.name || !cW o.upper) || ((!(o.kind == 1)) && !cW o.lower)
def lI (o:Obs):Bool:=(!(aZ o.x && aZ o.y) || ((o.kind == 2) && !aZ o.depth)) || ((o.kind == 3) && !(aZ o.nx && aZ o.ny && aZ o.nz))
def kO (o:Obs):Bool:=(((o.kind == 1) && !(o.lower == [])) || ((!(o.kind == 2)) && !(o.depth == []))) || ((!(o.kind == 3)) && !(decide (o.nx=[]/\o.ny=[]/\o.nz=[])))
def dO (o:Obs):Int:=if o.kind<1∨3<o.kind then 12 else if kK o then 8 else if lI o then 2 else if kO o then 7 else 0
theorem nil3 (a b c:Str):(!((a == []) && ((b == []) && ((c == []) && true))))=!decide (a=[]/\b=[]/\c=[]):=by
 cases a <;> cases b <;> cases c <;> rfl
theorem Hy (b:Bool):(qC b != 0)=!b:=by cases b <;> rfl
theorem IT (C:Mem)(h:Tabs C)(o:Obs)(b:ObsR o):Gives cx.P 108 [.agg ⟨Ia o⟩] C (.int .i64 (dO o)):=by
 have h1:=b.name;have h2:=b.upper;have h3:=b.lower;refine Ud func108 87 U3 fun w0=>TY fun R c=>Up U6 fun m=>C4 1 [1] c Z<|G.freeze 0 Z fun _ _ a=>TU 1 Z fun R c=>TV (bkT a 1) U8<|Ua 3 Z<|Ux U6 (fun _=>PtrTo.blockT (Mem.get a mup) _ 1) U3<|TX U6<|UB U8<|TZ [1,10] c Z<|TW (fun i=>?_) fun i=>?_
 ·have d:o.kind<1∨3<o.kind:=by simpa using i
  exact TT 1 [2] Z<|Ub U2<|⟨by unfold dO;rw [aU d],Z⟩
 have d:¬ (o.kind<1∨3<o.kind):=by simpa using i
 refine TU 1 Z fun R c=>TV (bkT a 1) U8<|Uk (ic _ o.name om_) U7 fl_<|Ua 3 Z<|Ux U6 (fun _=>PtrTo.blockT (Mem.get a mup) _ 1) U3<|Us (fun _=>(ic _ o.upper om_)) U9<|TX U6<|UB U8<|Ua 2 Z<|Ux U6 (fun _=>PtrTo.blockT (Mem.get a mup) _ 1) U3<|Ua 3 Z<|Ux U6 (fun _=>PtrTo.blockT (Mem.get a mup) _ 1) U3<|Us (fun _=>(ic _ o.lower om_)) U9<|TX U6<|Uu U8<|UB U8<|TZ [1,31] c Z<|TW (fun j=>?_) fun j=>?_
 ·have e:kK o=true:=j;exact TT 1 [2] Z<|Ub U2<|⟨by unfold dO;rw [az d,aU e],Z⟩
 have e:¬ kK o=true:=by rw [show kK o=false from j];decide
 refine TU 1 Z fun R c=>TV (bkT a 2) U8<|Uh (ir _ h.m_ o.x o.y b.x b.y) U7<|Ua 3 Z<|Ux U6 (fun _=>PtrTo.blockT (Mem.get a mup) _ 1) U3<|Ua 3 Z<|Ux U6 (fun _=>PtrTo.blockT (Mem.get a mup) _ 1) U3<|UC (fun _=>(dV _ h.m_ o.depth b.depth)) U9<|TX U6<|Uu U8<|UB U8<|Ua 2 Z<|Ux U6 (fun _=>PtrTo.blockT (Mem.get a mup) _ 1) U3<|Ua 3 Z<|Ux U6 (fun _=>PtrTo.blockT (Mem.get a mup) _ 3) U3<|UC (fun _=>(rr _ h.m_ o.nx o.ny o.nz b.nx b.ny b.nz)) U9<|TX U6<|Uu U8<|UB U8<|TZ [1,57] c Z<|TW (fun f=>?_) fun f=>?_
 ·have g:lI o=true:=by
   simp only [Hy] at f;exact f
  exact TT 1 [2] Z<|Ub U2<|⟨by unfold dO;rw [az d,az e,aU g],Z⟩
 have g:¬ lI o=true:=by
  simp only [Hy] at f;rw [show lI o=false from f];decide
 refine TU 1 Z fun R c=>TV (bkT a 1) U8<|Ua 3 Z<|Ux U6 (fun _=>PtrTo.blockT (Mem.get a mup) _ 1) U3<|TX U6<|Uu U8<|Ua 2 Z<|Ux U6 (fun _=>PtrTo.blockT (Mem.get a mup) _ 1) U3<|Ua 3 Z<|Ux U6 (fun _=>PtrTo.blockT (Mem.get a mup) _ 1) U3<|TX U6<|Uu U8<|UB U8<|Ua 2 Z<|Ux U6 (fun _=>PtrTo.blockT (Mem.get a mup) _ 1) U3<|Ua 3 Z<|Ux U6 (fun _=>PtrTo.blockT (Mem.get a mup) _ 3) U3<|Un [ah [],ah [],ah []] U8<|Wo (!decide (o.nx=[]/\o.ny=[]/\o.nz=[])) kr_ Z Z Z Z Z Z Z Z (fun _=>(nil3 o.nx o.ny o.nz)) Z Z<|Uu U8<|UB U8<|TZ [86] c Z<|TW (fun k=>?_) fun k=>?_
 ·have l:kO o=true:=k;exact TT 1 [2] Z<|Ub U2<|⟨by unfold dO;rw [az d,az e,az g,aU l],Z⟩
 have l:¬ kO o=true:=by rw [show kO o=false from k];decide
 exact TT 1 [2] Z<|Ub U2<|⟨by unfold dO;rw [az d,az e,az g,az l],Z⟩
noncomputable def dw (s:Str):Rat:=if h:aZ s=true then (K9 h).choose else 0
theorem dI {s:Str}(h:aZ s=true):s=qtx (dw s)/\QB 23 (dw s):=by
 unfold dw;rw [dif_pos h];exact (K9 h).choose_spec
theorem df {q:Rat}(h:aZ (qtx q)=true):dw (qtx q)=q:=(lC (dI h).1).symm
noncomputable def ptO (o:Obs):Pt:=(dw o.x,dw o.y)
noncomputable def Ib (pts:List Pt)(tris:List Tri)(o:Obs):Bool:=decide (lM pts tris (ptO o)≠[])
def LW (col:List Lay)(o:Obs):Bool:=decide (kb (isU o.upper) col 0<0) || ((!(o.kind == 1)) && decide (kb (isU o.lower) col 0<0))
def MT (col:List Lay)(o:Obs):Bool:=(!(o.kind == 1)) && decide (kb (isU o.upper) col 0<=kb (isU o.lower) col 0)
noncomputable def Ki (o:Obs):Bool:=(o.kind == 2) && decide (dw o.depth<0)
def KW (o:Obs):Bool:=(o.kind == 3) && decide (o.nz=[48])
noncomputable def gw (pts:List Pt)(tris:List Tri)(col:List Lay)(o:Obs):Int :=
 if dO o≠0 then dO o else if Ib pts tris o=false then 28 else if LW col o then 10 else if MT col o then 6 else if Ki o then 3 else if KW o then 17 else 0
theorem rG {o:Obs}(h:dO o=0):aZ o.x=true/\aZ o.y=true/\(o.kind=2->aZ o.depth=true):=by
 unfold dO at h;split at h
 ·cases h
 split at h
 ·cases h
 split at h
 ·cases h
 rename_i b;have a:lI o=false:=by simpa using b
 unfold lI at a;rw [RH,RH] at a;obtain ⟨⟨h1,h2⟩,_⟩:=a;have h3:(aZ o.x && aZ o.y)=true:=by simpa using h1
 rw [Qn] at h3;refine ⟨h3.1,h3.2,fun c=>?_⟩;rw [c] at h2;simpa using h2
theorem OD {o:Obs}(h:dO o=0):ptV (ptO o)=.agg ⟨[ah o.x,ah o.y]⟩/\QP 23 (ptO o)/\PtR (ptO o):=by
 obtain ⟨h1,h2,_⟩:=rG h;obtain ⟨a,c⟩:=dI h1;obtain ⟨b,d⟩:=dI h2;refine ⟨?_,⟨c,d⟩, ?_, ?_⟩
 ·unfold ptV gl ptO;rw [<- a,<- b]
 ·unfold ptO;rw [<- a];exact h1
 unfold ptO;rw [<- b];exact h2
theorem dS {k:Int}(h:(k == z)=true):k=z:=by simpa using h
theorem IL (C:Mem)(s:Str)(h:aZ s=true)(a:s.length<=999998):Gives cx.P 58 [ah s] C (.int .i64 (eJ (dw s).num)):=by
 have e:=(dI h).1;have h2:=fR C (dw s) (by have:=a;exact Qy (bJ (dI h).2 dc_) dc_)
 rwa [<- e] at h2
theorem MR (C:Mem)(u:Tabs C)(v w:Value)(d:List Pt)(f:List Tri)(b:List Lay)(o:Obs)(x:MeshIn C v d f)(A:Good d f)(y:Sl C 3 w (b.map yS))(z:ObsR o) :
  Gives cx.P 69 [v,w,.agg ⟨Ia o⟩] C (.int .i64 (gw d f b o)):=by
 have B:=x;obtain ⟨L,M,rfl,h1,h2⟩:=id x.ex;refine Ud func69 79 U3 fun w0=>TY fun R a=>Up U6 fun N=>Up U6 fun O=>C4 1 [1,3,5] a Z<|G.freeze 1 Z fun _ _ D=>G.freeze 0 Z fun E _ c=>TY fun R a=>TV (bkT c 10) U8<|Uh (IT _ u.m_ o z) U7<|C4 1 [1,3,5,7] a Z<|TT 2 [1,3,5,7,15] Z<|TW (fun m=>?_) fun m=>?_
 ·have hs:dO o≠0:=by
   intro e;rw [e] at m;exact absurd m dc_
  exact TT 2 [6] Z<|Ub U2<|⟨by unfold gw;rw [aU hs],Z⟩
 have hs:dO o=0:=by simpa using m
 have i:¬ dO o≠0:=fun h=>h hs;obtain ⟨F,H,I⟩:=OD hs;have J:=(rG hs).2.2;refine TY fun R a=>TV (PtrTo.block (Mem.get D mup) _) U8<|TX U6<|TV (bkT c 2) U8<|Uk (by have h:=qw E u.m_ _ d f (ptO o) B.m_ A H I;rw [F] at h;exact h) U7 fl_<|C4 5 [1,5,8,9] a Z<|TU 5 Z fun R a=>UB U8<|TZ [1,5,29] a Z<|TW (fun p=>?_) fun p=>?_
 ·have g:Ib d f o=false:=by
   have h:(!Ib d f o)=true:=p;simpa using h
  exact TT 1 [6] Z<|Ub U2<|⟨by unfold gw;rw [az i,aU g],Z⟩
 have g:¬ Ib d f o=false:=by
  have h:(!Ib d f o)=false:=p;have h2:Ib d f o=true:=by simpa using h
  rw [h2];decide
 refine Ur [0,1,2,3,4,5,6,7,8,9] [(3,1),(7,1)] Z kr_ fun R Q a=>Ua 2 Z<|TV (bkT c 1) U8<|UC (fun _=>(jT _ _ b o.upper y.m_)) U9<|Ua 2 Z<|TV (bkT c 1) U8<|UC (fun _=>(jT _ _ b o.lower y.m_)) U9<|C4 2 [5,10,11] a Z<|TU 4 Z fun R a=>Ux U6 (fun _=>PtrTo.blockT (Mem.get c mup) _ 1) U3<|Ua 4 Z<|Uu U8<|UB U8<|C4 1 [5,10,11,38] a Z<|TW (fun q=>?_) fun q=>?_
 ·have j:LW b o=true:=q;exact TT 1 [6] Z<|Ub U2<|⟨by unfold gw;rw [az i,az g,aU j],Z⟩
 have j:¬ LW b o=true:=by rw [show LW b o=false from q];decide
 refine TU 1 Z fun R a=>TV (bkT c 1) U8<|Ua 5 Z<|Uu U8<|C4 1 [5,50] a Z<|TW (fun r=>?_) fun r=>?_
 ·have k:MT b o=true:=r;exact TT 1 [6] Z<|Ub U2<|⟨by unfold gw;rw [az i,az g,az j,aU k],Z⟩
 have k:¬ MT b o=true:=by rw [show MT b o=false from r];decide
 refine TU 1 Z fun R a=>TV (bkT c 1) U8<|Ua 3 Z<|Ux U6 (fun _=>PtrTo.blockT (Mem.get c mup) _ 1) U3<|Us (fun K=>(IL _ o.depth (J (by exact dS K.1)) z.depth)) U9<|TX U6<|Uu U8<|C4 1 [5,59] a Z<|TW (fun l=>?_) fun l=>?_
 ·have n:Ki o=true:=by
   rw [uh] at l;exact l
  exact TT 1 [6] Z<|Ub U2<|⟨by unfold gw;rw [az i,az g,az j,az k,aU n],Z⟩
 have n:¬ Ki o=true:=by
  rw [uh] at l;rw [show Ki o=false from l];decide
 refine TU 1 Z fun R a=>TV (bkT c 1) U8<|Ua 4 Z<|Ux U6 (fun _=>PtrTo.blockT (Mem.get c mup) _ 1) U3<|TX U6<|Uu U8<|C4 1 [69] a Z<|TW (fun s=>?_) fun s=>?_
 ·have t:KW o=true:=by
   unfold KW;rw [<- IB];exact s
  exact TT 1 [6] Z<|Ub U2<|⟨by unfold gw;rw [az i,az g,az j,az k,az n,aU t],Z⟩
 have t:¬ KW o=true:=by
  unfold KW;rw [<- IB];intro h;rw [show ((o.kind == 3) && ((⟨o.nz.toArray⟩:ByteArray).data.toList == (⟨([48]:Str).toArray⟩:ByteArray).data.toList))=false from s] at h;cases h
 exact TT 1 [6] Z<|Ub U2<|⟨by unfold gw;rw [az i,az g,az j,az k,az n,az t],Z⟩
structure Bk where
 pts:List Pt
 tris:List Tri
 terr:List Str
 col:List Lay
 obs:List Obs
structure BookIn (C:Mem)(bv:Value)(B:Bk):Prop where
 ex:∃ v1 v2 tv cv ov,bv=.agg ⟨[v1,v2,tv,cv,ov]⟩/\Sl C 2 v1 (B.pts.map gl)/\Sl C 3 v2 (B.tris.map kA)/\Sl C 1 tv (B.terr.map nL)/\Sl C 3 cv (B.col.map yS)/\Sl C 10 ov (B.obs.map Ia)
theorem BookIn.mono {C D:Mem}{b:Value}{B:Bk}(h:BookIn C b B)(a:C.le D):BookIn D b B:=by
 obtain ⟨c,d,e,f,g,h1,h2,h3,h4,h5,i⟩:=h.ex;exact ⟨c,d,e,f,g,h1,h2.mono a,h3.mono a,h4.mono a,h5.mono a,i.mono a⟩
theorem BookIn.m_ {D:Mem}{B:Bk}(h:BookIn C bv B)(a:C.le D:=by exact mup):BookIn D bv B:=BookIn.mono h a
structure BookR (B:Bk):Prop where
 terr:∀ s∈B.terr,s.length<=999998
 col:∀ x∈B.col,N0 x
 lcol:B.col.length<=1000000
 obs:∀ o∈B.obs,ObsR o
noncomputable def obZ (B:Bk)(pre:List Obs)(o:Obs):Int:=if gw B.pts B.tris B.col o≠0 then gw B.pts B.tris B.col o else if o.name∈pre.map Obs.name then 9 else 0
def Jz:Obs:=⟨0,[],[],[],[],[],[],[],[],[]⟩
noncomputable def qR (B:Bk):Nat->Int
 | 0=>0
 | n+1=>if qR B n≠0 then qR B n else obZ B (B.obs.take n) (B.obs.getD n Jz)
noncomputable def iu (B:Bk):Int:=if BE B.pts.length B.terr≠0 then BE B.pts.length B.terr else if sJ B.col≠0 then sJ B.col else if 100<B.obs.length then 4 else qR B B.obs.length
theorem wz {B:Bk}{n:Nat}(h:qR B n≠0):∀ m,n<=m->qR B m=qR B n
 | 0,hm=>by rw [show n=0 by omega]
 | m+1,hm=>by
  rcases QL m n with h1 | h1
  ·rw [show n=m+1 by omega]
  have a:=wz h m h1;simp only [qR,a];rw [aU h]
theorem OO {l:List Obs}{x:Obs}(h:l[i]?=some x):l.getD i Jz=x:=by rw [aw,h,Rr]
theorem ue {B:Bk}{x:Obs}(a:qR B i=0)(b:B.obs[i]?=some x):qR B (i+1)=obZ B (B.obs.take i) x:=by
 simp only [qR,a];rw [az dc_,OO b]
theorem F4 {B:Bk}{x:Obs}(c:qR B i=0)(a:B.obs[i]?=some x)(b:obZ B (B.obs.take i) x=z)(d:z≠0):qR B B.obs.length=z:=by
 have e:=(aF.1 a).1;have h1:=ue c a;rw [wz (n:=i+1) (by rw [h1,b];exact d) B.obs.length om_,h1,b]
def Gf (l:List Obs):List (Str × Value):=l.map fun o=>(o.name,.bool true)
theorem Ge (l:List Obs)(s:Str):kL (.bool false) false (dm (Gf l) s)=.bool (decide (s∈l.map Obs.name)):=by
 have a:(Gf l).map (·.1)=l.map Obs.name:=by unfold Gf;rw [Q1];rfl
 cases h:dm (Gf l) s with
 | none =>
  have h1:=cE.1 h;rw [a] at h1;rw [QC h1];rfl
 | some v =>
  have h1:=fV h;have h2:=Sx (f:=(·.1)) h1;rw [a] at h2;obtain ⟨o,_,b⟩:=Qk.1 h1;cases b
  rw [Qr h2];rfl
theorem JD {l:List Obs}{o:Obs}(h:o.name ∉ l.map Obs.name):fN (Gf l) o.name (.bool true)=Gf (l++[o]):=by
 have a:(Gf l).map (·.1)=l.map Obs.name:=by unfold Gf;rw [Q1];rfl
 rw [jH (by rw [cE,a];exact h)];simp [Gf]
theorem kR (C:Mem)(n:Tabs C)(F:Value)(B:Bk)(L:BookIn C F B)(t:Good B.pts B.tris)(o:BookR B) :
  Gives cx.P 36 [F] C (.int .i64 (iu B)):=by
 obtain ⟨H,I,Y,cv,ov,rfl,h1,h2,h3,h4,h5⟩:=id L.ex;obtain ⟨M,N,rfl,O,aa,_⟩:=id h5;have ab:maxLen<=9223372036854775807:=by simp [maxLen]
 simp only [al] at h5 O ⊢;have hm:MeshIn C (.agg ⟨[H,I]⟩) B.pts B.tris:=⟨H,I,rfl,h1,h2⟩;refine Ud func36 59 U3 fun w0=>TY fun R a=>Up U6 fun Q=>C4 1 [1] a Z<|G.freeze 0 Z fun _ _ b=>TU 1 Z fun R a=>TV (bkT b 2) U8<|Uh (jL _ n.m_ _ B.pts B.tris hm.m_ t) U7<|C4 1 [1,3] a Z<|TT 2 [1,3,14] Z<|TW (fun J=>?_) fun J=>?_
 ·exact absurd J dc_
 refine TU 1 Z fun R a=>TV (bkT b 2) U8<|TX U6<|TV (bkT b 1) U8<|Uh (uA _ n.m_ _ _ B.pts B.tris B.terr hm.m_ t h3.m_ o.terr) U7<|C4 1 [1,4] a Z<|TT 2 [1,4,22] Z<|TW (fun p=>?_) fun p=>?_
 ·have c:BE B.pts.length B.terr≠0:=by
   intro e;rw [e] at p;exact absurd p dc_
  exact TT 2 [2] Z<|Ub U2<|⟨by unfold iu;rw [aU c],Z⟩
 have c:¬ BE B.pts.length B.terr≠0:=by
  have h:BE B.pts.length B.terr=0:=by simpa using p
  exact fun h2=>h2 h
 refine TU 1 Z fun R a=>TV (bkT b 1) U8<|Uh (qA _ n.m_ _ B.col h4.m_ o.col o.lcol) U7<|C4 1 [1,5] a Z<|TT 2 [1,5,28] Z<|TW (fun q=>?_) fun q=>?_
 ·have d:sJ B.col≠0:=by
   intro e;rw [e] at q;exact absurd q dc_
  exact TT 2 [2] Z<|Ub U2<|⟨by unfold iu;rw [az c,aU d],Z⟩
 have d:¬ sJ B.col≠0:=by
  have h:sJ B.col=0:=by simpa using q
  exact fun h2=>h2 h
 refine TU 1 Z fun R a=>TV (bkT b 1) U8<|C4 2 [1,33] a Z<|TW (fun u=>?_) fun u=>?_
 ·have g:100<B.obs.length:=by
   simp only [Qj] at u;omega
  exact TT 1 [2] Z<|Ub U2<|⟨by unfold iu;rw [az c,az d,aU g],Z⟩
 have g:¬ 100<B.obs.length:=by
  simp only [Qz] at u;omega
 refine TY fun R a=>D.makeMap keyS Z Z Z Z fl_ fun v=>C4 1 [1,6] a Z<|TU 1 Z fun R a=>TV (bkT b 1) U8<|C4 2 [1,6,36,37,38] a Z<|G.loop (fun fr C' K S=>∃ (i:Nat),(i<=B.obs.length/\qR B i=0)/\fr=[(1,[],.pointer (some ⟨Q,0,none⟩)),(6,[],.map (some v)),(36,[],.slice M B.obs.length N),(37,[],.int .i64 B.obs.length),(38,[],.int .i64 i)]/\K=[.obj v (aP keyS.enc (Gf (B.obs.take i)))]/\S=B.obs.length-i) (hn_ [1,6,36,37,38] Z) ⟨0,⟨Qf _,Z⟩,Z,Z,Z⟩ (fun fr ac ad m _ T=>?_);obtain ⟨i,⟨hi,k⟩,rfl,rfl,rfl⟩:=T;refine TT 1 [1,6,36,37,38,39] Z<|TW (fun w=>?_) fun w=>?_
 ·have y:i<B.obs.length:=by simpa using w
  obtain ⟨x,f⟩:∃ x,B.obs[i]?=some x:=⟨B.obs[i],aj y⟩;have U:=o.obs x (Qc f);have V:B.obs.take (i+1)=B.obs.take i++[x]:=by rw [QF,f];rfl
  refine TY fun R a=>Ul h5.m_ U10 om_ (bX f) fl_ fun ag W=>TV W U8<|Uo U5 fun b8=>Uf (j:=0) U12<|TZ [1,6,8,36,37,38] a Z<|TU 1 Z fun R a=>TV (bkT b 2) U8<|TX U6<|TV (bkT b 1) U8<|Uc af U9<|Uh (MR _ n.m_ _ _ B.pts B.tris B.col x hm.m_ t h4.m_ U) U7<|C4 1 [1,6,8,9,36,37,38] a Z<|TT 2 [1,6,8,9,36,37,38,49] Z<|TW (fun r=>?_) fun r=>?_
  ·have l:gw B.pts B.tris B.col x≠0:=by
    intro e;rw [e] at r;exact absurd r dc_
   have A:=F4 k f (z:=gw B.pts B.tris B.col x) (by unfold obZ;rw [aU l]) l;exact TT 2 [2] Z<|Ub U2<|⟨by unfold iu;rw [az c,az d,az g,A],Z⟩
  have l:¬ gw B.pts B.tris B.col x≠0:=by
   have h:gw B.pts B.tris B.col x=0:=by simpa using r
   exact fun h2=>h2 h
  refine TU 2 Z fun R a=>Uc af U9<|Vo keyS ae Z Z Z Z Z Z Z Z kr_ Z (Ge (B.obs.take i) x.name) Z Z<|TZ [1,6,8,36,37,38,54] a Z<|TW (fun E=>?_) fun E=>?_
  ·have s:x.name∈(B.obs.take i).map Obs.name:=aJ E;have A:=F4 k f (z:=9) (by unfold obZ;rw [az l,aU s]) dc_;exact TT 1 [2] Z<|Ub U2<|⟨by unfold iu;rw [az c,az d,az g,A],Z⟩
  have s:x.name ∉ (B.obs.take i).map Obs.name:=Qe E;have X:qR B (i+1)=0:=by rw [ue k f];unfold obZ;rw [az l,az s]
  refine TU 2 Z fun R a=>Uc af U9<|D.mapUpdate keyS (j:=1) Z Z Z Z Z Z Z Z Z Z kr_<|TZ [1,6,36,37,38] a Z<|TY fun R a=>Ue _ U7<|C4 1 [1,6,36,37,38] a Z<|UO 1 Z<|Um (L':=[.obj v (aP keyS.enc (Gf (B.obs.take (i+1))))]) (by rw [V,<- JD s];rfl)<|Ug (m':=B.obs.length-(i+1)) om_ mup (hn_ [1,6,36,37,38] Z) ⟨i+1,⟨by omega,X⟩,Z,Z,Z⟩
 have y:i=B.obs.length:=by
  have:¬ i<B.obs.length:=by simpa using w
  omega
 refine TT 1 [2] Z<|Ub U2<|⟨?_,Z⟩;rw [y] at k;unfold iu;rw [az c,az d,az g,k]
theorem mh (C:Mem)(g:Tabs C)(b:Value)(B:Bk)(c:BookIn C b B)(j:Good B.pts B.tris)(k:BookR B)(l:iu B=0)(i:Nat)(n:i<B.obs.length) :
  Gives cx.P 240 [b,.int .i64 i] C (.int .i64 0):=by
 have d:=c;obtain ⟨o,p,q,r,s,rfl,h1,h2,h3,h4,h5⟩:=id c.ex;obtain ⟨t,u,rfl,m,v,_⟩:=id h5;have w:maxLen<=9223372036854775807:=by simp [maxLen]
 simp only [al] at h5 m d ⊢;refine Ud func240 20 U3 fun w0=>TY fun R a=>Up U6 fun x=>C4 1 [1,2] a Z<|TY fun R a=>Uc af U9<|Uk (by have h:=kR _ g.m_ _ B d.m_ j k;rw [l] at h;exact h) U7 fl_<|C4 1 [1,2,5] a Z<|TT 2 [1,2,5,9] Z<|TW (fun e=>?_) fun e=>?_
 ·exact absurd e dc_
 refine TU 5 Z fun R a=>Uc af U9<|Ua 2 Z<|UB U8<|TZ [19] a Z<|TW (fun f=>?_) fun f=>?_
 ·exfalso;simp only [RR,Qj] at f;omega
 exact TT 1 [4] Z<|Ub U2<|⟨Z,Z⟩
noncomputable def kw (o:Obs)(z:Rat):Rat:=if o.kind=2 then z-dw o.depth else z
structure ObsAt (o:Obs)(p:Pt):Prop where
 x:o.x=qtx p.1
 y:o.y=qtx p.2
 q:QP 23 p
 r:PtR p
 d:o.kind=2->aZ o.depth=true
theorem wA {o:Obs}{p:Pt}(h:ObsAt o p):(.agg ⟨[ah o.x,ah o.y]⟩:Value)=ptV p:=by unfold ptV gl;rw [h.x,h.y]
structure Terr (B:Bk)(fs:List Rat):Prop where
 e:B.terr=fs.map qtx
 l:fs.length=B.pts.length
 q:∀ q∈fs,QB 22 q
theorem Oc {B:Bk}{a:List Rat}(h:Terr B a):∀ q∈a,aZ (qtx q)=true:=fun q b=>bO (h.q q b)
theorem GQ (C:Mem)(k:Tabs C)(m:Value)(B:Bk)(i:List Rat)(o:Obs)(p:Pt)(z:Rat)(v:BookIn C m B)(w:Good B.pts B.tris)(b:Terr B i)(c:ObsAt o p)(x:Ez B.pts B.tris i p=.tuple #[ah (qtx z),.int .i64 0])(y:QB 22 z) :
  Gives cx.P 241 [m,.agg ⟨Ia o⟩] C (.tuple #[ah (qtx (kw o z)),.int .i64 0]):=by
 obtain ⟨n,s,E,F,H,rfl,h1,h2,h3,h4,h5⟩:=id v.ex;have hm:MeshIn C (.agg ⟨[n,s]⟩) B.pts B.tris:=⟨n,s,rfl,h1,h2⟩;rw [b.e,<- yR] at h3;refine Ud func241 31 U3 fun w0=>TY fun R a=>Up U6 fun I=>Up U6 fun J=>C4 2 [2,3] a Z<|G.freeze 1 Z fun _ _ t=>G.freeze 0 Z fun u _ j=>TU 1 Z fun R a=>TV (bkT t 2) U8<|TX U6<|TV (bkT t 1) U8<|TX U6<|TV (bkT j 2) U8<|Uk (by have h:=Il u k.m_ _ _ B.pts B.tris i 22 dc_ dc_ hm.m_ w h3.m_ b.l b.q (Oc b) p c.q c.r;rw [x,<- wA c] at h;exact h) U7 fl_<|C4 5 [3,6,7] a Z<|TU 4 Z fun R a=>Ux U6 (fun _=>PtrTo.blockT (Mem.get j mup) _ 1) U3<|TX U6<|Uu U8<|TZ [3,6,7,24] a Z<|TW (fun f=>?_) fun f=>?_
 ·have g:o.kind=2:=dS (Rp.1 f).2;obtain ⟨A,D⟩:=dI (c.d g);refine TU 2 Z fun R a=>TV (bkT j 1) U8<|Uk (by have h:=dZ u k.m_ z (dw o.depth) 23 dc_ dc_ (y.le dc_) D;rw [<- A] at h;exact h) U7 fl_<|C4 1 [6,7] a Z<|TT 4 [4,5] Z<|Ui (G.dropAll (Uw U3 ?_));exact ⟨by unfold kw;rw [aU g],Z⟩
 have g:¬ o.kind=2:=by
  intro e;rw [show ((((0:Int) == 0) && (o.kind == 2))=true) by rw [e];rfl] at f;cases f
 refine TT 4 [4,5] Z<|Ui (G.dropAll (Uw U3 ?_));exact ⟨by unfold kw;rw [az g],Z⟩
theorem Dx (C:Mem)(c:Tabs C)(h:Value)(B:Bk)(d:List Rat)(i:Nat)(o:Obs)(p:Pt)(z:Rat)(b:BookIn C h B)(j:Good B.pts B.tris)(q:BookR B)(r:iu B=0)(s:Terr B d)(k:B.obs[i]?=some o)(t:ObsAt o p)(u:Ez B.pts B.tris d p=.tuple #[ah (qtx z),.int .i64 0])(v:QB 22 z)(l:QB 22 (kw o z)) :
  Gives cx.P 193 [h,.int .i64 i] C (.tuple #[ah (qtx (kw o z)),.int .i64 0]):=by
 have e:=b;have w:=(aF.1 k).1;obtain ⟨A,D,E,F,H,rfl,h1,h2,h3,h4,h5⟩:=id b.ex;obtain ⟨I,J,rfl,x,K,_⟩:=id h5;have L:maxLen<=9223372036854775807:=by simp [maxLen]
 simp only [al] at h5 x e ⊢;refine Ud func193 36 U3 fun w0=>?_;refine TY fun R a=>?_;refine Up U6 (fun M=>?_);refine C4 2 [1,2] a Z ?_;clear a R;refine G.freeze 0 Z (fun _ _ f=>?_);refine TY fun R a=>?_;refine TV (bkT f 5) U8 ?_;refine TX U6 ?_;refine Uh (mh _ c.m_ _ B e.m_ j q r i w) U7 ?_;refine C4 1 [1,2,6] a Z ?_;clear a R;refine TT 2 [1,2,6,13] Z ?_;refine TW (fun m=>?_) fun m=>?_
 ·exact absurd m dc_
 refine Ur [0,1,2,3,4,5,6,7,8,9,10,11] [(6,1)] Z kr_ (fun R b a=>?_);refine TV (bkT f 5) U8 ?_;refine TX U6 ?_;refine TV (bkT f 1) U8 ?_;refine TX U6 ?_;refine Ul h5.m_ U10 om_ (bX k) fl_ (fun N y=>?_);refine TV y U8 ?_;refine UC (fun _=>(GQ _ c.m_ _ B d o p z e.m_ j s t u v)) U9 ?_;refine Ua 5 Z ?_;refine TZ [7,8] a Z ?_;clear a b R;refine TU 4 Z fun R a=>?_;refine UC (fun _=>(dV _ c.m_ _ (tP l))) U9 ?_;refine TX U6 ?_;refine Uu U8 ?_;refine TZ [7,8,31] a Z ?_;clear a R;refine TW (fun g=>?_) fun g=>?_
 ·exfalso;rw [xq l] at g;exact absurd g dc_
 refine TT 2 [7,8,33] Z ?_;refine TW (fun n=>?_) fun n=>?_
 ·exact absurd n dc_
 refine TT 3 [4,5] Z ?_;refine Ui (G.dropAll (Uw U3 ?_));exact ⟨Z,Z⟩
def vK (lo hi:Int)(n:Nat):List Nat:=(List.range n).filter fun k:Nat=>decide (lo<=(k:Int)/\(k:Int)<hi)
def EN (col:List Lay)(o:Obs):Int:=if o.kind=1 then kb (isU o.upper) col 0-1 else kb (isU o.lower) col 0
def EO (col:List Lay)(o:Obs):Int:=if o.kind=1 then kb (isU o.upper) col 0+1 else kb (isU o.upper) col 0
def cH (col:List Lay)(o:Obs):List Nat:=vK (EN col o) (EO col o) (col.length-1)
theorem Ix {a b:Int}(j:max a 0<=(i:Int))(l:(i:Int)<=max (max a 0) (min b n))(o:min b (n:Int)<=(i:Int)):(List.range i).filter (fun k:Nat=>decide (a<=(k:Int)))=vK a b n:=by
 unfold vK;have hs:∀ m:Nat,(List.range (i+m)).filter (fun k:Nat=>decide (a<=(k:Int)/\(k:Int)<b/\k<n))=(List.range i).filter (fun k:Nat=>decide (a<=(k:Int)/\(k:Int)<b/\k<n)):=by
  intro m;induction m with
  | zero=>rfl
  | succ m c =>
   rw [show i+(m+1)=i+m+1 by omega,Re,RI,c,List.filter_cons];rw [az (by simp only [Qj];omega)];simp
 have f:(List.range i).filter (fun k:Nat=>decide (a<=(k:Int)))=(List.range i).filter (fun k:Nat=>decide (a<=(k:Int)/\(k:Int)<b/\k<n)):=by
  refine List.filter_congr (fun k d=>?_);rw [Qw] at d;rw [QX];omega
 have g:(List.range n).filter (fun k:Nat=>decide (a<=(k:Int)/\(k:Int)<b))=(List.range n).filter (fun k:Nat=>decide (a<=(k:Int)/\(k:Int)<b/\k<n)):=by
  refine List.filter_congr (fun k d=>?_);rw [Qw] at d;rw [QX];omega
 rw [f,g];rcases Nat.le_total i n with e | e
 ·obtain ⟨m,rfl⟩:=Nat.exists_eq_add_of_le e;exact (hs m).symm
 have h:∀ m:Nat,(List.range (n+m)).filter (fun k:Nat=>decide (a<=(k:Int)/\(k:Int)<b/\k<n))=(List.range n).filter (fun k:Nat=>decide (a<=(k:Int)/\(k:Int)<b/\k<n)):=by
  intro m;induction m with
  | zero=>rfl
  | succ m c =>
   rw [show n+(m+1)=n+m+1 by omega,Re,RI,c,List.filter_cons];rw [az (by simp only [Qj];omega)];simp
 obtain ⟨m,rfl⟩:=Nat.exists_eq_add_of_le e;exact h m
theorem sf {a:Type}(p:a->Bool)(l:List a):-1<=kb p l 0/\kb p l 0<=(l.length:Int):=by
 rcases mW p l with ⟨h,_⟩ | ⟨i,x,h,h2,_⟩
 ·omega
 have:=(aF.1 h2).1;omega
theorem xY (C:Mem)(_ab:Tabs C)(F:Value)(B:Bk)(o:Obs)(q:BookIn C F B)(ac:B.col.length<=1000)(M:B.col≠[]) :
  Pur cx.P 242 [F,.agg ⟨Ia o⟩] C fun u D=>Sl D 1 u ((cH B.col o).map aN):=by
 obtain ⟨v1,v2,tv,cv,ov,rfl,h1,h2,h3,h4,h5⟩:=id q.ex;obtain ⟨A4,c4,rfl,N,ad,_⟩:=id h4;have ae:maxLen<=9223372036854775807:=by simp [maxLen]
 have af:=QY.2 M;have O:=sf (isU o.lower) B.col;have Q:=sf (isU o.upper) B.col;obtain ⟨lw,H⟩:∃ z,kb (isU o.lower) B.col 0=z:=⟨_,rfl⟩;obtain ⟨up,I⟩:∃ z,kb (isU o.upper) B.col 0=z:=⟨_,rfl⟩;obtain ⟨lo,b⟩:∃ z,EN B.col o=z:=⟨_,rfl⟩;obtain ⟨c,d⟩:∃ z,EO B.col o=z:=⟨_,rfl⟩;obtain ⟨n,S⟩:∃ n,B.col.length-1=n:=⟨_,rfl⟩;unfold cH;rw [b,d,S];unfold EN at b;unfold EO at d;rw [H] at O b;rw [I] at Q b d;simp only [al] at h4 N ⊢;have ag:-2<=lo/\lo<=1000:=by rw [<- b];split <;> omega
 have ah:-2<=c/\c<=1001:=by rw [<- d];split <;> omega
 refine Ud func242 43 U3 fun w0=>?_;refine TY fun R a=>?_;refine Up U6 (fun J=>?_);refine Up U6 (fun b3=>?_);refine C4 1 [2,3] a Z ?_;clear a R;refine G.freeze 1 Z (fun _ _ s=>?_);refine G.freeze 0 Z (fun K _ t=>?_);refine Ur [0,1,2,3,4,5,6,7,8,9,10,11] [(4,1),(9,1)] Z kr_ (fun R q a=>?_);refine TX U6 ?_;refine TV (bkT s 1) U8 ?_;refine TX U6 ?_;refine TV (bkT t 1) U8 ?_;refine Us (fun _=>(by have h:=jT K _ B.col o.lower h4.m_;rw [H] at h;exact h)) U9 ?_;refine TX U6 ?_;refine TV (bkT s 1) U8 ?_;refine TX U6 ?_;refine TV (bkT t 1) U8 ?_;refine Us (fun _=>(by have h:=jT K _ B.col o.upper h4.m_;rw [I] at h;exact h)) U9 ?_;refine Ua 2 Z ?_;refine TZ [2,3,5,6] a Z ?_;clear a q R;refine TU 1 Z fun R a=>?_;refine TV (bkT t 1) U8 ?_;refine C4 1 [2,5,6,21] a Z ?_;clear a R;refine G.cut (fun fr C' g v=>(True)/\fr=[(2,[],.pointer (some ⟨J,0,none⟩)),(5,[],.int .i64 lo),(6,[],.int .i64 c)]/\g=[]) ?_ (fun fr _ ai v _ x=>?_)
 ·refine TW (fun l=>?_) fun l=>?_
  ·have f:o.kind=1:=dS l;rw [aU f] at b d;subst b d;refine TU 1 Z fun R a=>?_;refine Ue _ U7 ?_;refine TX U6 ?_;refine Ue _ U7 ?_;refine C4 2 [2,5,6] a Z ?_;clear a R;refine Uj 0 (Mem.le.refl _) (hn_ [2,5,6] Z) ⟨trivial,Z,Z⟩
  have f:¬ o.kind=1:=by
   intro e;rw [show ((o.kind == 1)=true) by rw [e];rfl] at l;cases l
  rw [az f] at b d;subst b d;refine Uj 0 (Mem.le.refl _) (hn_ [2,5,6] Z) ⟨trivial,Z,Z⟩
 obtain ⟨_,rfl,rfl⟩:=x;refine TT 1 [2,5,6,7] Z ?_;obtain ⟨p,T⟩:∃ p:Nat,max lo 0=(p:Int):=⟨(max lo 0).toNat,by omega⟩;refine TU 1 Z fun R a=>?_;refine D.max (((p:Nat):Int)) U6 T U2 ?_;refine C4 1 [2,6,7,8] a Z ?_;clear a R;refine G.nilArr 3 1 ?_;refine G.loop (fun fr C' g v=>∃ (i:Nat)(out:List Nat)(w:Value),(max lo 0<=(i:Int)/\(i:Int)<=max (max lo 0) (min c n)/\out=(List.range i).filter (fun k:Nat=>decide (lo<=(k:Int))))/\fr=[(2,[],.pointer (some ⟨J,0,none⟩)),(6,[],.int .i64 c),(7,[],w),(8,[],.int .i64 i)]/\g=[.arr w 3 1 out.length (out.map aN).flatten]/\v=2000-i) (hn_ [2,6,7,8] Z) ⟨p,[],_,⟨by omega,by omega,by
  symm;rw [List.filter_eq_nil_iff];intro k f;rw [Qw] at f;simp only [Qj];omega⟩,rfl,rfl,rfl⟩ (fun fr aj ak m _ x=>?_)
 obtain ⟨i,out,w,⟨U,V,A⟩,rfl,rfl,rfl⟩:=x;refine TU 3 Z fun R a=>?_;refine TV (bkT s 1) U8 ?_;refine TX U6 ?_;refine Ue _ U7 ?_;refine D.min ((min c (n:Int))) Z Z Z Z Z Z om_ Z Z ?_;refine C4 1 [2,6,7,8,35] a Z ?_;clear a R;refine TW (fun E=>?_) fun E=>?_
 ·have an:(i:Int)<min c (n:Int):=aJ E;have ao:out.length<=i:=by
   rw [A];exact Qy (Rw _ _) am
  have W:(List.range (i+1)).filter (fun k:Nat=>decide (lo<=(k:Int)))=out++[i]:=by
   rw [Re,RI,<- A,List.filter_cons,aU (by simp only [Qj];omega)];rfl
  refine TU 2 Z fun R a=>?_;refine Uq [aN i] U12 (fun ap _ _ X=>?_);refine D.append (j:=0) U11 X Z ax (by simp only [aI];omega) fl_ (fun L=>?_);refine C4 1 [2,6,7,8] a Z ?_;clear a R;refine TU 1 Z fun R a=>?_;refine Ue _ U7 ?_;refine C4 1 [2,6,7,8] a Z ?_;clear a R;refine Um (L':=[.arr L 3 1 (out++[i]).length ((out++[i]).map aN).flatten]) (by simp [aN]) ?_;refine Ug (m':=2000-(i+1)) om_ mup (hn_ [2,6,7,8] Z) ⟨i+1,out++[i],L,⟨by omega,by omega,W.symm⟩,Z,Z,Z⟩
 have Y:min c (n:Int)<=(i:Int):=by
  have:=Qe E;omega
 refine TT 2 [4] Z ?_;refine G.freezeArr 0 (out.map aN) rfl rfl (by intro r hr;obtain ⟨y,_,rfl⟩:=Qk.1 hr;rfl) am (fun Cg hg aa=>?_);refine Ub U2 ?_;exact ⟨Z,by rw [<- Ix U V Y,<- A];exact aa⟩
theorem vJ (C:Mem)(j:Tabs C)(k:Value)(B:Bk)(i:Nat)(o:Obs)(d:BookIn C k B)(p:Good B.pts B.tris)(q:BookR B)(a:iu B=0)(l:B.obs[i]?=some o) :
  Pur cx.P 194 [k,.int .i64 i] C fun u D=>∃ v,u=.tuple #[v,.int .i64 0]/\Sl D 1 v ((cH B.col o).map aN):=by
 have f:=d;have r:=(aF.1 l).1;have b:sJ B.col=0:=by
  unfold iu at a;split at a
  ·rename_i h;exact absurd a h
  split at a
  ·rename_i h;exact absurd a h
  rename_i h;exact QK h
 have m:B.col≠[]:=by
  intro e;rw [e] at b;exact absurd b dc_
 have s:B.col.length<=1000:=by
  unfold sJ at b;rw [az m] at b;split at b
  ·exact absurd b dc_
  omega
 obtain ⟨y,z,A,E,F,rfl,h1,h2,h3,h4,h5⟩:=id d.ex;obtain ⟨H,I,rfl,t,J,_⟩:=id h5;have K:maxLen<=9223372036854775807:=by simp [maxLen]
 simp only [al] at h5 t f ⊢;refine Ud func194 20 U3 fun w0=>TY fun R c=>Up U6 fun L=>C4 2 [1,2] c Z<|G.freeze 0 Z fun _ _ g=>TY fun R c=>TV (bkT g 5) U8<|TX U6<|Uh (mh _ j.m_ _ B f.m_ p q a i r) U7<|C4 1 [1,2,6] c Z<|TT 2 [1,2,6,11] Z<|TW (fun n=>?_) fun n=>?_
 ·exact absurd n dc_
 refine Ur [0,1,2,3,4,5,6,7,8] [] Z kr_ fun R d c=>TV (bkT g 5) U8<|TX U6<|TV (bkT g 1) U8<|TX U6<|Ul h5.m_ U10 om_ (bX l) fl_ fun M w=>TV w U8<|UF (xY _ j.m_ _ B o f.m_ s m) U7 fun N _ _ x=>Ua 2 Z<|TZ [4,5] c Z ?_;clear c d R;refine Ui (G.dropAll (Uw U3 ?_));exact ⟨Z,_,Z,x⟩
theorem F9 (x y:Nat)(a:x<18446744073709551616)(b:y<18446744073709551616)(C:Mem):Gives cx.P 125 [.int .u64 x,.int .u64 y] C (.tuple #[.int .u64 ((x*y / 18446744073709551616:Nat):Int),.int .u64 ((x*y % 18446744073709551616:Nat):Int)]) :=
 Gives.ofCalls kr_ (fun w=>Any.bits_Mul Tryz.mul x y a b w) C
theorem fC {a:Value}{m:Nat}{b:List Value}(_d:k+m<=n)(c:m<=k)(_e:b.length=n-k) :
  aD (List.replicate k a++b) ((List.replicate k a++b).take m) k=List.replicate (k+m) a++b.drop m:=by
 have h1:(List.replicate k a++b).take m=List.replicate m a:=by
  rw [List.take_append_of_le_length (by simpa using c),List.take_replicate,RC c]
 have h2:(List.replicate k a++b).take k=List.replicate k a:=by
  rw [List.take_append_of_le_length am,List.take_replicate,Nat.min_self]
 have h3:(List.replicate k a++b).drop (k+m)=b.drop m:=by
  rw [S1,RE,Ry am,R3];congr 1;omega
 unfold aD;rw [h1,h2,RE,h3,List.replicate_append_replicate]
theorem zE (a:Value)(n:Nat):kg [a] n=List.replicate n a:=by
 rw [ef];induction n with
 | zero=>rfl
 | succ n b=>rw [Rx,RM,b,Rx];rfl
theorem lJ (n:Nat)(a:n<18446744073709551616)(C:Mem):Gives cx.P 125 [.int .u64 (1:Int),.int .u64 n] C (.tuple #[.int .u64 0,.int .u64 n]):=by
 have h:=F9 1 n om_ a C;have b:1*n / 18446744073709551616=0:=by omega
 have c:1*n % 18446744073709551616=n:=by omega
 rw [b,c] at h;exact h
theorem rM (C:Mem)(v:Value)(n:Nat)(s:Str)(g:Sl C 1 v [[ah s]])(y:n<=1000000):Jog.Fn cx.P 83 [v,.int .i64 n] C [] fun u _z e=>∃ b,u=.slice (some ⟨b,0,none⟩) n n/\e=[.arr u 56 1 n (List.replicate n (ah s))]:=by
 have p:=g;obtain ⟨A,c,rfl,_⟩:=p;refine Ud func83 48 U3 fun w0=>TT 1 [0,1] Z<|TT 2 [0,1,10] Z<|TW (fun h=>?_) fun h=>?_
 ·simp at h;omega
 refine TU 2 Z fun R d=>UJ (c:=1) U8 Z fl_<|TX U6<|UJ (c:=(n:Int)) U8 (by rw [IntKind.wrap_u64];omega) fl_<|Uk (lJ n om_ _) U7 fl_<|C4 5 [0,5,6] d Z<|TU 5 Z fun R d=>UB U8<|TZ [0,6,26] d Z<|TW (fun i=>?_) fun i=>?_
 ·simp at i;omega
 refine TU 1 Z fun R d=>UJ (c:=(n:Int)) U8 (by rw [IntKind.wrap_i64];omega) fl_<|UY U9 (Qb _) (by show 16*n<=281474976710656;omega) (by simp only [maxLen];omega) fl_ fun a=>C4 1 [0,7] d Z<|TU 2 Z fun R d=>VJ (j:=0) (q:=min 1 n) U12 g U2 (by rw [cU];show 0+min 1 n*1<=n*1;omega) fl_<|C4 1 [7,8] d Z ?_;have r:aD (kg [ah []] n) (([[ah s]]:List (List Value)).take (min 1 n)).flatten 0=List.replicate (min 1 n) (ah s)++List.replicate (n-min 1 n) (ah []):=by
  rw [zE];cases n with
  | zero=>rfl
  | succ n=>rw [show min 1 (n+1)=1 by omega,Rx];rfl
 refine Um (L':=[.arr (.slice (some ⟨a,0,none⟩) n n) 56 1 n (List.replicate (min 1 n) (ah s)++List.replicate (n-min 1 n) (ah []))]) (by rw [<- r];rfl)<|G.loop (fun fr C' e t=>∃ (k:Nat),(k<=n/\min 1 n<=k)/\fr=[(7,[],.slice (some ⟨a,0,none⟩) n n),(8,[],.int .i64 k)]/\e=[.arr (.slice (some ⟨a,0,none⟩) n n) 56 1 n (List.replicate k (ah s)++List.replicate (n-k) (ah []))]/\t=n-k) (hn_ [7,8] Z) ⟨min 1 n,⟨Nat.min_le_right _ _,Qb _⟩,Z,Z,Z⟩ (fun fr B D m w x=>?_);obtain ⟨k,⟨l,E⟩,rfl,rfl,rfl⟩:=x;refine TT 4 [7,8,37] Z<|TW (fun f=>?_) fun f=>?_
 ·simp only [Qj] at f;have o:k<n:=by omega
  have F:1<=k:=by omega
  refine Ur [0,1,2,3,4,5,6,7,8,9] [] Z kr_ fun R H d=>Ua 3 Z<|UR k n n U12 (fun _=>⟨.inr ⟨_,Z⟩,.inl ⟨Z,Z⟩,.inl ⟨Z,Z⟩,l,Qb _,Qb _⟩) U2<|Ua 2 Z<|UR 0 k n U12 (fun _=>⟨.inl ⟨Z,Z⟩,.inr ⟨_,Z⟩,.inl ⟨Z,Z⟩,Qf _,l,Qb _⟩) U2 ?_;refine VI (j:=0) (off:=k) (g0:=a) (dl:=n-k) (dc:=n-k) (sl:=k-0) (sc:=n-0) (q:=min k (n-k)) U8 (by show some (Value.slice (if n=k then some (⟨a,0,none⟩:Addr) else (some (⟨a,0,none⟩:Addr)).map (·.add (k*1))) (n-k) (n-k))=_;rw [az om_];simp [Addr.add_lit]) (by show some (Value.slice (if n=0 then some (⟨a,0,none⟩:Addr) else (some (⟨a,0,none⟩:Addr)).map (·.add (0*1))) (k-0) (n-0))=_;split <;> simp [Addr.add_lit]) U2 (by simp [mD,ah]) ap fl_ ?_;refine UG (((k+min k (n-k):Nat):Int)) U4 om_ om_ om_ U2<|C4 1 [7,8] d Z<|Um (L':=[.arr (.slice (some ⟨a,0,none⟩) n n) 56 1 n (List.replicate (k+min k (n-k)) (ah s)++List.replicate (n-(k+min k (n-k))) (ah []))]) (by rw [fC (n:=n) om_ (Nat.min_le_left _ _) am,List.drop_replicate,Nat.sub_sub];rfl)<|Ug (m':=n-(k+min k (n-k))) om_ w (hn_ [7,8] Z) ⟨k+min k (n-k),⟨by omega,by omega⟩,Z,Z,Z⟩
 simp only [Qz] at f;have o:k=n:=by omega
 subst o;refine TT 2 [4] Z<|Ui (UK Z Z ?_);exact ⟨a,Z,by simp⟩
theorem mM (C:Mem)(v:Value)(n:Nat)(s:Str)(g:Sl C 1 v [[ah s]])(y:n<=1000000):Jog.Fn cx.P 243 [v,.int .i64 n] C [] fun u _z e=>∃ b,u=.slice (some ⟨b,0,none⟩) n n/\e=[.arr u 56 1 n (List.replicate n (ah s))]:=by
 have p:=g;obtain ⟨A,c,rfl,_⟩:=p;refine Ud func243 48 U3 fun w0=>TT 1 [0,1] Z<|TT 2 [0,1,10] Z<|TW (fun h=>?_) fun h=>?_
 ·simp at h;omega
 refine TU 2 Z fun R d=>UJ (c:=1) U8 Z fl_<|TX U6<|UJ (c:=(n:Int)) U8 (by rw [IntKind.wrap_u64];omega) fl_<|Uk (lJ n om_ _) U7 fl_<|C4 5 [0,5,6] d Z<|TU 5 Z fun R d=>UB U8<|TZ [0,6,26] d Z<|TW (fun i=>?_) fun i=>?_
 ·simp at i;omega
 refine TU 1 Z fun R d=>UJ (c:=(n:Int)) U8 (by rw [IntKind.wrap_i64];omega) fl_<|UY U9 (Qb _) (by show 16*n<=281474976710656;omega) (by simp only [maxLen];omega) fl_ fun a=>C4 1 [0,7] d Z<|TU 2 Z fun R d=>VJ (j:=0) (q:=min 1 n) U12 g U2 (by rw [cU];show 0+min 1 n*1<=n*1;omega) fl_<|C4 1 [7,8] d Z ?_;have r:aD (kg [ah []] n) (([[ah s]]:List (List Value)).take (min 1 n)).flatten 0=List.replicate (min 1 n) (ah s)++List.replicate (n-min 1 n) (ah []):=by
  rw [zE];cases n with
  | zero=>rfl
  | succ n=>rw [show min 1 (n+1)=1 by omega,Rx];rfl
 refine Um (L':=[.arr (.slice (some ⟨a,0,none⟩) n n) 56 1 n (List.replicate (min 1 n) (ah s)++List.replicate (n-min 1 n) (ah []))]) (by rw [<- r];rfl)<|G.loop (fun fr C' e t=>∃ (k:Nat),(k<=n/\min 1 n<=k)/\fr=[(7,[],.slice (some ⟨a,0,none⟩) n n),(8,[],.int .i64 k)]/\e=[.arr (.slice (some ⟨a,0,none⟩) n n) 56 1 n (List.replicate k (ah s)++List.replicate (n-k) (ah []))]/\t=n-k) (hn_ [7,8] Z) ⟨min 1 n,⟨Nat.min_le_right _ _,Qb _⟩,Z,Z,Z⟩ (fun fr B D m w x=>?_);obtain ⟨k,⟨l,E⟩,rfl,rfl,rfl⟩:=x;refine TT 4 [7,8,37] Z<|TW (fun f=>?_) fun f=>?_
 ·simp only [Qj] at f;have o:k<n:=by omega
  have F:1<=k:=by omega
  refine Ur [0,1,2,3,4,5,6,7,8,9] [] Z kr_ fun R H d=>Ua 3 Z<|UR k n n U12 (fun _=>⟨.inr ⟨_,Z⟩,.inl ⟨Z,Z⟩,.inl ⟨Z,Z⟩,l,Qb _,Qb _⟩) U2<|Ua 2 Z<|UR 0 k n U12 (fun _=>⟨.inl ⟨Z,Z⟩,.inr ⟨_,Z⟩,.inl ⟨Z,Z⟩,Qf _,l,Qb _⟩) U2 ?_;refine VI (j:=0) (off:=k) (g0:=a) (dl:=n-k) (dc:=n-k) (sl:=k-0) (sc:=n-0) (q:=min k (n-k)) U8 (by show some (Value.slice (if n=k then some (⟨a,0,none⟩:Addr) else (some (⟨a,0,none⟩:Addr)).map (·.add (k*1))) (n-k) (n-k))=_;rw [az om_];simp [Addr.add_lit]) (by show some (Value.slice (if n=0 then some (⟨a,0,none⟩:Addr) else (some (⟨a,0,none⟩:Addr)).map (·.add (0*1))) (k-0) (n-0))=_;split <;> simp [Addr.add_lit]) U2 (by simp [mD,ah]) ap fl_ ?_;refine UG (((k+min k (n-k):Nat):Int)) U4 om_ om_ om_ U2<|C4 1 [7,8] d Z<|Um (L':=[.arr (.slice (some ⟨a,0,none⟩) n n) 56 1 n (List.replicate (k+min k (n-k)) (ah s)++List.replicate (n-(k+min k (n-k))) (ah []))]) (by rw [fC (n:=n) om_ (Nat.min_le_left _ _) am,List.drop_replicate,Nat.sub_sub];rfl)<|Ug (m':=n-(k+min k (n-k))) om_ w (hn_ [7,8] Z) ⟨k+min k (n-k),⟨by omega,by omega⟩,Z,Z,Z⟩
 simp only [Qz] at f;have o:k=n:=by omega
 subst o;refine TT 2 [4] Z<|Ui (UK Z Z ?_);exact ⟨a,Z,by simp⟩
theorem fO (C:Mem)(s p:Nat)(h:s*p<=100000):Jog.Fn cx.P 191 [gr s p] C [] fun u _f c=>∃ b,u=.slice (some ⟨b,0,none⟩) (s*p:Nat) (s*p:Nat)/\c=[.arr u 56 1 (s*p) (List.replicate (s*p) (ah [48]))]:=by
 refine Ud func191 7 U3 fun w0=>TY fun R a=>Up U6 fun g=>C4 1 [1] a Z<|Uv [(3,3)] Z fun R a=>Uq [[ah [48]]] U12 fun i _ _ d=>Uc af U9<|Uk (lB _ s p om_) U7 fl_<|D.call (rM _ _ (s*p) [48] d.m_ om_) Z (.inr dc_) U6 (Qh _) fl_ fun j _ k _ e=>C4 1 [2] a Z ?_;obtain ⟨b,rfl,rfl⟩:=e;refine UO 1 Z<|Ui (UK Z Z ?_);exact ⟨b,Z,Z⟩
def ofE (z:Int)(s p:Nat):Int:=if z≠0 then z else if 60<s*p then 4 else 0
def ofS (e:Int)(s p:Nat):Value:=if e=0 then gr s p else gr 0 0
structure BookZ (C:Mem)(bv:Value)(B:Bk)(z:Int):Prop where
 i:BookIn C bv B
 ch:∀ D:Mem,C.le D->Gives cx.P 36 [bv] D (.int .i64 z)
 ne:z=0->B.col≠[]
 lc:B.col.length<=1000
 lp:B.pts.length<=400
theorem BookZ.mono {C D:Mem}{a:Value}{B:Bk}{z:Int}(h:BookZ C a B z)(c:C.le D):BookZ D a B z:=⟨h.i.mono c,fun E d=>h.ch E (fun b o e=>d b o (c b o e)),h.ne,h.lc,h.lp⟩
theorem BookZ.m_ {D:Mem}{B:Bk}(h:BookZ C bv B z)(a:C.le D:=by exact mup):BookZ D bv B z:=BookZ.mono h a
def bs (B:Bk):Nat:=B.col.length-1
def bp (B:Bk):Nat:=B.pts.length
theorem Og {B:Bk}(h:BookZ C bv B z):bs B*bp B<=400000:=by
 have h1:=h.lc;have h2:=h.lp;have:bs B*bp B<=1000*400:=RP (by unfold bs;omega) (by unfold bp;omega);omega
theorem OM (C:Mem)(l:Value)(B:Bk)(z:Int)(c:BookZ C l B z):Gives cx.P 64 [l] C (.tuple #[ofS (ofE z (bs B) (bp B)) (bs B) (bp B),.int .i64 (ofE z (bs B) (bp B))]):=by
 obtain ⟨n,o,p,q,r,rfl,h1,h2,h3,h4,h5⟩:=id c.i.ex;obtain ⟨s,t,rfl,u,v,_⟩:=id h1;obtain ⟨w,x,rfl,y,A,_⟩:=id h4;have D:=Og c;have E:=c.lc;have m:=c.ch;have F:maxLen<=9223372036854775807:=by simp [maxLen]
 simp only [al] at m ⊢;refine Ud func64 26 U3 fun w0=>TY fun R a=>Up U6 fun H=>Uo U5 fun I=>C4 1 [1,2] a Z<|G.freeze 1 Z fun _ _ g=>TY fun R a=>TV (bkT g 5) U8<|Uh (m _ mup) U7<|C4 1 [1,2,4] a Z<|TT 2 [1,2,4,9] Z<|TW (fun f=>?_) fun f=>?_
 ·have b:z≠0:=by
   intro e;rw [e] at f;exact absurd f dc_
  have d:ofE z (bs B) (bp B)=z:=by unfold ofE;rw [aU b]
  refine TY fun R a=>Un [.int .i64 0,.int .i64 0] U8<|TX U6<|Uf (j:=0) U12<|C4 1 [2,3] a Z<|Ui (Ve af U5 ?_);exact ⟨by rw [d];unfold ofS;rw [az b];rfl,Z⟩
 have b:z=0:=by simpa using f
 have J:=QY.2 (c.ne b);have K:bs B+1=B.col.length:=by unfold bs;omega
 refine TU 1 Z fun R a=>TV (bkT g 1) U8<|TX U6<|UG (((bs B:Nat):Int)) U4 om_ om_ om_ U2<|Ua 2 Z<|TV (bkT g 1) U8<|TX U6<|Un [.int .i64 (bs B:Nat),.int .i64 (bp B:Nat)] U8<|Uo U5 fun L=>Uf (j:=0) U12<|TZ [2,5] a Z<|TY fun R a=>Uc af U9<|Uk (lB _ (bs B) (bp B) om_) U7 fl_<|C4 1 [2,5,23] a Z<|TW (fun h=>?_) fun h=>?_
 ·have k:60<bs B*bp B:=by
   have:=aJ h;omega
  have d:ofE z (bs B) (bp B)=4:=by unfold ofE;rw [b,az dc_,aU k]
  refine TY fun R a=>Un [.int .i64 0,.int .i64 0] U8<|Uf (j:=1) U12<|C4 1 [2,3] a Z<|Ui (Ve af U5 ?_);exact ⟨by rw [d];rfl,Z⟩
 have k:¬ 60<bs B*bp B:=by
  have:=Qe h;omega
 have d:ofE z (bs B) (bp B)=0:=by unfold ofE;rw [b,az dc_,az k]
 refine TY fun R a=>Uc af U9<|Uf (j:=1) U12<|C4 1 [2,3] a Z<|Ui (Ve af U5 ?_);exact ⟨by rw [d];rfl,Z⟩
theorem Kr (C:Mem)(c:Value)(B:Bk)(z:Int)(b:BookZ C c B z):Gives cx.P 35 [c] C (.tuple #[.int .i64 (if ofE z (bs B) (bp B)=0 then ((bs B*bp B:Nat):Int) else 0),.int .i64 (ofE z (bs B) (bp B))]):=by
 have s:=Og b;have g:=b;obtain ⟨k,l,m,n,o,rfl,h1,h2,h3,h4,h5⟩:=id b.i.ex;obtain ⟨e,d⟩:∃ e,ofE z (bs B) (bp B)=e:=⟨_,rfl⟩;have f:∀ D:Mem,C.le D->Gives cx.P 64 [.agg ⟨[k,l,m,n,o]⟩] D (.tuple #[ofS e (bs B) (bp B),.int .i64 e]):=fun D p=>by have h:=OM D _ B z (g.mono p);rwa [d] at h
 rw [d];have q:ofS e (bs B) (bp B)=.agg ⟨[.int .i64 (if e=0 then ((bs B:Nat):Int) else 0),.int .i64 (if e=0 then ((bp B:Nat):Int) else 0)]⟩:=by unfold ofS gr;split <;> rfl
 have r:∀ D:Mem,Gives cx.P 65 [.agg ⟨[.int .i64 (if e=0 then ((bs B:Nat):Int) else 0),.int .i64 (if e=0 then ((bp B:Nat):Int) else 0)]⟩] D (.int .i64 (if e=0 then ((bs B*bp B:Nat):Int) else 0)):=fun D=>by
  by_cases h:e=0
  ·rw [aU h,aU h,aU h];exact lB D (bs B) (bp B) om_
  rw [az h,az h,az h];exact lB D 0 0 om_
 rw [q] at f;refine Ud func35 14 U3 fun w0=>TY fun R a=>Up U6 fun t=>C4 2 [1] a Z<|TY fun R a=>Uc af U9<|Uh (f _ mup) U7<|Ua 3 Z<|Uo U5 fun u=>Uf (j:=0) U12<|C4 1 [4,5] a Z<|TY fun R a=>Uc af U9<|Uh (r _) U7<|C4 3 [2,3] a Z<|Ui (G.dropAll (Uw U3 ?_));exact ⟨Z,Z⟩
theorem PT (C:Mem)(a:Value)(B:Bk)(b:BookZ C a B 0)(c:bs B*bp B<=60):Gives cx.P 64 [a] C (.tuple #[gr (bs B) (bp B),.int .i64 0]):=by
 have h:=OM C a B 0 b;have e:ofE 0 (bs B) (bp B)=0:=by unfold ofE;rw [az dc_,az om_]
 rw [e] at h;exact h
def rJ (n:Nat)(done:List (Nat × Rat)):List Rat:=(List.range n).map fun j=>(dm done j).getD 0
def kW (n:Nat)(done:List (Nat × Rat)):List Value:=(rJ n done).map fun q=>ah (qtx q)
theorem lW (n:Nat):List.replicate n (ah [48])=kW n []:=by
 unfold kW rJ;rw [Q1];symm;rw [List.eq_replicate_iff];refine ⟨by simp,fun v a=>?_⟩;obtain ⟨j,_,rfl⟩:=Qk.1 a;show ah (qtx 0)=_;rw [qtx_zero]
theorem lX (n:Nat)(a:List (Nat × Rat)):(kW n a).length=n:=by simp [kW,rJ]
theorem fu (b:List (Nat × Rat))(q:Rat)(h:a<n):aD (kW n b) [ah (qtx q)] a=kW n ((a,q)::b):=by
 have g:=lX n b;unfold aD;refine List.ext_getElem? (fun j=>?_);have f:∀ (d:List (Nat × Rat)),(kW n d)[j]?=if j<n then some (ah (qtx ((dm d j).getD 0))) else none:=fun d=>by
  unfold kW rJ;rw [Q1,Qg];split
  ·rename_i c;rw [QR c];rfl
  rename_i c;rw [Ql (by simpa using Nat.le_of_not_lt c)];rfl
 rw [f ((a,q)::b)];have e:((kW n b).take a).length=a:=by rw [Qq,g];omega
 rcases Nat.lt_trichotomy j a with c | rfl | c
 ·rw [QJ,Q3 (by rw [e];exact c),QT,aU c,f b,aU om_,aU om_];simp only [dm];rw [az om_]
 ·rw [QJ,QH (by rw [e];exact Qb _),e,SE,aU h];simp [dm]
 rw [QH (by rw [Qi,e];simp;omega),Qi,e,List.getElem?_drop];rw [show a+[ah (qtx q)].length+(j-(a+[ah (qtx q)].length))=j by simp;omega,f b];split
 ·simp only [dm];rw [az om_]
 rfl
theorem wd {d a:List (Nat × Rat)}(h:d.Perm a)(b:(d.map (·.1)).Nodup):rJ n d=rJ n a:=by
 unfold rJ;refine List.map_congr_left (fun j _=>?_);rw [wG h b]
def eG (fm:List (Nat × Rat)):List (Int × Value):=fm.map fun x=>(((x.1:Nat):Int),ah (qtx x.2))
def H7 (p surface:Nat)(sign:Rat)(x:Nat × Rat):Nat × Rat:=(surface*p+x.1,sign*x.2)
theorem mT:QB 1 (-1:Rat):=eW QB_one
theorem yl (C:Mem)(s p a k:Nat)(h:a*p+k<=1000000):Gives cx.P 190 [gr s p,.int .i64 (a:Nat),.int .i64 (k:Nat)] C (.int .i64 ((a*p+k:Nat):Int)):=by
 have e:((a:Nat):Int)*(p:Nat)=((a*p:Nat):Int):=(Q6 _ _).symm;have h2:=Oq C s p (a:Nat) (k:Nat) (by rw [e];omega) om_;rw [e,<- SR] at h2;exact h2
def I2 (s p surface:Nat)(fm:List (Nat × Rat))(sign:Rat):List Rat:=rJ (s*p) (fm.map (H7 p surface sign))
theorem Ov (C:Mem)(J:Tabs C)(s p f b:Nat)(c:List (Nat × Rat))(g o:Rat)(k:Nat)(K:0<k)(hk:k<=1000)(ab:s*p<=100000)(hs:f<s)(A:C b=some (aP keyZ.enc (eG c)))(ac:(c.map (·.1)).Nodup)(ad:∀ x∈c,x.1<p)(ae:∀ x∈c,QB k x.2)(L:QB k g)(ag:QB k o) :
  Pur cx.P 196 [gr s p,.int .i64 f,.map (some b),ah (qtx g),ah (qtx o)] C fun u D=>∃ v,u=.agg ⟨[v,ah (qtx (g*o))]⟩/\Sl D 1 v ((I2 s p f c g).map fe):=by
 have av:maxLen<=9223372036854775807:=by simp [maxLen]
 have M:(eG c).length=c.length:=by simp [eG]
 have ax:f*p+p<=s*p:=by
  rw [<- Nat.succ_mul];exact Q9 _ hs
 have ay:=(c.map (·.1)).length;refine Ud func196 38 U3 fun w0=>TY fun R l=>Up U6 fun b5=>Uo U5 fun z=>TZ [1,2,3,4,5,10] l Z<|G.freeze 1 Z fun _ _ N=>Uv [(1,3)] Z fun R l=>TV (bkT N 2) U8<|D.call (fO _ s p ab) Z (.inr dc_) U6 (Qh _) fl_ (fun az _ aA _ ai=>?_);obtain ⟨bz,rfl,rfl⟩:=ai;refine Ua 2 Z<|Uk (dR _ J.m_ g o k K om_ L ag) U7 fl_<|Un [.slice (some ⟨bz,0,none⟩) (s*p:Nat) (s*p:Nat),ah (qtx (g*o))] U8<|Uo U5 fun ak=>Uf (j:=0) U12<|TZ [1,2,3,5,10,11] l Z<|G.freeze 0 Z fun _ _ O=>Um (L':=[.arr (.slice (some ⟨bz,0,none⟩) (s*p) (s*p)) 56 1 (s*p) (kW (s*p) []),.obj z (.cells ⟨[.slice none 0 0,ah []]⟩ 123 (0,0))]) (by rw [lW];rfl)<|TU 1 Z fun R l=>Wd keyZ (Mem.get A mup) Z Z Z Z Z Z Z fl_ fun E=>TZ [1,3,5,10,11,21] l Z<|G.loop (fun fr C' B μ=>∃ (seen:List Nat),(seen.Nodup/\(∀ j∈seen,j<c.length))/\fr=[(1,[],.int .i64 f),(3,[],ah (qtx g)),(5,[],.pointer (some ⟨b5,0,none⟩)),(10,[],.pointer (some ⟨z,0,none⟩)),(11,[],.pointer (some ⟨ak,0,none⟩)),(21,[],.pointer (some ⟨E,0,none⟩))]/\B=[.obj E (bA b (eG c).length seen),.arr (.slice (some ⟨bz,0,none⟩) (s*p) (s*p)) 56 1 (s*p) (kW (s*p) (seen.reverse.map fun i=>H7 p f g (c.getD i (0,0)))),.obj z (.cells ⟨[.slice none 0 0,ah []]⟩ 123 (0,0))]/\μ=c.length-seen.length) (hn_ [1,3,5,10,11,21] Z) ⟨[],⟨List.nodup_nil,by simp⟩,Z,Z,Z⟩ (fun fr aB aC m _ hI=>?_);obtain ⟨seen,⟨Q,S⟩,rfl,rfl,rfl⟩:=hI;refine TY fun R l=>Wm keyZ (q:=0) (Mem.get A mup) Z Z Z Z Z Z fl_ fun T aD t U=>C4 1 [1,3,5,10,11,21,23] l Z<|TW (fun w=>?_) fun w=>?_
 ·obtain ⟨aE,j,F,al,rfl⟩:T=true/\∃ j,j<(eG c).length/\j ∉ seen/\t=seen++[j]:=by
   rcases U with ⟨h1,_⟩ | h1
   ·rw [h1] at w;cases w
   exact h1
  rw [M] at F;obtain ⟨⟨n,q⟩,H⟩:∃ x,c[j]?=some x:=⟨c[j],aj F⟩;have V:=Qc H;have aF:n<p:=ad _ V;have am:QB k q:=ae _ V;have an:(eG c)[j]?=some (((n:Nat):Int),ah (qtx q)):=by unfold eG;rw [Qg,H];rfl
  have ao:c.getD j (0,0)=(n,q):=by rw [aw,H];rfl
  have W:(seen++[j]).Nodup:=by
   rw [RX];exact ⟨Q,by simp,fun a ha b hb e=>by rw [Qx.1 hb] at e;subst e;exact al ha⟩
  have X:∀ i∈seen++[j],i<c.length:=fun i I=>by
   rcases Qt.1 I with h | h
   ·exact S i h
   rw [Qx.1 h];exact F
  have aG:(seen++[j]).length<=c.length:=by
   have:=List.Nodup.length_le_of_subset W (l₂:=List.range c.length) (fun i I=>Qw.2 (X i I));simpa using this
  have aH:(seen++[j]).length=seen.length+1:=by simp
  have ap:f*p+n<s*p:=by omega
  refine TY fun R l=>Wi keyZ (Mem.get A mup) an af Z Z Z Z Z Z Z<|C4 4 [1,3,5,10,11,12,13,21] l Z<|Ur [0,1,2,3,4,5,6,7,8,9,10] [(5,1),(8,1)] Z kr_ fun R hB l=>TX U6<|TV (bkT O 1) U8<|TV (bkT N 2) U8<|Ua 2 Z<|Us (fun _=>(yl _ s p f n om_)) U9<|Ua 2 Z<|Us (fun _=>(dR _ J.m_ g q k K om_ L am)) U9<|UA ((f*p+n)) U10 (fun _=>⟨by omega,by omega,(Sd _).symm⟩) U2<|UD (j:=1) U11 (by rw [lX];simp;omega)<|TZ [1,3,5,10,11,21] l Z<|G.perm (L':=[.obj E (bA b (eG c).length (seen++[j])),.arr (.slice (some ⟨bz,0,none⟩) (s*p) (s*p)) 56 1 (s*p) (kW (s*p) ((seen++[j]).reverse.map fun i=>H7 p f g (c.getD i (0,0)))),.obj z (.cells ⟨[.slice none 0 0,ah []]⟩ 123 (0,0))]) (by
   rw [List.reverse_append,List.reverse_singleton,List.singleton_append,QO,ao];unfold H7;rw [<- fu _ _ ap];exact List.Perm.swap _ _ _) ?_
  refine Ug (m':=c.length-(seen++[j]).length) om_ mup (hn_ [1,3,5,10,11,21] Z) ⟨seen++[j],⟨W,X⟩,Z,Z,Z⟩
 obtain ⟨aI,rfl,Y⟩:T=false/\t=seen/\∀ j,j<(eG c).length->j∈seen:=by
  rcases U with h1 | ⟨h1,_⟩
  ·exact h1
  rw [h1] at w;cases w
 rw [M] at Y;have aa:(t.reverse.map fun i=>H7 p f g (c.getD i (0,0))).Perm (c.map (H7 p f g)):=by
  have h1:=(vW (d:=((0:Nat),(0:Rat))) Q S Y).map (H7 p f g);rw [Q1] at h1;exact ((List.reverse_perm t).map _).trans h1
 have aq:((c.map (H7 p f g)).map (·.1)).Nodup:=by
  rw [Q1];have e:((·.1) ∘ H7 p f g:Nat × Rat->Nat)=(fun k=>f*p+k) ∘ (·.1):=rfl;rw [e,<- Q1];rw [List.Nodup,List.pairwise_map];exact ac.imp (fun {a b} h=>by omega)
 have ar:kW (s*p) (t.reverse.map fun i=>H7 p f g (c.getD i (0,0)))=((I2 s p f c g).map fe).flatten:=by
  unfold I2 kW;rw [wd aa ((aa.map (·.1)).nodup_iff.2 aq)];exact (eo (fun q=>ah (qtx q)) _).symm
 refine UO 0 Z<|G.freezeArr 0 ((I2 s p f c g).map fe) rfl ar (by intro r hr;obtain ⟨y,_,rfl⟩:=Qk.1 hr;rfl) (by simp [I2,rJ]) fun Cg hg au=>TY fun R l=>TV (bkT O 2) U8<|Uf (j:=0) U12<|TZ [10] l Z<|Ui (UN af U4 ?_);exact ⟨Z,_,Z,au⟩
structure RowQ where
 f:List Rat
 b:Rat
def aS (vs:List Value)(rows:List RowQ):List (List Value):=List.zipWith (fun w (r:RowQ)=>[w,ah (qtx r.b)]) vs rows
def RowsOk (C:Mem)(vs:List Value)(rows:List RowQ):Prop:=vs.length=rows.length/\∀ (i:Nat)(w:Value)(r:RowQ),vs[i]?=some w->rows[i]?=some r->Sl C 1 w (r.f.map fe)
theorem RowsOk.mono {C D:Mem}{a:List Value}{b:List RowQ}(h:RowsOk C a b)(c:C.le D):RowsOk D a b:=⟨h.1,fun i w r h1 h2=>(h.2 i w r h1 h2).mono c⟩
theorem RowsOk.m_ {D:Mem}{a:List RowQ}(h:RowsOk C vs a)(b:C.le D:=by exact mup):RowsOk D vs a:=RowsOk.mono h b
theorem RowsOk.nil (C:Mem):RowsOk C [] []:=⟨rfl,fun i w r h1 _=>by simp at h1⟩
theorem RowsOk.snoc {a:List RowQ}{r:RowQ}(h:RowsOk C vs a)(c:Sl C 1 v (r.f.map fe)):RowsOk C (vs++[v]) (a++[r]):=by
 have h0:=h.1;refine ⟨by simp [h0],fun j w d h1 h2=>?_⟩;rcases QL j vs.length with e | g
 ·rw [Q3 e] at h1;rw [Q3 om_] at h2;exact h.2 j w d h1 h2
 rw [QH g] at h1;rw [QH om_,<- h0] at h2;cases b:j-vs.length with
 | zero=>rw [b] at h1 h2;simp at h1 h2;subst h1;subst h2;exact c
 | succ q=>rw [b] at h1;simp at h1
theorem fj {a:List RowQ}(h:vs.length=a.length)(v:Value)(r:RowQ):aS (vs++[v]) (a++[r])=aS vs a++[[v,ah (qtx r.b)]]:=by
 unfold aS;rw [List.zipWith_append h];rfl
theorem dv {a:List RowQ}(h:vs.length=a.length):(aS vs a).length=a.length:=by simp [aS,h]
theorem iR (b:List Value)(c:List RowQ):∀ r∈aS b c,r.length=2:=by
 intro r hr;unfold aS at hr;obtain ⟨i,a⟩:=RB hr;rw [List.getElem?_zipWith] at a;cases h1:b[i]? <;> cases h2:c[i]? <;> rw [h1,h2] at a <;> simp at a
 subst a;rfl
def RowsIn (C:Mem)(v:Value)(rows:List RowQ):Prop:=∃ vs:List Value,RowsOk C vs rows/\Sl C 2 v (aS vs rows)
theorem RowsIn.mono {C D:Mem}{v:Value}{a:List RowQ}(h:RowsIn C v a)(b:C.le D):RowsIn D v a:=by
 obtain ⟨vs,h1,h2⟩:=h;exact ⟨vs,h1.mono b,h2.mono b⟩
theorem RowsIn.m_ {D:Mem}{a:List RowQ}(h:RowsIn C v a)(b:C.le D:=by exact mup):RowsIn D v a:=RowsIn.mono h b
def sb (s p:Nat)(x:Lay)(i k:Nat):RowQ:=⟨rJ (s*p) [(i*p+k, -1),((i-1)*p+k,1)], -x.min⟩
def GO (s p:Nat)(m:Rat)(i k:Nat):RowQ:=⟨rJ (s*p) [(i*p+k,1),((i-1)*p+k, -1)],m⟩
def kl (s p:Nat)(x:Lay)(i k:Nat):List RowQ :=
 sb s p x i k::(match x.max with
  | none=>[]
  | some m=>[GO s p m i k])
def bx (s p:Nat)(x:Lay)(i:Nat):Nat->List RowQ
 | 0=>[]
 | k+1=>bx s p x i k++kl s p x i k
def bj (s p:Nat)(col:List Lay):Nat->List RowQ
 | 0=>[]
 | n+1=>bj s p col n++bx s p (col.getD (n+1) ⟨[],0,none⟩) (n+1) p
theorem mJ (s p:Nat)(x:Lay)(i:Nat):∀ k,(bx s p x i k).length<=2*k
 | 0=>Qb _
 | k+1=>by
  have:=mJ s p x i k;have h2:(kl s p x i k).length<=2:=by unfold kl;split <;> simp
  simp only [bx,Qi];omega
theorem jx (s p:Nat)(a:List Lay):∀ n,(bj s p a n).length<=2*(n*p)
 | 0=>by simp [bj]
 | n+1=>by
  have:=jx s p a n;have h2:=mJ s p (a.getD (n+1) ⟨[],0,none⟩) (n+1) p;simp only [bj,Qi,Nat.succ_mul];omega
theorem cV:qtx (-1)=[45,49]:=by
 rw [ga (q:=1) dc_ dc_,dx]
theorem st2 (c d:Rat)(e:a<n)(f:b<n):aD (aD (List.replicate n (ah [48])) [ah (qtx c)] a) [ah (qtx d)] b=kW n [(b,d),(a,c)]:=by
 rw [lW,fu _ _ e,fu _ _ f]
theorem Pq (c d:Rat)(e:a<n)(f:b<n)(g:a≠b):aD (aD (List.replicate n (ah [48])) [ah (qtx d)] b) [ah (qtx c)] a=kW n [(b,d),(a,c)]:=by
 rw [st2 d c f e];unfold kW;rw [wd (List.Perm.swap _ _ _) (by simp;exact g)]
theorem jk (n:Nat)(d:List (Nat × Rat)):kW n d=((rJ n d).map fe).flatten:=(eo (fun q=>ah (qtx q)) _).symm
theorem jB (n:Nat)(d:List (Nat × Rat)):(rJ n d).length=n:=by simp [rJ]
theorem vH (C:Mem)(_aN:Tabs C)(v:Value)(s p:Nat)(c:List Lay)(J:Sl C 3 v (c.map yS))(hs:s+1=c.length)(aO:s*p<=60)(an:∀ x∈c,N0 x) :
  Pur cx.P 127 [gr s p,v] C fun u D=>RowsIn D u (bj s p c (c.length-2)):=by
 obtain ⟨F,c0,rfl,ao,aP,_⟩:=id J;have aQ:maxLen<=9223372036854775807:=by simp [maxLen]
 simp only [al] at J ao ⊢;refine Ud func127 81 U3 fun w0=>TY fun R d=>Up U6 fun H=>C4 1 [1,2] d Z<|G.freeze 0 Z fun _ _ K=>TT 1 [1,2,5] Z<|TT 1 [1,2,5,6] Z<|G.nilArr 123 2<|G.loop (fun fr C' f t=>∃ (i:Nat)(vs:List Value)(w:Value),(1<=i/\(i+1<=c.length∨i=1)/\RowsOk C' vs (bj s p c (i-1)))/\fr=[(1,[],.slice F c.length c0),(2,[],.pointer (some ⟨H,0,none⟩)),(5,[],w),(6,[],.int .i64 i)]/\f=[.arr w 123 2 (bj s p c (i-1)).length (aS vs (bj s p c (i-1))).flatten]/\t=c.length-i) (hn_ [1,2,5,6] Z) ⟨1,[],_,⟨Qb _,.inr Z,RowsOk.nil _⟩,Z,Z,Z⟩ (fun fr aR aT m _ z=>?_);obtain ⟨i,vs,w,⟨aU,aV,O⟩,rfl,rfl,rfl⟩:=z;refine TU 1 Z fun R d=>Ue _ U7<|C4 3 [1,2,5,6,15] d Z<|TW (fun W=>?_) fun W=>?_
 ·have ac:i+1<c.length:=by
   have:=aJ W;omega
  obtain ⟨x,L⟩:∃ x,c[i]?=some x:=⟨c[i]'om_,aj om_⟩;obtain ⟨M,aW,aX⟩:=an x (Qc L);have aY:=jx s p c (i-1);refine TU 1 Z fun R d=>TV (bkT K 1) U8<|C4 1 [1,2,5,6,19,20] d Z<|Um (L':=[.arr w 123 2 (bj s p c (i-1)++bx s p x i 0).length (aS vs (bj s p c (i-1)++bx s p x i 0)).flatten]) (by simp [bx])<|G.loop (fun fr C' f t=>∃ (k:Nat)(g:List Value)(o:Value),(k<=p/\RowsOk C' g (bj s p c (i-1)++bx s p x i k))/\fr=[(1,[],.slice F c.length c0),(2,[],.pointer (some ⟨H,0,none⟩)),(5,[],o),(6,[],.int .i64 i),(19,[],.int .i64 p),(20,[],.int .i64 k)]/\f=[.arr o 123 2 (bj s p c (i-1)++bx s p x i k).length (aS g (bj s p c (i-1)++bx s p x i k)).flatten]/\t=p-k) (hn_ [1,2,5,6,19,20] Z) ⟨0,vs,w,⟨Qf _,by simpa [bx] using O⟩,Z,Z,Z⟩ (fun fr aZ a0 m _ z=>?_);obtain ⟨k,g,o,⟨hk,X⟩,rfl,rfl,rfl⟩:=z;refine TT 1 [1,2,5,6,19,20,21] Z<|TW (fun Y=>?_) fun Y=>?_
  ·have ad:k<p:=by simpa using Y
   have a1:i*p+p<=s*p:=by
    rw [<- Nat.succ_mul];exact Q9 _ om_
   have a2:(i-1)*p+p=i*p:=by
    rw [<- Nat.succ_mul,show (i-1).succ=i by omega]
   have a3:=mJ s p x i k;have a4:(i-1)*p<=60:=by omega
   have ag:(bj s p c (i-1)++bx s p x i k).length<=400:=by
    rw [Qi];omega
   refine TT 2 [1,2,5,6,7,19,20] Z<|Ur [0,1,2,3,4,5,6,7,8,9,10] [(4,1),(8,1)] Z kr_ fun R Q d=>TV (bkT K 2) U8<|TX U6<|UG (((i-1:Nat):Int)) U4 om_ om_ om_ U2<|TX U6<|Us (fun _=>(yl _ s p (i-1) k om_)) U9<|TV (bkT K 2) U8<|Ua 2 Z<|Us (fun _=>(yl _ s p i k om_)) U9<|C4 2 [1,2,5,6,8,9,19,20] d Z<|G.cut (fun fr C' f t=>∃ (bz e:Nat),(True)/\fr=[(1,[],.slice F c.length c0),(2,[],.pointer (some ⟨H,0,none⟩)),(5,[],o),(6,[],.int .i64 i),(8,[],.int .i64 ((((i-1)*p+k:Nat)):Int)),(9,[],.int .i64 (((i*p+k:Nat)):Int)),(10,[],.pointer (some ⟨e,0,none⟩)),(19,[],.int .i64 p),(20,[],.int .i64 k)]/\f=[.arr (.slice (some ⟨bz,0,none⟩) (s*p) (s*p)) 56 1 (s*p) (List.replicate (s*p) (ah [48])),.obj e (.cells ⟨[.slice (some ⟨bz,0,none⟩) (s*p) (s*p),ah (qtx (-x.min))]⟩ 123 (0,0)),.arr o 123 2 (bj s p c (i-1)++bx s p x i k).length (aS g (bj s p c (i-1)++bx s p x i k)).flatten]) ?_ (fun fr a5 a6 t a7 z=>?_)
   ·refine UP (.cut [0,2,3,4,5] (.alt 1 (.fin [6,7,8,9,10]) (.alt 6 (.cut [] (.alt 1 (.fin [7,8,9,10]) (.alt 9 (.fin [1,7,8,10]) .stop))) (.alt 9 (.cut [] (.alt 1 (.fin [6,7,8,10]) (.alt 6 (.fin [1,7,8,10]) .stop))) .stop)))) [(7,1),(1,3)] Z Z kr_ fun R Q d B=>TV (bkT K 2) U8<|Ua 2 Z<|Ul J.m_ U10 om_ (bX L) fl_ fun a8 ap=>Vp ap U10 fl_ fun a9 S=>UE B Z ⟨?_, ?_, ?_,trivial⟩
    ·refine D.call (fO _ s p om_) Z (.inr dc_) U6 (Qh _) fl_ fun T U V _ E=>TV S.m_ U8<|UC (fun _=>(eL _ x.min (CY M))) U9 ?_;obtain ⟨bz,rfl,rfl⟩:=E;refine Un [.slice (some ⟨bz,0,none⟩) (s*p:Nat) (s*p:Nat),ah (qtx (-x.min))] U8<|Uo U5 (fun e=>?_)
     first | refine US (j:=0) U12 ?_ | refine US (j:=1) U12 ?_
     exact TZ [1,2,5,6,8,9,10,19,20] d Z<|G.perm (L':=[.arr (.slice (some ⟨bz,0,none⟩) (s*p) (s*p)) 56 1 (s*p) (List.replicate (s*p) (ah [48])),.obj e (.cells ⟨[.slice (some ⟨bz,0,none⟩) (s*p) (s*p),ah (qtx (-x.min))]⟩ 123 (0,0)),.arr o 123 2 (bj s p c (i-1)++bx s p x i k).length (aS g (bj s p c (i-1)++bx s p x i k)).flatten]) (by first | exact Qh _ | exact List.Perm.swap _ _ _)<|Uj 0 mup (hn_ [1,2,5,6,8,9,10,19,20] Z) ⟨bz,e,trivial,Z,Z⟩
    ·refine TV S.m_ U8<|UE B Z ⟨?_, ?_,trivial⟩
     ·refine D.call (fO _ s p om_) Z (.inr dc_) U6 (Qh _) fl_ fun T U V _ E=>UC (fun _=>(eL _ x.min (CY M))) U9 ?_;obtain ⟨bz,rfl,rfl⟩:=E;refine Un [.slice (some ⟨bz,0,none⟩) (s*p:Nat) (s*p:Nat),ah (qtx (-x.min))] U8<|Uo U5 (fun e=>?_)
      first | refine US (j:=0) U12 ?_ | refine US (j:=1) U12 ?_
      exact TZ [1,2,5,6,8,9,10,19,20] d Z<|G.perm (L':=[.arr (.slice (some ⟨bz,0,none⟩) (s*p) (s*p)) 56 1 (s*p) (List.replicate (s*p) (ah [48])),.obj e (.cells ⟨[.slice (some ⟨bz,0,none⟩) (s*p) (s*p),ah (qtx (-x.min))]⟩ 123 (0,0)),.arr o 123 2 (bj s p c (i-1)++bx s p x i k).length (aS g (bj s p c (i-1)++bx s p x i k)).flatten]) (by first | exact Qh _ | exact List.Perm.swap _ _ _)<|Uj 0 mup (hn_ [1,2,5,6,8,9,10,19,20] Z) ⟨bz,e,trivial,Z,Z⟩
     refine Uo U5 fun e=>D.call (fO _ s p om_) Z (.inr dc_) U6 (Qh _) fl_ fun T U V _ E=>UC (fun _=>(eL _ x.min (CY M))) U9 ?_;obtain ⟨bz,rfl,rfl⟩:=E;refine Un [.slice (some ⟨bz,0,none⟩) (s*p:Nat) (s*p:Nat),ah (qtx (-x.min))] U8 ?_
     first | refine US (j:=0) U12 ?_ | refine US (j:=1) U12 ?_
     exact TZ [1,2,5,6,8,9,10,19,20] d Z<|G.perm (L':=[.arr (.slice (some ⟨bz,0,none⟩) (s*p) (s*p)) 56 1 (s*p) (List.replicate (s*p) (ah [48])),.obj e (.cells ⟨[.slice (some ⟨bz,0,none⟩) (s*p) (s*p),ah (qtx (-x.min))]⟩ 123 (0,0)),.arr o 123 2 (bj s p c (i-1)++bx s p x i k).length (aS g (bj s p c (i-1)++bx s p x i k)).flatten]) (by first | exact Qh _ | exact List.Perm.swap _ _ _)<|Uj 0 mup (hn_ [1,2,5,6,8,9,10,19,20] Z) ⟨bz,e,trivial,Z,Z⟩
    refine Uo U5 fun e=>UE B Z ⟨?_, ?_,trivial⟩
    ·refine D.call (fO _ s p om_) Z (.inr dc_) U6 (Qh _) fl_ fun T U V _ E=>TV S.m_ U8<|UC (fun _=>(eL _ x.min (CY M))) U9 ?_;obtain ⟨bz,rfl,rfl⟩:=E;refine Un [.slice (some ⟨bz,0,none⟩) (s*p:Nat) (s*p:Nat),ah (qtx (-x.min))] U8 ?_
     first | refine US (j:=0) U12 ?_ | refine US (j:=1) U12 ?_
     exact TZ [1,2,5,6,8,9,10,19,20] d Z<|G.perm (L':=[.arr (.slice (some ⟨bz,0,none⟩) (s*p) (s*p)) 56 1 (s*p) (List.replicate (s*p) (ah [48])),.obj e (.cells ⟨[.slice (some ⟨bz,0,none⟩) (s*p) (s*p),ah (qtx (-x.min))]⟩ 123 (0,0)),.arr o 123 2 (bj s p c (i-1)++bx s p x i k).length (aS g (bj s p c (i-1)++bx s p x i k)).flatten]) (by first | exact Qh _ | exact List.Perm.swap _ _ _)<|Uj 0 mup (hn_ [1,2,5,6,8,9,10,19,20] Z) ⟨bz,e,trivial,Z,Z⟩
    refine TV S.m_ U8<|D.call (fO _ s p om_) Z (.inr dc_) U6 (Qh _) fl_ fun T U V _ E=>UC (fun _=>(eL _ x.min (CY M))) U9 ?_;obtain ⟨bz,rfl,rfl⟩:=E;refine Un [.slice (some ⟨bz,0,none⟩) (s*p:Nat) (s*p:Nat),ah (qtx (-x.min))] U8 ?_
    first | refine US (j:=0) U12 ?_ | refine US (j:=1) U12 ?_
    exact TZ [1,2,5,6,8,9,10,19,20] d Z<|G.perm (L':=[.arr (.slice (some ⟨bz,0,none⟩) (s*p) (s*p)) 56 1 (s*p) (List.replicate (s*p) (ah [48])),.obj e (.cells ⟨[.slice (some ⟨bz,0,none⟩) (s*p) (s*p),ah (qtx (-x.min))]⟩ 123 (0,0)),.arr o 123 2 (bj s p c (i-1)++bx s p x i k).length (aS g (bj s p c (i-1)++bx s p x i k)).flatten]) (by first | exact Qh _ | exact List.Perm.swap _ _ _)<|Uj 0 mup (hn_ [1,2,5,6,8,9,10,19,20] Z) ⟨bz,e,trivial,Z,Z⟩
   obtain ⟨bz,e,_,rfl,rfl⟩:=z;refine G.cut (fun fr C' f t=>(True)/\fr=[(1,[],.slice F c.length c0),(2,[],.pointer (some ⟨H,0,none⟩)),(5,[],o),(6,[],.int .i64 i),(8,[],.int .i64 ((((i-1)*p+k:Nat)):Int)),(9,[],.int .i64 (((i*p+k:Nat)):Int)),(10,[],.pointer (some ⟨e,0,none⟩)),(19,[],.int .i64 p),(20,[],.int .i64 k)]/\f=[.arr (.slice (some ⟨bz,0,none⟩) (s*p) (s*p)) 56 1 (s*p) (kW (s*p) [(i*p+k, -1),((i-1)*p+k,1)]),.obj e (.cells ⟨[.slice (some ⟨bz,0,none⟩) (s*p) (s*p),ah (qtx (-x.min))]⟩ 123 (0,0)),.arr o 123 2 (bj s p c (i-1)++bx s p x i k).length (aS g (bj s p c (i-1)++bx s p x i k)).flatten]) ?_ (fun fr ba bb t bc z=>?_)
   ·refine UP (.cut [0,1,2,3,5,6] (.alt 4 (.fin [7,8,9]) (.alt 7 (.fin [4,8,9]) .stop))) [] Z Z kr_ fun R Q d B=>TX U6<|Uc ae U9<|Ua 3 Z<|UA (((i-1)*p+k)) U10 (fun _=>⟨by omega,by omega,(Sd _).symm⟩) U2<|UE B Z ⟨?_, ?_,trivial⟩
    ·refine Uc ae U9<|UD (j:=0) U11 (by simp [];omega)<|UA ((i*p+k)) U10 (fun _=>⟨by omega,by omega,(Sd _).symm⟩) U2<|UD (j:=0) U11 (by simp [aD];omega)<|TZ [1,2,5,6,8,9,10,19,20] d Z<|Um (L':=[.arr (.slice (some ⟨bz,0,none⟩) (s*p) (s*p)) 56 1 (s*p) (kW (s*p) [(i*p+k, -1),((i-1)*p+k,1)]),.obj e (.cells ⟨[.slice (some ⟨bz,0,none⟩) (s*p) (s*p),ah (qtx (-x.min))]⟩ 123 (0,0)),.arr o 123 2 (bj s p c (i-1)++bx s p x i k).length (aS g (bj s p c (i-1)++bx s p x i k)).flatten]) (by
      first
      | (rw [<- st2 (n:=s*p) 1 (-1) om_ om_,dx,cV];rfl)
      | (rw [<- Pq (n:=s*p) 1 (-1) om_ om_ om_,dx,cV];rfl)) ?_
     exact Uj 0 (Mem.le.refl _) (hn_ [1,2,5,6,8,9,10,19,20] Z) ⟨trivial,Z,Z⟩
    refine UD (j:=0) U11 (by simp [];omega)<|Uc ae U9<|UA ((i*p+k)) U10 (fun _=>⟨by omega,by omega,(Sd _).symm⟩) U2<|UD (j:=0) U11 (by simp [aD];omega)<|TZ [1,2,5,6,8,9,10,19,20] d Z<|Um (L':=[.arr (.slice (some ⟨bz,0,none⟩) (s*p) (s*p)) 56 1 (s*p) (kW (s*p) [(i*p+k, -1),((i-1)*p+k,1)]),.obj e (.cells ⟨[.slice (some ⟨bz,0,none⟩) (s*p) (s*p),ah (qtx (-x.min))]⟩ 123 (0,0)),.arr o 123 2 (bj s p c (i-1)++bx s p x i k).length (aS g (bj s p c (i-1)++bx s p x i k)).flatten]) (by
     first
     | (rw [<- st2 (n:=s*p) 1 (-1) om_ om_,dx,cV];rfl)
     | (rw [<- Pq (n:=s*p) 1 (-1) om_ om_ om_,dx,cV];rfl)) ?_
    exact Uj 0 (Mem.le.refl _) (hn_ [1,2,5,6,8,9,10,19,20] Z) ⟨trivial,Z,Z⟩
   obtain ⟨_,rfl,rfl⟩:=z;refine G.freezeArr 0 ((rJ (s*p) [(i*p+k, -1),((i-1)*p+k,1)]).map fe) rfl (jk _ _) (by intro r hr;obtain ⟨y,_,rfl⟩:=Qk.1 hr;rfl) (by simp [jB]) (fun Cz hz aq=>?_);have ar:=X.1;have aa:=RowsOk.snoc (r:=sb s p x i k) X.m_ aq;have au:=fj ar (.slice (some ⟨bz,0,none⟩) (s*p) (s*p)) (sb s p x i k);refine TU 1 Z fun R d=>Uc af U9<|Uq [[.slice (some ⟨bz,0,none⟩) (s*p:Nat) (s*p:Nat),ah (qtx (-x.min))]] U12 fun bd _ _ av=>D.append (j:=1) U11 av Z ax (by simp only [aI];omega) fl_ fun A=>C4 1 [1,2,5,6,8,9,10,19,20] d Z<|Um (L':=[.arr A 123 2 (bj s p c (i-1)++bx s p x i k++[sb s p x i k]).length (aS (g++[.slice (some ⟨bz,0,none⟩) (s*p) (s*p)]) (bj s p c (i-1)++bx s p x i k++[sb s p x i k])).flatten,.obj e (.cells ⟨[.slice (some ⟨bz,0,none⟩) (s*p) (s*p),ah (qtx (-x.min))]⟩ 123 (0,0))]) (by rw [au];simp [sb];omega)<|TU 2 Z fun R d=>Ul J.m_ U10 om_ (bX L) fl_ fun be aw=>Vp aw U10 fl_ fun bf ay=>TV ay U8<|C4 1 [1,2,5,6,8,9,10,19,20,58] d Z<|TW (fun I=>?_) fun I=>?_
   ·obtain ⟨m,hm⟩:∃ m,x.max=some m:=by
     rw [pA] at I;exact Te.1 I
    have N:kl s p x i k=[sb s p x i k,GO s p m i k]:=by unfold kl;rw [hm]
    have az:vn x.max=qtx m:=by rw [hm];rfl
    refine G.cut (fun fr C' f t=>∃ (h:Nat),(True)/\fr=[(1,[],.slice F c.length c0),(2,[],.pointer (some ⟨H,0,none⟩)),(5,[],A),(6,[],.int .i64 i),(8,[],.int .i64 ((((i-1)*p+k:Nat)):Int)),(9,[],.int .i64 (((i*p+k:Nat)):Int)),(10,[],.pointer (some ⟨e,0,none⟩)),(19,[],.int .i64 p),(20,[],.int .i64 k)]/\f=[.arr (.slice (some ⟨h,0,none⟩) (s*p) (s*p)) 56 1 (s*p) (List.replicate (s*p) (ah [48])),.obj e (.cells ⟨[.slice (some ⟨h,0,none⟩) (s*p) (s*p),ah (vn x.max)]⟩ 123 (0,0)),.arr A 123 2 (bj s p c (i-1)++bx s p x i k++[sb s p x i k]).length (aS (g++[.slice (some ⟨bz,0,none⟩) (s*p) (s*p)]) (bj s p c (i-1)++bx s p x i k++[sb s p x i k])).flatten]) ?_ (fun fr bg bh t bi z=>?_)
    ·refine UP (.cut [0,2,3,4,5] (.alt 1 (.fin [6,7,8]) (.alt 6 (.fin [1,7,8]) .stop))) [(1,3)] Z Z kr_ fun R Q d B=>TV (bkT K 2) U8<|Ua 2 Z<|Ul J.m_ U10 om_ (bX L) fl_ fun bk aA=>Vp aA U10 fl_ fun bl ai=>UE B Z ⟨?_, ?_,trivial⟩
     ·refine D.call (fO _ s p om_) Z (.inr dc_) U6 (Qh _) fl_ fun aB aC aE _ ab=>TV ai.m_ U8 ?_;obtain ⟨h,rfl,rfl⟩:=ab;refine Un [.slice (some ⟨h,0,none⟩) (s*p:Nat) (s*p:Nat),ah (vn x.max)] U8 ?_
      first | refine US (j:=2) U12 ?_ | refine US (j:=1) U12 ?_
      exact TZ [1,2,5,6,8,9,10,19,20] d Z<|G.perm (L':=[.arr (.slice (some ⟨h,0,none⟩) (s*p) (s*p)) 56 1 (s*p) (List.replicate (s*p) (ah [48])),.obj e (.cells ⟨[.slice (some ⟨h,0,none⟩) (s*p) (s*p),ah (vn x.max)]⟩ 123 (0,0)),.arr A 123 2 (bj s p c (i-1)++bx s p x i k++[sb s p x i k]).length (aS (g++[.slice (some ⟨bz,0,none⟩) (s*p) (s*p)]) (bj s p c (i-1)++bx s p x i k++[sb s p x i k])).flatten]) (by first | exact Qh _ | exact List.Perm.swap _ _ _)<|Uj 0 mup (hn_ [1,2,5,6,8,9,10,19,20] Z) ⟨h,trivial,Z,Z⟩
     refine TV ai.m_ U8<|D.call (fO _ s p om_) Z (.inr dc_) U6 (Qh _) fl_ (fun aB aC aE _ ab=>?_);obtain ⟨h,rfl,rfl⟩:=ab;refine Un [.slice (some ⟨h,0,none⟩) (s*p:Nat) (s*p:Nat),ah (vn x.max)] U8 ?_
     first | refine US (j:=2) U12 ?_ | refine US (j:=1) U12 ?_
     exact TZ [1,2,5,6,8,9,10,19,20] d Z<|G.perm (L':=[.arr (.slice (some ⟨h,0,none⟩) (s*p) (s*p)) 56 1 (s*p) (List.replicate (s*p) (ah [48])),.obj e (.cells ⟨[.slice (some ⟨h,0,none⟩) (s*p) (s*p),ah (vn x.max)]⟩ 123 (0,0)),.arr A 123 2 (bj s p c (i-1)++bx s p x i k++[sb s p x i k]).length (aS (g++[.slice (some ⟨bz,0,none⟩) (s*p) (s*p)]) (bj s p c (i-1)++bx s p x i k++[sb s p x i k])).flatten]) (by first | exact Qh _ | exact List.Perm.swap _ _ _)<|Uj 0 mup (hn_ [1,2,5,6,8,9,10,19,20] Z) ⟨h,trivial,Z,Z⟩
    obtain ⟨h,_,rfl,rfl⟩:=z;refine G.cut (fun fr C' f t=>(True)/\fr=[(1,[],.slice F c.length c0),(2,[],.pointer (some ⟨H,0,none⟩)),(5,[],A),(6,[],.int .i64 i),(10,[],.pointer (some ⟨e,0,none⟩)),(19,[],.int .i64 p),(20,[],.int .i64 k)]/\f=[.arr (.slice (some ⟨h,0,none⟩) (s*p) (s*p)) 56 1 (s*p) (kW (s*p) [(i*p+k,1),((i-1)*p+k, -1)]),.obj e (.cells ⟨[.slice (some ⟨h,0,none⟩) (s*p) (s*p),ah (vn x.max)]⟩ 123 (0,0)),.arr A 123 2 (bj s p c (i-1)++bx s p x i k++[sb s p x i k]).length (aS (g++[.slice (some ⟨bz,0,none⟩) (s*p) (s*p)]) (bj s p c (i-1)++bx s p x i k++[sb s p x i k])).flatten]) ?_ (fun fr bm bn t bo z=>?_)
    ·refine UP (.cut [0,1,2,3,5,6] (.alt 4 (.fin [7,8,9]) (.alt 7 (.fin [4,8,9]) .stop))) [] Z Z kr_ fun R Q d B=>TX U6<|Uc ae U9<|Ua 3 Z<|UA (((i-1)*p+k)) U10 (fun _=>⟨by omega,by omega,(Sd _).symm⟩) U2<|UE B Z ⟨?_, ?_,trivial⟩
     ·refine Uc ae U9<|UD (j:=0) U11 (by simp [];omega)<|UA ((i*p+k)) U10 (fun _=>⟨by omega,by omega,(Sd _).symm⟩) U2<|UD (j:=0) U11 (by simp [aD];omega)<|TZ [1,2,5,6,10,19,20] d Z<|Um (L':=[.arr (.slice (some ⟨h,0,none⟩) (s*p) (s*p)) 56 1 (s*p) (kW (s*p) [(i*p+k,1),((i-1)*p+k, -1)]),.obj e (.cells ⟨[.slice (some ⟨h,0,none⟩) (s*p) (s*p),ah (vn x.max)]⟩ 123 (0,0)),.arr A 123 2 (bj s p c (i-1)++bx s p x i k++[sb s p x i k]).length (aS (g++[.slice (some ⟨bz,0,none⟩) (s*p) (s*p)]) (bj s p c (i-1)++bx s p x i k++[sb s p x i k])).flatten]) (by
       first
       | (rw [<- st2 (n:=s*p) (-1) 1 om_ om_,dx,cV];rfl)
       | (rw [<- Pq (n:=s*p) (-1) 1 om_ om_ om_,dx,cV];rfl)) ?_
      exact Uj 0 (Mem.le.refl _) (hn_ [1,2,5,6,10,19,20] Z) ⟨trivial,Z,Z⟩
     refine UD (j:=0) U11 (by simp [];omega)<|Uc ae U9<|UA ((i*p+k)) U10 (fun _=>⟨by omega,by omega,(Sd _).symm⟩) U2<|UD (j:=0) U11 (by simp [aD];omega)<|TZ [1,2,5,6,10,19,20] d Z<|Um (L':=[.arr (.slice (some ⟨h,0,none⟩) (s*p) (s*p)) 56 1 (s*p) (kW (s*p) [(i*p+k,1),((i-1)*p+k, -1)]),.obj e (.cells ⟨[.slice (some ⟨h,0,none⟩) (s*p) (s*p),ah (vn x.max)]⟩ 123 (0,0)),.arr A 123 2 (bj s p c (i-1)++bx s p x i k++[sb s p x i k]).length (aS (g++[.slice (some ⟨bz,0,none⟩) (s*p) (s*p)]) (bj s p c (i-1)++bx s p x i k++[sb s p x i k])).flatten]) (by
      first
      | (rw [<- st2 (n:=s*p) (-1) 1 om_ om_,dx,cV];rfl)
      | (rw [<- Pq (n:=s*p) (-1) 1 om_ om_ om_,dx,cV];rfl)) ?_
     exact Uj 0 (Mem.le.refl _) (hn_ [1,2,5,6,10,19,20] Z) ⟨trivial,Z,Z⟩
    obtain ⟨_,rfl,rfl⟩:=z;refine G.freezeArr 0 ((rJ (s*p) [(i*p+k,1),((i-1)*p+k, -1)]).map fe) rfl (jk _ _) (by intro r hr;obtain ⟨y,_,rfl⟩:=Qk.1 hr;rfl) (by simp [jB]) (fun bp bq aF=>?_);have aG:=RowsOk.snoc (r:=GO s p m i k) aa.m_ aF;have aH:=fj aa.1 (.slice (some ⟨h,0,none⟩) (s*p) (s*p)) (GO s p m i k);refine TU 1 Z fun R d=>Uc af U9<|Uq [[.slice (some ⟨h,0,none⟩) (s*p:Nat) (s*p:Nat),ah (vn x.max)]] U12 fun br _ _ aK=>D.append (j:=1) U11 aK Z (by simp only [Qi,aI,maxLen] at ag ⊢;omega) (by simp only [Qi,aI] at ag ⊢;omega) fl_ fun ak=>C4 1 [1,2,5,6,19,20] d Z<|TY fun R d=>Ue _ U7<|C4 1 [1,2,5,6,19,20] d Z<|UO 1 Z<|Um (L':=[.arr ak 123 2 (bj s p c (i-1)++bx s p x i (k+1)).length (aS (g++[.slice (some ⟨bz,0,none⟩) (s*p) (s*p)]++[.slice (some ⟨h,0,none⟩) (s*p) (s*p)]) (bj s p c (i-1)++bx s p x i (k+1))).flatten]) (by
     rw [bx,N,<- QJ,show ∀ (l:List RowQ)(a b:RowQ),l++[a,b]=l++[a]++[b] from fun l a b=>by simp,aH,az];simp [GO];omega) ?_
    refine Ug (m':=p-(k+1)) om_ mup (hn_ [1,2,5,6,19,20] Z) ⟨k+1,_,ak,⟨by omega,by
     rw [bx,N,<- QJ,show ∀ (l:List RowQ)(a b:RowQ),l++[a,b]=l++[a]++[b] from fun l a b=>by simp];exact aG.mono mup⟩,Z,Z,Z⟩
   have hm:x.max=none:=by
    rw [pA] at I;cases aL:x.max with
    | none=>rfl
    | some q=>rw [aL] at I;cases I
   have N:kl s p x i k=[sb s p x i k]:=by unfold kl;rw [hm]
   refine TY fun R d=>Ue _ U7<|C4 1 [1,2,5,6,19,20] d Z<|UO 1 Z<|Um (L':=[.arr A 123 2 (bj s p c (i-1)++bx s p x i (k+1)).length (aS (g++[.slice (some ⟨bz,0,none⟩) (s*p) (s*p)]) (bj s p c (i-1)++bx s p x i (k+1))).flatten]) (by rw [bx,N,<- QJ];rfl)<|Ug (m':=p-(k+1)) om_ mup (hn_ [1,2,5,6,19,20] Z) ⟨k+1,_,A,⟨by omega,by
    rw [bx,N,<- QJ];exact aa.mono mup⟩,Z,Z,Z⟩
  have ad:k=p:=by
   have:¬ k<p:=by simpa using Y
   omega
  have am:bj s p c (i-1)++bx s p x i k=bj s p c i:=by
   obtain ⟨j,rfl⟩:∃ j,i=j+1:=⟨i-1,by omega⟩;rw [ad,R9,bj,Lq L]
  refine TU 1 Z fun R d=>Ue _ U7<|C4 1 [1,2,5,6] d Z<|Um (L':=[.arr o 123 2 (bj s p c (i+1-1)).length (aS g (bj s p c (i+1-1))).flatten]) (by rw [am];rfl)<|Ug (m':=c.length-(i+1)) om_ mup (hn_ [1,2,5,6] Z) ⟨i+1,g,o,⟨by omega,.inl om_,by rw [R9,<- am];exact X⟩,Z,Z,Z⟩
 have ac:i-1=c.length-2:=by
  have:=Qe W;omega
 refine TT 2 [4] Z ?_;rw [ac] at O ⊢;exact G.freezeArr 0 (aS vs (bj s p c (c.length-2))) Z Z (iR _ _) (dv O.1) fun Cg hg aM=>Ub U2<|⟨Z,vs,O.mono mup,aM⟩
theorem jN {l:List (Nat × Rat)}(q:Rat)(h:k ∉ l.map (·.1)):fN (eG l) ((k:Nat):Int) (ah (qtx q))=eG (l++[(k,q)]):=by
 rw [jH (by
  rw [cE];unfold eG;rw [Q1];intro hm;obtain ⟨x,a,b⟩:=Qk.1 hm;have:x.1=k:=by
   have h2:((x.1:Nat):Int)=(k:Int):=b;omega
  exact h (this ▸ Sx (f:=(·.1)) a))]
 simp [eG]
theorem qK (a c:Pt):dD a a c=0/\dD c a a=0/\dD a c a=0:=by
 unfold dD;refine ⟨?_, ?_, ?_⟩ <;> grind
theorem tC {a:List Pt}{b:List Tri}(c:MeshOk a b)(d:t∈b):t.1≠t.2.1/\t.1≠t.2.2/\t.2.1≠t.2.2:=by
 have h:=jK c d;refine ⟨fun e=>h ?_,fun e=>h ?_,fun e=>h ?_⟩
 ·have:cor a t 1=cor a t 0:=by show a.getD t.2.1 _=a.getD t.1 _;rw [e]
  rw [this];exact (qK _ _).1
 ·have:cor a t 2=cor a t 0:=by show a.getD t.2.2 _=a.getD t.1 _;rw [e]
  rw [this];exact (qK _ _).2.2
 have:cor a t 2=cor a t 1:=by show a.getD t.2.2 _=a.getD t.2.1 _;rw [e]
 rw [this];exact (qK _ _).2.1
def atT (t:Tri)(f:Nat->Rat):List (Nat × Rat):=[(t.1,f 0),(t.2.1,f 1),(t.2.2,f 2)]
theorem qH (f:Nat->Rat)(h:t.1≠t.2.1/\t.1≠t.2.2/\t.2.1≠t.2.2):((atT t f).map (·.1)).Nodup:=by
 simp [atT,h.1,h.2.1,h.2.2]
theorem DV (C:Mem)(w:Tabs C)(x:Value)(c:List Pt)(e:List Tri)(p:Pt)(i:Nat)(r:List Nat)(t:Tri)(y:MeshIn C x c e)(k:Good c e)(z:QP 23 p)(A:PtR p)(K:lM c e p=i::r)(g:e[i]?=some t)(L:∀ j,QB 22 (wgt c t p j)) :
  Pur cx.P 192 [x,ptV p] C fun u D=>∃ b,u=.tuple #[.map (some b),.int .i64 (i:Nat),.int .i64 0]/\D b=some (aP keyZ.enc (eG (atT t (wgt c t p)))):=by
 have M:=k.ok;have n:=y;have ad:=(aF.1 g).1;obtain ⟨N,O,Q⟩:=tC M (Qc g);obtain ⟨v1,v2,rfl,h1,h2⟩:=id y.ex;obtain ⟨A2,c2,rfl,S,ae,_⟩:=id h2;have af:maxLen<=9223372036854775807:=by simp [maxLen]
 simp only [al] at h2 n S ⊢;refine Ud func192 54 U3 fun w0=>TY fun R a=>Up U6 fun b2=>Up U6 fun b3=>C4 3 [2,3] a Z<|G.freeze 1 Z fun _ _ o=>G.freeze 0 Z fun _ _ B=>TY fun R a=>TV (bkT o 2) U8<|TV (bkT B 2) U8<|UF (pL _ w.m_ _ c e p n.m_ k z A) U7 (fun ah _ _ T=>?_);obtain ⟨wv,rfl,f⟩:=T;rw [K] at f;obtain ⟨U,V,E,_⟩:=id f;rw [al] at E;subst E;refine C4 5 [2,3,6,7] a Z<|TT 2 [2,3,6,7,18] Z<|TW (fun F=>?_) fun F=>?_
 ·exact absurd F dc_
 refine Ur [0,1,2,3,4,5,6,7,8,9,10,11] [(5,1)] Z kr_ fun R H a=>TV (bkT o 2) U8<|TX U6<|Ul f.m_ U10 om_ (rfl:(List.map aN (i::r))[0]?=some (aN i)) fl_ fun ai W=>TV W U8<|TV (bkT B 2) U8<|UC (fun _=>(E3 _ w.m_ _ c e p i t n.m_ k z A g L)) U9<|Ua 3 Z<|Uo U5 fun X=>Uf (j:=0) U12<|C4 1 [2,6,7,8] a Z<|TT 2 [2,6,7,8,30] Z<|TW (fun I=>?_) fun I=>?_
 ·exact absurd I dc_
 refine G.freeze 0 Z fun _ _ q=>TY fun R a=>D.makeMap keyZ Z Z Z Z fl_ fun d=>C4 1 [2,4,7,8] a Z<|Ur [0,1,2,3,4,5,6,7] [] Z kr_ fun R H a=>TX U6<|TV (bkT o 1) U8<|TX U6<|Ul f.m_ U10 om_ (rfl:(List.map aN (i::r))[0]?=some (aN i)) fl_ fun aj Y=>TV Y U8<|Ul h2.m_ U10 om_ (bX g) fl_ fun ak aa=>TV aa U8<|C4 1 [4,7,8,39,40] a Z<|G.loop (fun fr C' h μ=>∃ (j:Nat),(j<=3)/\fr=[(4,[],.map (some d)),(7,[],.slice U (i::r).length V),(8,[],.pointer (some ⟨X,0,none⟩)),(39,[],.agg ⟨kA t⟩),(40,[],.int .i64 j)]/\h=[.obj d (aP keyZ.enc (eG ((atT t (wgt c t p)).take j)))]/\μ=3-j) (hn_ [4,7,8,39,40] Z) ⟨0,Qf _,Z,Z,Z⟩ (fun fr an ao m s hI=>?_);obtain ⟨j,hj,rfl,rfl,rfl⟩:=hI;refine TT 1 [4,7,8,39,40,41] Z<|TW (fun v=>?_) fun v=>?_
 ·have J:j<3:=by
   simp only [Qj] at v;omega
  rcases (by omega:j=0∨j=1∨j=2) with rfl | rfl | rfl
  ·refine TU 1 Z fun R a=>UX U11 ag U2<|C4 2 [4,7,8,9,10,39,40] a Z<|TU 3 Z fun R a=>Ut (_) U9 ag U2<|TV (bkT q 1) U8<|D.mapUpdate keyZ (j:=0) Z Z Z Z Z Z Z Z Z Z kr_<|TZ [4,7,8,39,40] a Z<|TY fun R a=>Ue _ U7<|C4 1 [4,7,8,39,40] a Z<|Um (L':=[.obj d (aP keyZ.enc (eG ((atT t (wgt c t p)).take 1)))]) (congrArg (fun m=>[Ent.obj d (aP keyZ.enc m)]) (jN (l:=[]) _ am))<|Ug (m':=2) om_ s (hn_ [4,7,8,39,40] Z) ⟨1,by decide,Z,Z,Z⟩
  ·refine TU 1 Z fun R a=>UX U11 ag U2<|C4 2 [4,7,8,9,10,39,40] a Z<|TU 3 Z fun R a=>Ut (_) U9 ag U2<|TV (bkT q 1) U8<|D.mapUpdate keyZ (j:=0) Z Z Z Z Z Z Z Z Z Z kr_<|TZ [4,7,8,39,40] a Z<|TY fun R a=>Ue _ U7<|C4 1 [4,7,8,39,40] a Z<|Um (L':=[.obj d (aP keyZ.enc (eG ((atT t (wgt c t p)).take 2)))]) (congrArg (fun m=>[Ent.obj d (aP keyZ.enc m)]) (jN (l:=[(t.1,wgt c t p 0)]) _ (by simpa using N.symm)))<|Ug (m':=1) om_ s (hn_ [4,7,8,39,40] Z) ⟨2,by decide,Z,Z,Z⟩
  refine TU 1 Z fun R a=>UX U11 ag U2<|C4 2 [4,7,8,9,10,39,40] a Z<|TU 3 Z fun R a=>Ut (_) U9 ag U2<|TV (bkT q 1) U8<|D.mapUpdate keyZ (j:=0) Z Z Z Z Z Z Z Z Z Z kr_<|TZ [4,7,8,39,40] a Z<|TY fun R a=>Ue _ U7<|C4 1 [4,7,8,39,40] a Z<|Um (L':=[.obj d (aP keyZ.enc (eG ((atT t (wgt c t p)).take 3)))]) (congrArg (fun m=>[Ent.obj d (aP keyZ.enc m)]) (jN (l:=[(t.1,wgt c t p 0),(t.2.1,wgt c t p 1)]) _ (by simp [O.symm,Q.symm])))<|Ug (m':=0) om_ s (hn_ [4,7,8,39,40] Z) ⟨3,by decide,Z,Z,Z⟩
 have J:j=3:=by
  simp only [Qz] at v;omega
 subst J;refine G.freeze 0 Z fun Cm ap ab=>Ur [0,1,2,3,4,5,6] [] Z kr_ fun R H a=>Ua 2 Z<|Ul f.m_ U10 om_ (rfl:(List.map aN (i::r))[0]?=some (aN i)) fl_ fun aq ac=>TV ac U8<|C4 3 [4,5,6] a Z<|Ui (G.dropAll (UZ U4 ?_));exact ⟨Z,d,Z,ab⟩
theorem dh (t:Tri)(f:Nat->Rat)(j:Nat)(a:j<3)(h:t.1≠t.2.1/\t.1≠t.2.2/\t.2.1≠t.2.2):fN (eG ((atT t f).take j)) ((mB t j:Nat):Int) (ah (qtx (f j)))=eG ((atT t f).take (j+1)):=by
 rcases (by omega:j=0∨j=1∨j=2) with rfl | rfl | rfl
 ·exact jN (l:=[]) _ am
 ·exact jN (l:=[(t.1,f 0)]) (k:=t.2.1) _ (by simpa using h.1.symm)
 exact jN (l:=[(t.1,f 0),(t.2.1,f 1)]) (k:=t.2.2) _ (by simp [h.2.1.symm,h.2.2.symm])
def nH (n k:Nat):List Rat:=rJ n [(k,1)]
def slf (pts:List Pt)(t:Tri)(j:Nat):Pt:=dN pts (nH pts.length (mB t j)) t
theorem gm (n k:Nat):(nH n k).length=n:=jB n _
theorem zV :∀ q∈nH n k,q=0∨q=1:=by
 intro q a;unfold nH rJ at a;obtain ⟨j,_,rfl⟩:=Qk.1 a;simp only [dm];split
 ·exact .inr Z
 exact .inl Z
theorem jv :∀ q∈nH n k,QB 1 q:=by
 intro q a;rcases zV q a with rfl | rfl
 ·exact QB_zero
 exact QB_one
theorem DO (C:Mem)(J:Tabs C)(N:Value)(a:List Pt)(s:List Tri)(i:Nat)(t:Tri)(O:MeshIn C N a s)(E:Good a s)(l:s[i]?=some t)(K:∀ j,QP 22 (slf a t j)) :
  Pur cx.P 198 [N,.int .i64 i] C fun u D=>∃ Q S,u=.tuple #[.map (some Q),.map (some S),.int .i64 0]/\D Q=some (aP keyZ.enc (eG (atT t fun j=>(slf a t j).1)))/\D S=some (aP keyZ.enc (eG (atT t fun j=>(slf a t j).2))):=by
 have L:=E.ok;have F:=O;have am:=L.lp;have H:=L.ins t (Qc l);obtain ⟨an,ao,ap⟩:=id H;have aq:=(aF.1 l).1;obtain ⟨f,g,h⟩:=tC L (Qc l);obtain ⟨v1,v2,rfl,h1,h2⟩:=id O.ex;obtain ⟨A1,c1,rfl,ar,au,_⟩:=id h1;obtain ⟨A2,c2,rfl,af,av,_⟩:=id h2;have aw:maxLen<=9223372036854775807:=by simp [maxLen]
 simp only [al] at h1 h2 F af ⊢;refine Ud func198 51 U3 fun w0=>TY fun R b=>Up U6 fun I=>C4 3 [1,2] b Z<|G.freeze 0 Z fun _ _ n=>TY fun R b=>D.makeMap keyZ Z Z Z Z fl_ fun c=>D.makeMap keyZ Z Z Z Z fl_ fun d=>C4 2 [1,2,4,5] b Z<|TU 1 Z fun R b=>TV (bkT n 1) U8<|TX U6<|Ul h2.m_ U10 om_ (bX l) fl_ fun ax ai=>TV ai U8<|C4 1 [1,2,4,5,18,19] b Z<|G.perm (L':=[.obj c (aP keyZ.enc (eG [])),.obj d (aP keyZ.enc (eG []))]) (List.Perm.swap _ _ _)<|G.loop (fun fr C' e o=>∃ (j:Nat),(j<=3)/\fr=[(1,[],.int .i64 i),(2,[],.pointer (some ⟨I,0,none⟩)),(4,[],.map (some c)),(5,[],.map (some d)),(18,[],.agg ⟨kA t⟩),(19,[],.int .i64 j)]/\e=[.obj c (aP keyZ.enc (eG ((atT t fun j=>(slf a t j).1).take j))),.obj d (aP keyZ.enc (eG ((atT t fun j=>(slf a t j).2).take j)))]/\o=3-j) (hn_ [1,2,4,5,18,19] Z) ⟨0,Qf _,Z,Z,Z⟩ (fun fr ay az m _ p=>?_);obtain ⟨j,hj,rfl,rfl,rfl⟩:=p;refine TT 1 [1,2,4,5,18,19,20] Z<|TW (fun M=>?_) fun M=>?_
 ·have T:j<3:=by
   simp only [Qj] at M;omega
  rcases (by omega:j=0∨j=1∨j=2) with rfl | rfl | rfl
  ·refine TY fun R b=>UX U11 ag U2<|C4 1 [1,2,4,5,8,18,19] b Z<|Uv [(4,3)] Z fun R b=>Uq [[ah [48]]] U12 fun U V _ v=>TX U6<|TV (bkT n 1) U8<|TX U6<|D.call (mM _ _ a.length [48] v.m_ om_) Z (.inr dc_) U6 (Qh _) fl_ fun W X Y _ w=>C4 1 [1,2,4,5,8,9,18,19] b Z ?_;obtain ⟨bz,rfl,rfl⟩:=w;have x:mB t 0<a.length:=eX H 0;refine Um (L':=[.arr (.slice (some ⟨bz,0,none⟩) a.length a.length) 56 1 a.length (kW a.length []),.obj c (aP keyZ.enc (eG ((atT t fun j=>(slf a t j).1).take 0))),.obj d (aP keyZ.enc (eG ((atT t fun j=>(slf a t j).2).take 0)))]) (by rw [lW];rfl)<|TU 2 Z fun R b=>UA ((mB t 0)) U10 (fun _=>⟨by omega,by omega,(Sd _).symm⟩) U2<|UD (j:=0) U11 (by rw [lX];simp;omega)<|TZ [1,2,4,5,8,9,18,19] b Z<|Um (L':=[.arr (.slice (some ⟨bz,0,none⟩) a.length a.length) 56 1 a.length (kW a.length [(mB t 0,1)]),.obj c (aP keyZ.enc (eG ((atT t fun j=>(slf a t j).1).take 0))),.obj d (aP keyZ.enc (eG ((atT t fun j=>(slf a t j).2).take 0)))]) (by rw [<- fu [] 1 x,dx];rfl)<|G.freezeArr 0 ((nH a.length (mB t 0)).map fe) rfl (jk _ _) (by intro r hr;obtain ⟨y,_,rfl⟩:=Qk.1 hr;rfl) (by rw [al,gm]) fun Cz hz z=>TY fun R b=>TV (bkT n 2) U8<|Ua 2 Z<|Uk (tF _ J.m_ _ _ a s (nH a.length (mB t 0)) 1 dc_ dc_ F.m_ E z.m_ (gm _ _) jv (fun q A=>bO ((jv q A).le dc_)) i t l (K 0)) U7 fl_<|Ua 3 Z<|Uo U5 fun aa=>Uf (j:=0) U12<|C4 1 [1,2,4,5,8,10,11,18,19] b Z<|TT 2 [1,2,4,5,8,10,11,18,19,38] Z<|TW (fun ab=>?_) fun ab=>?_
   ·exact absurd ab dc_
   refine G.freeze 0 Z fun ac _ k=>G.cut (fun fr C' e o=>(True)/\fr=[(1,[],.int .i64 i),(2,[],.pointer (some ⟨I,0,none⟩)),(4,[],.map (some c)),(5,[],.map (some d)),(18,[],.agg ⟨kA t⟩),(19,[],.int .i64 ((0:Nat):Int))]/\e=[.obj c (aP keyZ.enc (eG ((atT t fun j=>(slf a t j).1).take (0+1)))),.obj d (aP keyZ.enc (eG ((atT t fun j=>(slf a t j).2).take (0+1))))]) ?_ (fun fr aA aB o aC p=>?_)
   ·refine UP (.cut [0,1,2,3,4,5,6] (.alt 7 (.fin [8,9]) (.alt 8 (.fin [7,9]) .stop))) [] Z Z kr_ fun R hB b B=>Ua 5 Z<|TV (bkT k 1) U8<|TX U6<|UE B Z ⟨?_, ?_,trivial⟩
    ·refine TV (bkT k 1) U8 ?_
     first | refine D.mapUpdate keyZ (j:=0) rfl rfl rfl rfl rfl rfl rfl rfl rfl rfl kr_ ?_ | refine D.mapUpdate keyZ (j:=1) rfl rfl rfl rfl rfl rfl rfl rfl rfl rfl kr_ ?_
     first | refine D.mapUpdate keyZ (j:=1) rfl rfl rfl rfl rfl rfl rfl rfl rfl rfl kr_ ?_ | refine D.mapUpdate keyZ (j:=0) rfl rfl rfl rfl rfl rfl rfl rfl rfl rfl kr_ ?_
     refine TZ [1,2,4,5,18,19] b Z<|G.perm (L':=[.obj c (aP keyZ.enc (eG ((atT t fun j=>(slf a t j).1).take (0+1)))),.obj d (aP keyZ.enc (eG ((atT t fun j=>(slf a t j).2).take (0+1))))]) (by
      rw [<- dh t (fun j=>(slf a t j).1) 0 dc_ ⟨f,g,h⟩,<- dh t (fun j=>(slf a t j).2) 0 dc_ ⟨f,g,h⟩]
      first | exact Qh _ | exact List.Perm.swap _ _ _) ?_
     exact Uj 0 (Mem.le.refl _) (hn_ [1,2,4,5,18,19] Z) ⟨trivial,Z,Z⟩
    first | refine D.mapUpdate keyZ (j:=0) rfl rfl rfl rfl rfl rfl rfl rfl rfl rfl kr_ ?_ | refine D.mapUpdate keyZ (j:=1) rfl rfl rfl rfl rfl rfl rfl rfl rfl rfl kr_ ?_
    refine TV (bkT k 1) U8 ?_
    first | refine D.mapUpdate keyZ (j:=1) rfl rfl rfl rfl rfl rfl rfl rfl rfl rfl kr_ ?_ | refine D.mapUpdate keyZ (j:=0) rfl rfl rfl rfl rfl rfl rfl rfl rfl rfl kr_ ?_
    refine TZ [1,2,4,5,18,19] b Z<|G.perm (L':=[.obj c (aP keyZ.enc (eG ((atT t fun j=>(slf a t j).1).take (0+1)))),.obj d (aP keyZ.enc (eG ((atT t fun j=>(slf a t j).2).take (0+1))))]) (by
     rw [<- dh t (fun j=>(slf a t j).1) 0 dc_ ⟨f,g,h⟩,<- dh t (fun j=>(slf a t j).2) 0 dc_ ⟨f,g,h⟩]
     first | exact Qh _ | exact List.Perm.swap _ _ _) ?_
    exact Uj 0 (Mem.le.refl _) (hn_ [1,2,4,5,18,19] Z) ⟨trivial,Z,Z⟩
   obtain ⟨_,rfl,rfl⟩:=p;refine TY fun R b=>Ue _ U7<|C4 1 [1,2,4,5,18,19] b Z<|Ug (m':=2) om_ mup (hn_ [1,2,4,5,18,19] Z) ⟨1,by decide,Z,Z,Z⟩
  ·refine TY fun R b=>UX U11 ag U2<|C4 1 [1,2,4,5,8,18,19] b Z<|Uv [(4,3)] Z fun R b=>Uq [[ah [48]]] U12 fun U V _ v=>TX U6<|TV (bkT n 1) U8<|TX U6<|D.call (mM _ _ a.length [48] v.m_ om_) Z (.inr dc_) U6 (Qh _) fl_ fun W X Y _ w=>C4 1 [1,2,4,5,8,9,18,19] b Z ?_;obtain ⟨bz,rfl,rfl⟩:=w;have x:mB t 1<a.length:=eX H 1;refine Um (L':=[.arr (.slice (some ⟨bz,0,none⟩) a.length a.length) 56 1 a.length (kW a.length []),.obj c (aP keyZ.enc (eG ((atT t fun j=>(slf a t j).1).take 1))),.obj d (aP keyZ.enc (eG ((atT t fun j=>(slf a t j).2).take 1)))]) (by rw [lW];rfl)<|TU 2 Z fun R b=>UA ((mB t 1)) U10 (fun _=>⟨by omega,by omega,(Sd _).symm⟩) U2<|UD (j:=0) U11 (by rw [lX];simp;omega)<|TZ [1,2,4,5,8,9,18,19] b Z<|Um (L':=[.arr (.slice (some ⟨bz,0,none⟩) a.length a.length) 56 1 a.length (kW a.length [(mB t 1,1)]),.obj c (aP keyZ.enc (eG ((atT t fun j=>(slf a t j).1).take 1))),.obj d (aP keyZ.enc (eG ((atT t fun j=>(slf a t j).2).take 1)))]) (by rw [<- fu [] 1 x,dx];rfl)<|G.freezeArr 0 ((nH a.length (mB t 1)).map fe) rfl (jk _ _) (by intro r hr;obtain ⟨y,_,rfl⟩:=Qk.1 hr;rfl) (by rw [al,gm]) fun Cz hz z=>TY fun R b=>TV (bkT n 2) U8<|Ua 2 Z<|Uk (tF _ J.m_ _ _ a s (nH a.length (mB t 1)) 1 dc_ dc_ F.m_ E z.m_ (gm _ _) jv (fun q A=>bO ((jv q A).le dc_)) i t l (K 1)) U7 fl_<|Ua 3 Z<|Uo U5 fun aa=>Uf (j:=0) U12<|C4 1 [1,2,4,5,8,10,11,18,19] b Z<|TT 2 [1,2,4,5,8,10,11,18,19,38] Z<|TW (fun ad=>?_) fun ad=>?_
   ·exact absurd ad dc_
   refine G.freeze 0 Z fun ac _ k=>G.cut (fun fr C' e o=>(True)/\fr=[(1,[],.int .i64 i),(2,[],.pointer (some ⟨I,0,none⟩)),(4,[],.map (some c)),(5,[],.map (some d)),(18,[],.agg ⟨kA t⟩),(19,[],.int .i64 ((1:Nat):Int))]/\e=[.obj c (aP keyZ.enc (eG ((atT t fun j=>(slf a t j).1).take (1+1)))),.obj d (aP keyZ.enc (eG ((atT t fun j=>(slf a t j).2).take (1+1))))]) ?_ (fun fr aD aE o aG p=>?_)
   ·refine UP (.cut [0,1,2,3,4,5,6] (.alt 7 (.fin [8,9]) (.alt 8 (.fin [7,9]) .stop))) [] Z Z kr_ fun R hB b B=>Ua 5 Z<|TV (bkT k 1) U8<|TX U6<|UE B Z ⟨?_, ?_,trivial⟩
    ·refine TV (bkT k 1) U8 ?_
     first | refine D.mapUpdate keyZ (j:=0) rfl rfl rfl rfl rfl rfl rfl rfl rfl rfl kr_ ?_ | refine D.mapUpdate keyZ (j:=1) rfl rfl rfl rfl rfl rfl rfl rfl rfl rfl kr_ ?_
     first | refine D.mapUpdate keyZ (j:=1) rfl rfl rfl rfl rfl rfl rfl rfl rfl rfl kr_ ?_ | refine D.mapUpdate keyZ (j:=0) rfl rfl rfl rfl rfl rfl rfl rfl rfl rfl kr_ ?_
     refine TZ [1,2,4,5,18,19] b Z<|G.perm (L':=[.obj c (aP keyZ.enc (eG ((atT t fun j=>(slf a t j).1).take (1+1)))),.obj d (aP keyZ.enc (eG ((atT t fun j=>(slf a t j).2).take (1+1))))]) (by
      rw [<- dh t (fun j=>(slf a t j).1) 1 dc_ ⟨f,g,h⟩,<- dh t (fun j=>(slf a t j).2) 1 dc_ ⟨f,g,h⟩]
      first | exact Qh _ | exact List.Perm.swap _ _ _) ?_
     exact Uj 0 (Mem.le.refl _) (hn_ [1,2,4,5,18,19] Z) ⟨trivial,Z,Z⟩
    first | refine D.mapUpdate keyZ (j:=0) rfl rfl rfl rfl rfl rfl rfl rfl rfl rfl kr_ ?_ | refine D.mapUpdate keyZ (j:=1) rfl rfl rfl rfl rfl rfl rfl rfl rfl rfl kr_ ?_
    refine TV (bkT k 1) U8 ?_
    first | refine D.mapUpdate keyZ (j:=1) rfl rfl rfl rfl rfl rfl rfl rfl rfl rfl kr_ ?_ | refine D.mapUpdate keyZ (j:=0) rfl rfl rfl rfl rfl rfl rfl rfl rfl rfl kr_ ?_
    refine TZ [1,2,4,5,18,19] b Z<|G.perm (L':=[.obj c (aP keyZ.enc (eG ((atT t fun j=>(slf a t j).1).take (1+1)))),.obj d (aP keyZ.enc (eG ((atT t fun j=>(slf a t j).2).take (1+1))))]) (by
     rw [<- dh t (fun j=>(slf a t j).1) 1 dc_ ⟨f,g,h⟩,<- dh t (fun j=>(slf a t j).2) 1 dc_ ⟨f,g,h⟩]
     first | exact Qh _ | exact List.Perm.swap _ _ _) ?_
    exact Uj 0 (Mem.le.refl _) (hn_ [1,2,4,5,18,19] Z) ⟨trivial,Z,Z⟩
   obtain ⟨_,rfl,rfl⟩:=p;refine TY fun R b=>Ue _ U7<|C4 1 [1,2,4,5,18,19] b Z<|Ug (m':=1) om_ mup (hn_ [1,2,4,5,18,19] Z) ⟨2,by decide,Z,Z,Z⟩
  refine TY fun R b=>UX U11 ag U2<|C4 1 [1,2,4,5,8,18,19] b Z<|Uv [(4,3)] Z fun R b=>Uq [[ah [48]]] U12 fun U V _ v=>TX U6<|TV (bkT n 1) U8<|TX U6<|D.call (mM _ _ a.length [48] v.m_ om_) Z (.inr dc_) U6 (Qh _) fl_ fun W X Y _ w=>C4 1 [1,2,4,5,8,9,18,19] b Z ?_;obtain ⟨bz,rfl,rfl⟩:=w;have x:mB t 2<a.length:=eX H 2;refine Um (L':=[.arr (.slice (some ⟨bz,0,none⟩) a.length a.length) 56 1 a.length (kW a.length []),.obj c (aP keyZ.enc (eG ((atT t fun j=>(slf a t j).1).take 2))),.obj d (aP keyZ.enc (eG ((atT t fun j=>(slf a t j).2).take 2)))]) (by rw [lW];rfl)<|TU 2 Z fun R b=>UA ((mB t 2)) U10 (fun _=>⟨by omega,by omega,(Sd _).symm⟩) U2<|UD (j:=0) U11 (by rw [lX];simp;omega)<|TZ [1,2,4,5,8,9,18,19] b Z<|Um (L':=[.arr (.slice (some ⟨bz,0,none⟩) a.length a.length) 56 1 a.length (kW a.length [(mB t 2,1)]),.obj c (aP keyZ.enc (eG ((atT t fun j=>(slf a t j).1).take 2))),.obj d (aP keyZ.enc (eG ((atT t fun j=>(slf a t j).2).take 2)))]) (by rw [<- fu [] 1 x,dx];rfl)<|G.freezeArr 0 ((nH a.length (mB t 2)).map fe) rfl (jk _ _) (by intro r hr;obtain ⟨y,_,rfl⟩:=Qk.1 hr;rfl) (by rw [al,gm]) fun Cz hz z=>TY fun R b=>TV (bkT n 2) U8<|Ua 2 Z<|Uk (tF _ J.m_ _ _ a s (nH a.length (mB t 2)) 1 dc_ dc_ F.m_ E z.m_ (gm _ _) jv (fun q A=>bO ((jv q A).le dc_)) i t l (K 2)) U7 fl_<|Ua 3 Z<|Uo U5 fun aa=>Uf (j:=0) U12<|C4 1 [1,2,4,5,8,10,11,18,19] b Z<|TT 2 [1,2,4,5,8,10,11,18,19,38] Z<|TW (fun ae=>?_) fun ae=>?_
  ·exact absurd ae dc_
  refine G.freeze 0 Z fun ac _ k=>G.cut (fun fr C' e o=>(True)/\fr=[(1,[],.int .i64 i),(2,[],.pointer (some ⟨I,0,none⟩)),(4,[],.map (some c)),(5,[],.map (some d)),(18,[],.agg ⟨kA t⟩),(19,[],.int .i64 ((2:Nat):Int))]/\e=[.obj c (aP keyZ.enc (eG ((atT t fun j=>(slf a t j).1).take (2+1)))),.obj d (aP keyZ.enc (eG ((atT t fun j=>(slf a t j).2).take (2+1))))]) ?_ (fun fr aH aI o aJ p=>?_)
  ·refine UP (.cut [0,1,2,3,4,5,6] (.alt 7 (.fin [8,9]) (.alt 8 (.fin [7,9]) .stop))) [] Z Z kr_ fun R hB b B=>Ua 5 Z<|TV (bkT k 1) U8<|TX U6<|UE B Z ⟨?_, ?_,trivial⟩
   ·refine TV (bkT k 1) U8 ?_
    first | refine D.mapUpdate keyZ (j:=0) rfl rfl rfl rfl rfl rfl rfl rfl rfl rfl kr_ ?_ | refine D.mapUpdate keyZ (j:=1) rfl rfl rfl rfl rfl rfl rfl rfl rfl rfl kr_ ?_
    first | refine D.mapUpdate keyZ (j:=1) rfl rfl rfl rfl rfl rfl rfl rfl rfl rfl kr_ ?_ | refine D.mapUpdate keyZ (j:=0) rfl rfl rfl rfl rfl rfl rfl rfl rfl rfl kr_ ?_
    refine TZ [1,2,4,5,18,19] b Z<|G.perm (L':=[.obj c (aP keyZ.enc (eG ((atT t fun j=>(slf a t j).1).take (2+1)))),.obj d (aP keyZ.enc (eG ((atT t fun j=>(slf a t j).2).take (2+1))))]) (by
     rw [<- dh t (fun j=>(slf a t j).1) 2 dc_ ⟨f,g,h⟩,<- dh t (fun j=>(slf a t j).2) 2 dc_ ⟨f,g,h⟩]
     first | exact Qh _ | exact List.Perm.swap _ _ _) ?_
    exact Uj 0 (Mem.le.refl _) (hn_ [1,2,4,5,18,19] Z) ⟨trivial,Z,Z⟩
   first | refine D.mapUpdate keyZ (j:=0) rfl rfl rfl rfl rfl rfl rfl rfl rfl rfl kr_ ?_ | refine D.mapUpdate keyZ (j:=1) rfl rfl rfl rfl rfl rfl rfl rfl rfl rfl kr_ ?_
   refine TV (bkT k 1) U8 ?_
   first | refine D.mapUpdate keyZ (j:=1) rfl rfl rfl rfl rfl rfl rfl rfl rfl rfl kr_ ?_ | refine D.mapUpdate keyZ (j:=0) rfl rfl rfl rfl rfl rfl rfl rfl rfl rfl kr_ ?_
   refine TZ [1,2,4,5,18,19] b Z<|G.perm (L':=[.obj c (aP keyZ.enc (eG ((atT t fun j=>(slf a t j).1).take (2+1)))),.obj d (aP keyZ.enc (eG ((atT t fun j=>(slf a t j).2).take (2+1))))]) (by
    rw [<- dh t (fun j=>(slf a t j).1) 2 dc_ ⟨f,g,h⟩,<- dh t (fun j=>(slf a t j).2) 2 dc_ ⟨f,g,h⟩]
    first | exact Qh _ | exact List.Perm.swap _ _ _) ?_
   exact Uj 0 (Mem.le.refl _) (hn_ [1,2,4,5,18,19] Z) ⟨trivial,Z,Z⟩
  obtain ⟨_,rfl,rfl⟩:=p;refine TY fun R b=>Ue _ U7<|C4 1 [1,2,4,5,18,19] b Z<|Ug (m':=0) om_ mup (hn_ [1,2,4,5,18,19] Z) ⟨3,by decide,Z,Z,Z⟩
 have T:j=3:=by
  simp only [Qz] at M;omega
 subst T;refine G.freeze 0 Z fun Cm aK aj=>G.freeze 0 Z fun Cn aL ak=>TT 5 [4,5,6] Z<|Ui (G.dropAll (UZ U4 ?_));exact ⟨Z,c,d,Z,Mem.get aj mup,ak⟩
end Go.Proofs.YthnpijdjlddpmaaGreatDoor
