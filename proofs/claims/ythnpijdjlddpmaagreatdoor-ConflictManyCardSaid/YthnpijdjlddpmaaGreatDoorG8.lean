/- Laws that the proofs of this seat share, part 8. -/
import Derived.Test.YthnpijdjlddpmaaGreatDoorG7
import Derived.Test.YthnpijdjlddpmaaGreatDoorShelf
set_option maxHeartbeats 4000000
namespace Go.Proofs.YthnpijdjlddpmaaGreatDoor
open Tryz
open Go Go.Jog
set_option maxRecDepth 100000
variable {C:Mem}{a b:Nat}{bv:Value}{i k n:Nat}{t:Tri}{v:Value}{vs:List Value}{z:Int}
structure Obs where
 kind:Int
 name:Str
 x:Str
 y:Str
 depth:Str
 upper:Str
 lower:Str
 nx:Str
 ny:Str
 nz:Str
def mE (o:Obs):List Value:=[.int .i64 o.kind,al o.name,al o.x,al o.y,al o.depth,al o.upper,al o.lower,al o.nx,al o.ny,al o.nz]
structure ObsR (o:Obs):Prop where
 name:o.name.length<=999998
 x:o.x.length<=999998
 y:o.y.length<=999998
 depth:o.depth.length<=999998
 upper:o.upper.length<=999998
 lower:o.lower.length<=999998
 nx:o.nx.length<=999998
 ny:o.ny.length<=999998
 nz:o.nz.length<=999998
def rU (o:Obs):Bool:=(!fa o.name || !fa o.upper) || ((!(o.kind == 1)) && !fa o.lower)
def pU (o:Obs):Bool:=(!(bd o.x && bd o.y) || ((o.kind == 2) && !bd o.depth)) || ((o.kind == 3) && !(bd o.nx && bd o.ny && bd o.nz))
def sk (o:Obs):Bool:=(((o.kind == 1) && !(o.lower == [])) || ((!(o.kind == 2)) && !(o.depth == []))) || ((!(o.kind == 3)) && !(decide (o.nx=[]/\o.ny=[]/\o.nz=[])))
def el (o:Obs):Int:=if o.kind<1∨3<o.kind then 12 else if rU o then 8 else if pU o then 2 else if sk o then 7 else 0
theorem nil3 (a b c:Str):(!((a == []) && ((b == []) && ((c == []) && true))))=!decide (a=[]/\b=[]/\c=[]):=by
 cases a <;> cases b <;> cases c <;> rfl
theorem Eg (b:Bool):(oW b != 0)=!b:=by cases b <;> rfl
theorem Fi (C:Mem)(h:Tabs C)(o:Obs)(b:ObsR o):Gives cx.P 108 [.agg ⟨mE o⟩] C (.int .i64 (el o)):=by
 have h1:=b.name;have h2:=b.upper;have h3:=b.lower;refine Ph func108 87 U3 fun w0=>Pb fun R c=>Pr U6 fun m=>C4 1 [1] c Z<|G.freeze 0 Z fun _ _ a=>O7 1 Z fun R c=>O8 (bkT a 1) U8<|Pc 3 Z<|PC U6 (fun _=>PtrTo.blockT (Mem.get a mup) _ 1) U3<|Pa U6<|PD U8<|Pd [1,10] c Z<|O9 (fun i=>?_) fun i=>?_
 ·have d:o.kind<1∨3<o.kind:=by simpa using i
  exact C6 1 [2] Z<|Pf U2<|⟨by unfold el;rw [aI d],Z⟩
 ·have d:¬ (o.kind<1∨3<o.kind):=by simpa using i
  refine O7 1 Z fun R c=>O8 (bkT a 1) U8<|Pp (gx _ o.name om_) U7 fl_<|Pc 3 Z<|PC U6 (fun _=>PtrTo.blockT (Mem.get a mup) _ 1) U3<|Pw (fun _=>(gx _ o.upper om_)) U9<|Pa U6<|PD U8<|Pc 2 Z<|PC U6 (fun _=>PtrTo.blockT (Mem.get a mup) _ 1) U3<|Pc 3 Z<|PC U6 (fun _=>PtrTo.blockT (Mem.get a mup) _ 1) U3<|Pw (fun _=>(gx _ o.lower om_)) U9<|Pa U6<|Pz U8<|PD U8<|Pd [1,31] c Z<|O9 (fun j=>?_) fun j=>?_
  ·have e:rU o=true:=j;exact C6 1 [2] Z<|Pf U2<|⟨by unfold el;rw [aC d,aI e],Z⟩
  ·have e:¬ rU o=true:=by rw [show rU o=false from j];decide
   refine O7 1 Z fun R c=>O8 (bkT a 2) U8<|Pn (gM _ h.m_ o.x o.y b.x b.y) U7<|Pc 3 Z<|PC U6 (fun _=>PtrTo.blockT (Mem.get a mup) _ 1) U3<|Pc 3 Z<|PC U6 (fun _=>PtrTo.blockT (Mem.get a mup) _ 1) U3<|PH (fun _=>(dq _ h.m_ o.depth b.depth)) U9<|Pa U6<|Pz U8<|PD U8<|Pc 2 Z<|PC U6 (fun _=>PtrTo.blockT (Mem.get a mup) _ 1) U3<|Pc 3 Z<|PC U6 (fun _=>PtrTo.blockT (Mem.get a mup) _ 3) U3<|PH (fun _=>(pm _ h.m_ o.nx o.ny o.nz b.nx b.ny b.nz)) U9<|Pa U6<|Pz U8<|PD U8<|Pd [1,57] c Z<|O9 (fun f=>?_) fun f=>?_
   ·have g:pU o=true:=by
     simp only [Eg] at f;exact f
    exact C6 1 [2] Z<|Pf U2<|⟨by unfold el;rw [aC d,aC e,aI g],Z⟩
   ·have g:¬ pU o=true:=by
     simp only [Eg] at f;rw [show pU o=false from f];decide
    refine O7 1 Z fun R c=>O8 (bkT a 1) U8<|Pc 3 Z<|PC U6 (fun _=>PtrTo.blockT (Mem.get a mup) _ 1) U3<|Pa U6<|Pz U8<|Pc 2 Z<|PC U6 (fun _=>PtrTo.blockT (Mem.get a mup) _ 1) U3<|Pc 3 Z<|PC U6 (fun _=>PtrTo.blockT (Mem.get a mup) _ 1) U3<|Pa U6<|Pz U8<|PD U8<|Pc 2 Z<|PC U6 (fun _=>PtrTo.blockT (Mem.get a mup) _ 1) U3<|Pc 3 Z<|PC U6 (fun _=>PtrTo.blockT (Mem.get a mup) _ 3) U3<|PB [al [],al [],al []] U8<|Rn (!decide (o.nx=[]/\o.ny=[]/\o.nz=[])) kr_ Z Z Z Z Z Z Z Z (fun _=>(nil3 o.nx o.ny o.nz)) Z Z<|Pz U8<|PD U8<|Pd [86] c Z<|O9 (fun k=>?_) fun k=>?_
    ·have l:sk o=true:=k;exact C6 1 [2] Z<|Pf U2<|⟨by unfold el;rw [aC d,aC e,aC g,aI l],Z⟩
    ·have l:¬ sk o=true:=by rw [show sk o=false from k];decide
     exact C6 1 [2] Z<|Pf U2<|⟨by unfold el;rw [aC d,aC e,aC g,aC l],Z⟩
noncomputable def dh (s:Str):Rat:=if h:bd s=true then (Hf h).choose else 0
theorem df {s:Str}(h:bd s=true):s=qtx (dh s)/\QB 23 (dh s):=by
 unfold dh;rw [dif_pos h];exact (Hf h).choose_spec
theorem nF {q:Rat}(h:bd (qtx q)=true):dh (qtx q)=q:=(lH (df h).1).symm
noncomputable def ptO (o:Obs):Pt:=(dh o.x,dh o.y)
noncomputable def GF (pts:List Pt)(tris:List Tri)(o:Obs):Bool:=decide (rY pts tris (ptO o)≠[])
def JJ (col:List Lay)(o:Obs):Bool:=decide (ju (isU o.upper) col 0<0) || ((!(o.kind == 1)) && decide (ju (isU o.lower) col 0<0))
def Kg (col:List Lay)(o:Obs):Bool:=(!(o.kind == 1)) && decide (ju (isU o.upper) col 0<=ju (isU o.lower) col 0)
noncomputable def Jd (o:Obs):Bool:=(o.kind == 2) && decide (dh o.depth<0)
def JB (o:Obs):Bool:=(o.kind == 3) && decide (o.nz=[48])
noncomputable def fE (pts:List Pt)(tris:List Tri)(col:List Lay)(o:Obs):Int :=
 if el o≠0 then el o else if GF pts tris o=false then 28 else if JJ col o then 10 else if Kg col o then 6 else if Jd o then 3 else if JB o then 17 else 0
theorem pF {o:Obs}(h:el o=0):bd o.x=true/\bd o.y=true/\(o.kind=2->bd o.depth=true):=by
 unfold el at h;split at h
 ·cases h
 split at h
 ·cases h
 split at h
 ·cases h
 rename_i b;have a:pU o=false:=by simpa using b
 unfold pU at a;rw [Nb,Nb] at a;obtain ⟨⟨h1,h2⟩,_⟩:=a;have h3:(bd o.x && bd o.y)=true:=by simpa using h1
 rw [L3] at h3;refine ⟨h3.1,h3.2,fun c=>?_⟩;rw [c] at h2;simpa using h2
theorem J9 {o:Obs}(h:el o=0):ptV (ptO o)=.agg ⟨[al o.x,al o.y]⟩/\QP 23 (ptO o)/\PtR (ptO o):=by
 obtain ⟨h1,h2,_⟩:=pF h;obtain ⟨a,c⟩:=df h1;obtain ⟨b,d⟩:=df h2;refine ⟨?_,⟨c,d⟩, ?_, ?_⟩
 ·unfold ptV hU ptO;rw [<- a,<- b]
 ·unfold ptO;rw [<- a];exact h1
 ·unfold ptO;rw [<- b];exact h2
theorem oq {k:Int}(h:(k == z)=true):k=z:=by simpa using h
theorem Fc (C:Mem)(s:Str)(h:bd s=true)(a:s.length<=999998):Gives cx.P 58 [al s] C (.int .i64 (dX (dh s).num)):=by
 have e:=(df h).1;have h2:=fu C (dh s) (by have:=a;exact Md (bE (df h).2 dc_) dc_)
 rwa [<- e] at h2
theorem ID (C:Mem)(u:Tabs C)(v w:Value)(d:List Pt)(f:List Tri)(b:List Lay)(o:Obs)(x:MeshIn C v d f)(A:Good d f)(y:Sl C 3 w (b.map Ah))(z:ObsR o) :
  Gives cx.P 69 [v,w,.agg ⟨mE o⟩] C (.int .i64 (fE d f b o)):=by
 have B:=x;obtain ⟨L,M,rfl,h1,h2⟩:=id x.ex;refine Ph func69 79 U3 fun w0=>Pb fun R a=>Pr U6 fun N=>Pr U6 fun O=>C4 1 [1,3,5] a Z<|G.freeze 1 Z fun _ _ D=>G.freeze 0 Z fun E _ c=>Pb fun R a=>O8 (bkT c 10) U8<|Pn (Fi _ u.m_ o z) U7<|C4 1 [1,3,5,7] a Z<|C6 2 [1,3,5,7,15] Z<|O9 (fun m=>?_) fun m=>?_
 ·have hs:el o≠0:=by
   intro e;rw [e] at m;exact absurd m dc_
  exact C6 2 [6] Z<|Pf U2<|⟨by unfold fE;rw [aI hs],Z⟩
 ·have hs:el o=0:=by simpa using m
  have i:¬ el o≠0:=fun h=>h hs;obtain ⟨F,H,I⟩:=J9 hs;have J:=(pF hs).2.2;refine Pb fun R a=>O8 (PtrTo.block (Mem.get D mup) _) U8<|Pa U6<|O8 (bkT c 2) U8<|Pp (by have h:=wj E u.m_ _ d f (ptO o) B.m_ A H I;rw [F] at h;exact h) U7 fl_<|C4 5 [1,5,8,9] a Z<|O7 5 Z fun R a=>PD U8<|Pd [1,5,29] a Z<|O9 (fun p=>?_) fun p=>?_
  ·have g:GF d f o=false:=by
    have h:(!GF d f o)=true:=p;simpa using h
   exact C6 1 [6] Z<|Pf U2<|⟨by unfold fE;rw [aC i,aI g],Z⟩
  ·have g:¬ GF d f o=false:=by
    have h:(!GF d f o)=false:=p;have h2:GF d f o=true:=by simpa using h
    rw [h2];decide
   refine Pv [0,1,2,3,4,5,6,7,8,9] [(3,1),(7,1)] Z kr_ fun R Q a=>Pc 2 Z<|O8 (bkT c 1) U8<|PH (fun _=>(je _ _ b o.upper y.m_)) U9<|Pc 2 Z<|O8 (bkT c 1) U8<|PH (fun _=>(je _ _ b o.lower y.m_)) U9<|C4 2 [5,10,11] a Z<|O7 4 Z fun R a=>PC U6 (fun _=>PtrTo.blockT (Mem.get c mup) _ 1) U3<|Pc 4 Z<|Pz U8<|PD U8<|C4 1 [5,10,11,38] a Z<|O9 (fun q=>?_) fun q=>?_
   ·have j:JJ b o=true:=q;exact C6 1 [6] Z<|Pf U2<|⟨by unfold fE;rw [aC i,aC g,aI j],Z⟩
   ·have j:¬ JJ b o=true:=by rw [show JJ b o=false from q];decide
    refine O7 1 Z fun R a=>O8 (bkT c 1) U8<|Pc 5 Z<|Pz U8<|C4 1 [5,50] a Z<|O9 (fun r=>?_) fun r=>?_
    ·have k:Kg b o=true:=r;exact C6 1 [6] Z<|Pf U2<|⟨by unfold fE;rw [aC i,aC g,aC j,aI k],Z⟩
    ·have k:¬ Kg b o=true:=by rw [show Kg b o=false from r];decide
     refine O7 1 Z fun R a=>O8 (bkT c 1) U8<|Pc 3 Z<|PC U6 (fun _=>PtrTo.blockT (Mem.get c mup) _ 1) U3<|Pw (fun K=>(Fc _ o.depth (J (by exact oq K.1)) z.depth)) U9<|Pa U6<|Pz U8<|C4 1 [5,59] a Z<|O9 (fun l=>?_) fun l=>?_
     ·have n:Jd o=true:=by
       rw [rT] at l;exact l
      exact C6 1 [6] Z<|Pf U2<|⟨by unfold fE;rw [aC i,aC g,aC j,aC k,aI n],Z⟩
     ·have n:¬ Jd o=true:=by
       rw [rT] at l;rw [show Jd o=false from l];decide
      refine O7 1 Z fun R a=>O8 (bkT c 1) U8<|Pc 4 Z<|PC U6 (fun _=>PtrTo.blockT (Mem.get c mup) _ 1) U3<|Pa U6<|Pz U8<|C4 1 [69] a Z<|O9 (fun s=>?_) fun s=>?_
      ·have t:JB o=true:=by
        unfold JB;rw [<- E4];exact s
       exact C6 1 [6] Z<|Pf U2<|⟨by unfold fE;rw [aC i,aC g,aC j,aC k,aC n,aI t],Z⟩
      ·have t:¬ JB o=true:=by
        unfold JB;rw [<- E4];intro h;rw [show ((o.kind == 3) && ((⟨o.nz.toArray⟩:ByteArray).data.toList == (⟨([48]:Str).toArray⟩:ByteArray).data.toList))=false from s] at h;cases h
       exact C6 1 [6] Z<|Pf U2<|⟨by unfold fE;rw [aC i,aC g,aC j,aC k,aC n,aC t],Z⟩
structure Bk where
 pts:List Pt
 tris:List Tri
 terr:List Str
 col:List Lay
 obs:List Obs
structure BookIn (C:Mem)(bv:Value)(B:Bk):Prop where
 ex:∃ v1 v2 tv cv ov,bv=.agg ⟨[v1,v2,tv,cv,ov]⟩/\Sl C 2 v1 (B.pts.map hU)/\Sl C 3 v2 (B.tris.map jI)/\Sl C 1 tv (B.terr.map lW)/\Sl C 3 cv (B.col.map Ah)/\Sl C 10 ov (B.obs.map mE)
theorem BookIn.mono {C D:Mem}{b:Value}{B:Bk}(h:BookIn C b B)(a:C.le D):BookIn D b B:=by
 obtain ⟨c,d,e,f,g,h1,h2,h3,h4,h5,i⟩:=h.ex;exact ⟨c,d,e,f,g,h1,h2.mono a,h3.mono a,h4.mono a,h5.mono a,i.mono a⟩
theorem BookIn.m_ {D:Mem}{B:Bk}(h:BookIn C bv B)(a:C.le D:=by exact mup):BookIn D bv B:=BookIn.mono h a
structure BookR (B:Bk):Prop where
 terr:∀ s∈B.terr,s.length<=999998
 col:∀ x∈B.col,KR x
 lcol:B.col.length<=1000000
 obs:∀ o∈B.obs,ObsR o
noncomputable def obZ (B:Bk)(pre:List Obs)(o:Obs):Int:=if fE B.pts B.tris B.col o≠0 then fE B.pts B.tris B.col o else if o.name∈pre.map Obs.name then 9 else 0
def zH:Obs:=⟨0,[],[],[],[],[],[],[],[],[]⟩
noncomputable def mi (B:Bk):Nat->Int
 | 0=>0
 | n+1=>if mi B n≠0 then mi B n else obZ B (B.obs.take n) (B.obs.getD n zH)
noncomputable def gN (B:Bk):Int:=if zW B.pts.length B.terr≠0 then zW B.pts.length B.terr else if sH B.col≠0 then sH B.col else if 100<B.obs.length then 4 else mi B B.obs.length
theorem uf {B:Bk}{n:Nat}(h:mi B n≠0):∀ m,n<=m->mi B m=mi B n
 | 0,hm=>by rw [show n=0 by omega]
 | m+1,hm=>by
  rcases Mw m n with h1 | h1
  ·rw [show n=m+1 by omega]
  ·have a:=uf h m h1;simp only [mi,a];rw [aI h]
theorem Hs {l:List Obs}{x:Obs}(h:l[i]?=some x):l.getD i zH=x:=by rw [ak,h,M9]
theorem xV {B:Bk}{x:Obs}(a:mi B i=0)(b:B.obs[i]?=some x):mi B (i+1)=obZ B (B.obs.take i) x:=by
 simp only [mi,a];rw [aC dc_,Hs b]
theorem CR {B:Bk}{x:Obs}(c:mi B i=0)(a:B.obs[i]?=some x)(b:obZ B (B.obs.take i) x=z)(d:z≠0):mi B B.obs.length=z:=by
 have e:=(aX.1 a).1;have h1:=xV c a;rw [uf (n:=i+1) (by rw [h1,b];exact d) B.obs.length om_,h1,b]
def CY (l:List Obs):List (Str × Value):=l.map fun o=>(o.name,.bool true)
theorem CX (l:List Obs)(s:Str):jE (.bool false) false (cV (CY l) s)=.bool (decide (s∈l.map Obs.name)):=by
 have a:(CY l).map (·.1)=l.map Obs.name:=by unfold CY;rw [ME];rfl
 cases h:cV (CY l) s with
 | none =>
  have h1:=bZ.1 h;rw [a] at h1;rw [Mk h1];rfl
 | some v =>
  have h1:=gr h;have h2:=NV (f:=(·.1)) h1;rw [a] at h2;obtain ⟨o,_,b⟩:=L4.1 h1;cases b
  rw [Mc h2];rfl
theorem F2 {l:List Obs}{o:Obs}(h:o.name ∉ l.map Obs.name):fp (CY l) o.name (.bool true)=CY (l++[o]):=by
 have a:(CY l).map (·.1)=l.map Obs.name:=by unfold CY;rw [ME];rfl
 rw [iS (by rw [bZ,a];exact h)];simp [CY]
theorem oL (C:Mem)(n:Tabs C)(F:Value)(B:Bk)(L:BookIn C F B)(t:Good B.pts B.tris)(o:BookR B) :
  Gives cx.P 36 [F] C (.int .i64 (gN B)):=by
 obtain ⟨H,I,Y,cv,ov,rfl,h1,h2,h3,h4,h5⟩:=id L.ex;obtain ⟨M,N,rfl,O,aa,_⟩:=id h5;have ab:maxLen<=9223372036854775807:=by simp [maxLen]
 simp only [ax] at h5 O ⊢;have hm:MeshIn C (.agg ⟨[H,I]⟩) B.pts B.tris:=⟨H,I,rfl,h1,h2⟩;refine Ph func36 59 U3 fun w0=>Pb fun R a=>Pr U6 fun Q=>C4 1 [1] a Z<|G.freeze 0 Z fun _ _ b=>O7 1 Z fun R a=>O8 (bkT b 2) U8<|Pn (iV _ n.m_ _ B.pts B.tris hm.m_ t) U7<|C4 1 [1,3] a Z<|C6 2 [1,3,14] Z<|O9 (fun J=>?_) fun J=>?_
 ·exact absurd J dc_
 ·refine O7 1 Z fun R a=>O8 (bkT b 2) U8<|Pa U6<|O8 (bkT b 1) U8<|Pn (sn _ n.m_ _ _ B.pts B.tris B.terr hm.m_ t h3.m_ o.terr) U7<|C4 1 [1,4] a Z<|C6 2 [1,4,22] Z<|O9 (fun p=>?_) fun p=>?_
  ·have c:zW B.pts.length B.terr≠0:=by
    intro e;rw [e] at p;exact absurd p dc_
   exact C6 2 [2] Z<|Pf U2<|⟨by unfold gN;rw [aI c],Z⟩
  ·have c:¬ zW B.pts.length B.terr≠0:=by
    have h:zW B.pts.length B.terr=0:=by simpa using p
    exact fun h2=>h2 h
   refine O7 1 Z fun R a=>O8 (bkT b 1) U8<|Pn (oJ _ n.m_ _ B.col h4.m_ o.col o.lcol) U7<|C4 1 [1,5] a Z<|C6 2 [1,5,28] Z<|O9 (fun q=>?_) fun q=>?_
   ·have d:sH B.col≠0:=by
     intro e;rw [e] at q;exact absurd q dc_
    exact C6 2 [2] Z<|Pf U2<|⟨by unfold gN;rw [aC c,aI d],Z⟩
   ·have d:¬ sH B.col≠0:=by
     have h:sH B.col=0:=by simpa using q
     exact fun h2=>h2 h
    refine O7 1 Z fun R a=>O8 (bkT b 1) U8<|C4 2 [1,33] a Z<|O9 (fun u=>?_) fun u=>?_
    ·have g:100<B.obs.length:=by
      simp only [LY] at u;omega
     exact C6 1 [2] Z<|Pf U2<|⟨by unfold gN;rw [aC c,aC d,aI g],Z⟩
    ·have g:¬ 100<B.obs.length:=by
      simp only [Mf] at u;omega
     refine Pb fun R a=>D.makeMap keyS Z Z Z Z fl_ fun v=>C4 1 [1,6] a Z<|O7 1 Z fun R a=>O8 (bkT b 1) U8<|C4 2 [1,6,36,37,38] a Z<|G.loop (fun fr C' K S=>∃ (i:Nat),(i<=B.obs.length/\mi B i=0)/\fr=[(1,[],.pointer (some ⟨Q,0,none⟩)),(6,[],.map (some v)),(36,[],.slice M B.obs.length N),(37,[],.int .i64 B.obs.length),(38,[],.int .i64 i)]/\K=[.obj v (aM keyS.enc (CY (B.obs.take i)))]/\S=B.obs.length-i) (hn_ [1,6,36,37,38] Z) ⟨0,⟨LV _,Z⟩,Z,Z,Z⟩ (fun fr ac ad m _ T=>?_);obtain ⟨i,⟨hi,k⟩,rfl,rfl,rfl⟩:=T;refine C6 1 [1,6,36,37,38,39] Z<|O9 (fun w=>?_) fun w=>?_
     ·have y:i<B.obs.length:=by simpa using w
      obtain ⟨x,f⟩:∃ x,B.obs[i]?=some x:=⟨B.obs[i],aj y⟩;have U:=o.obs x (LQ f);have V:B.obs.take (i+1)=B.obs.take i++[x]:=by rw [Mx,f];rfl
      refine Pb fun R a=>Pm h5.m_ U10 om_ (ce f) fl_ fun ae W=>O8 W U8<|Pq U5 fun b8=>Pg (j:=0) U12<|Pd [1,6,8,36,37,38] a Z<|O7 1 Z fun R a=>O8 (bkT b 2) U8<|Pa U6<|O8 (bkT b 1) U8<|Pe (.head _) U9<|Pn (ID _ n.m_ _ _ B.pts B.tris B.col x hm.m_ t h4.m_ U) U7<|C4 1 [1,6,8,9,36,37,38] a Z<|C6 2 [1,6,8,9,36,37,38,49] Z<|O9 (fun r=>?_) fun r=>?_
      ·have l:fE B.pts B.tris B.col x≠0:=by
        intro e;rw [e] at r;exact absurd r dc_
       have A:=CR k f (z:=fE B.pts B.tris B.col x) (by unfold obZ;rw [aI l]) l;exact C6 2 [2] Z<|Pf U2<|⟨by unfold gN;rw [aC c,aC d,aC g,A],Z⟩
      ·have l:¬ fE B.pts B.tris B.col x≠0:=by
        have h:fE B.pts B.tris B.col x=0:=by simpa using r
        exact fun h2=>h2 h
       refine O7 2 Z fun R a=>Pe (.head _) U9<|Qk keyS (.tail _ (.head _)) Z Z Z Z Z Z Z Z kr_ Z (CX (B.obs.take i) x.name) Z Z<|Pd [1,6,8,36,37,38,54] a Z<|O9 (fun E=>?_) fun E=>?_
       ·have s:x.name∈(B.obs.take i).map Obs.name:=K5 E;have A:=CR k f (z:=9) (by unfold obZ;rw [aC l,aI s]) dc_;exact C6 1 [2] Z<|Pf U2<|⟨by unfold gN;rw [aC c,aC d,aC g,A],Z⟩
       ·have s:x.name ∉ (B.obs.take i).map Obs.name:=LS E;have X:mi B (i+1)=0:=by rw [xV k f];unfold obZ;rw [aC l,aC s]
        refine O7 2 Z fun R a=>Pe (.head _) U9<|D.mapUpdate keyS (j:=1) Z Z Z Z Z Z Z Z Z Z kr_<|Pd [1,6,36,37,38] a Z<|Pb fun R a=>Pi _ U7<|C4 1 [1,6,36,37,38] a Z<|PQ 1 Z<|Po (L':=[.obj v (aM keyS.enc (CY (B.obs.take (i+1))))]) (by rw [V,<- F2 s];rfl)<|Pk (m':=B.obs.length-(i+1)) om_ mup (hn_ [1,6,36,37,38] Z) ⟨i+1,⟨by omega,X⟩,Z,Z,Z⟩
     ·have y:i=B.obs.length:=by
       have:¬ i<B.obs.length:=by simpa using w
       omega
      refine C6 1 [2] Z<|Pf U2<|⟨?_,Z⟩;rw [y] at k;unfold gN;rw [aC c,aC d,aC g,k]
theorem kE (C:Mem)(g:Tabs C)(b:Value)(B:Bk)(c:BookIn C b B)(j:Good B.pts B.tris)(k:BookR B)(l:gN B=0)(i:Nat)(n:i<B.obs.length) :
  Gives cx.P 240 [b,.int .i64 i] C (.int .i64 0):=by
 have d:=c;obtain ⟨o,p,q,r,s,rfl,h1,h2,h3,h4,h5⟩:=id c.ex;obtain ⟨t,u,rfl,m,v,_⟩:=id h5;have w:maxLen<=9223372036854775807:=by simp [maxLen]
 simp only [ax] at h5 m d ⊢;refine Ph func240 20 U3 fun w0=>Pb fun R a=>Pr U6 fun x=>C4 1 [1,2] a Z<|Pb fun R a=>Pe (.head _) U9<|Pp (by have h:=oL _ g.m_ _ B d.m_ j k;rw [l] at h;exact h) U7 fl_<|C4 1 [1,2,5] a Z<|C6 2 [1,2,5,9] Z<|O9 (fun e=>?_) fun e=>?_
 ·exact absurd e dc_
 ·refine O7 5 Z fun R a=>Pe (.head _) U9<|Pc 2 Z<|PD U8<|Pd [19] a Z<|O9 (fun f=>?_) fun f=>?_
  ·exfalso;simp only [Nl,LY] at f;omega
  ·exact C6 1 [4] Z<|Pf U2<|⟨Z,Z⟩
noncomputable def kO (o:Obs)(z:Rat):Rat:=if o.kind=2 then z-dh o.depth else z
structure ObsAt (o:Obs)(p:Pt):Prop where
 x:o.x=qtx p.1
 y:o.y=qtx p.2
 q:QP 23 p
 r:PtR p
 d:o.kind=2->bd o.depth=true
theorem ug {o:Obs}{p:Pt}(h:ObsAt o p):(.agg ⟨[al o.x,al o.y]⟩:Value)=ptV p:=by unfold ptV hU;rw [h.x,h.y]
structure Terr (B:Bk)(fs:List Rat):Prop where
 e:B.terr=fs.map qtx
 l:fs.length=B.pts.length
 q:∀ q∈fs,QB 22 q
theorem JO {B:Bk}{a:List Rat}(h:Terr B a):∀ q∈a,bd (qtx q)=true:=fun q b=>bx (h.q q b)
theorem DE (C:Mem)(k:Tabs C)(m:Value)(B:Bk)(i:List Rat)(o:Obs)(p:Pt)(z:Rat)(v:BookIn C m B)(w:Good B.pts B.tris)(b:Terr B i)(c:ObsAt o p)(x:Bo B.pts B.tris i p=.tuple #[al (qtx z),.int .i64 0])(y:QB 22 z) :
  Gives cx.P 241 [m,.agg ⟨mE o⟩] C (.tuple #[al (qtx (kO o z)),.int .i64 0]):=by
 obtain ⟨n,s,E,F,H,rfl,h1,h2,h3,h4,h5⟩:=id v.ex;have hm:MeshIn C (.agg ⟨[n,s]⟩) B.pts B.tris:=⟨n,s,rfl,h1,h2⟩;rw [b.e,<- DL] at h3;refine Ph func241 31 U3 fun w0=>Pb fun R a=>Pr U6 fun I=>Pr U6 fun J=>C4 2 [2,3] a Z<|G.freeze 1 Z fun _ _ t=>G.freeze 0 Z fun u _ j=>O7 1 Z fun R a=>O8 (bkT t 2) U8<|Pa U6<|O8 (bkT t 1) U8<|Pa U6<|O8 (bkT j 2) U8<|Pp (by have h:=EQ u k.m_ _ _ B.pts B.tris i 22 dc_ dc_ hm.m_ w h3.m_ b.l b.q (JO b) p c.q c.r;rw [x,<- ug c] at h;exact h) U7 fl_<|C4 5 [3,6,7] a Z<|O7 4 Z fun R a=>PC U6 (fun _=>PtrTo.blockT (Mem.get j mup) _ 1) U3<|Pa U6<|Pz U8<|Pd [3,6,7,24] a Z<|O9 (fun f=>?_) fun f=>?_
 ·have g:o.kind=2:=oq (Oj.1 f).2;obtain ⟨A,D⟩:=df (c.d g);refine O7 2 Z fun R a=>O8 (bkT j 1) U8<|Pp (by have h:=dB u k.m_ z (dh o.depth) 23 dc_ dc_ (y.le dc_) D;rw [<- A] at h;exact h) U7 fl_<|C4 1 [6,7] a Z<|C6 4 [4,5] Z<|Pl (G.dropAll (PE U3 ?_));exact ⟨by unfold kO;rw [aI g],Z⟩
 ·have g:¬ o.kind=2:=by
   intro e;rw [show ((((0:Int) == 0) && (o.kind == 2))=true) by rw [e];rfl] at f;cases f
  refine C6 4 [4,5] Z<|Pl (G.dropAll (PE U3 ?_));exact ⟨by unfold kO;rw [aC g],Z⟩
theorem zQ (C:Mem)(c:Tabs C)(h:Value)(B:Bk)(d:List Rat)(i:Nat)(o:Obs)(p:Pt)(z:Rat)(b:BookIn C h B)(j:Good B.pts B.tris)(q:BookR B)(r:gN B=0)(s:Terr B d)(k:B.obs[i]?=some o)(t:ObsAt o p)(u:Bo B.pts B.tris d p=.tuple #[al (qtx z),.int .i64 0])(v:QB 22 z)(l:QB 22 (kO o z)) :
  Gives cx.P 193 [h,.int .i64 i] C (.tuple #[al (qtx (kO o z)),.int .i64 0]):=by
 have e:=b;have w:=(aX.1 k).1;obtain ⟨A,D,E,F,H,rfl,h1,h2,h3,h4,h5⟩:=id b.ex;obtain ⟨I,J,rfl,x,K,_⟩:=id h5;have L:maxLen<=9223372036854775807:=by simp [maxLen]
 simp only [ax] at h5 x e ⊢;refine Ph func193 36 U3 fun w0=>?_;refine Pb fun R a=>?_;refine Pr U6 (fun M=>?_);refine C4 2 [1,2] a Z ?_;clear a R;refine G.freeze 0 Z (fun _ _ f=>?_);refine Pb fun R a=>?_;refine O8 (bkT f 5) U8 ?_;refine Pa U6 ?_;refine Pn (kE _ c.m_ _ B e.m_ j q r i w) U7 ?_;refine C4 1 [1,2,6] a Z ?_;clear a R;refine C6 2 [1,2,6,13] Z ?_;refine O9 (fun m=>?_) fun m=>?_
 ·exact absurd m dc_
 ·refine Pv [0,1,2,3,4,5,6,7,8,9,10,11] [(6,1)] Z kr_ (fun R b a=>?_);refine O8 (bkT f 5) U8 ?_;refine Pa U6 ?_;refine O8 (bkT f 1) U8 ?_;refine Pa U6 ?_;refine Pm h5.m_ U10 om_ (ce k) fl_ (fun N y=>?_);refine O8 y U8 ?_;refine PH (fun _=>(DE _ c.m_ _ B d o p z e.m_ j s t u v)) U9 ?_;refine Pc 5 Z ?_;refine Pd [7,8] a Z ?_;clear a b R;refine O7 4 Z fun R a=>?_;refine PH (fun _=>(dq _ c.m_ _ (rF l))) U9 ?_;refine Pa U6 ?_;refine Pz U8 ?_;refine Pd [7,8,31] a Z ?_;clear a R;refine O9 (fun g=>?_) fun g=>?_
  ·exfalso;rw [uM l] at g;exact absurd g dc_
  ·refine C6 2 [7,8,33] Z ?_;refine O9 (fun n=>?_) fun n=>?_
   ·exact absurd n dc_
   ·refine C6 3 [4,5] Z ?_;refine Pl (G.dropAll (PE U3 ?_));exact ⟨Z,Z⟩
def vw (lo hi:Int)(n:Nat):List Nat:=(List.range n).filter fun k:Nat=>decide (lo<=(k:Int)/\(k:Int)<hi)
def Bz (col:List Lay)(o:Obs):Int:=if o.kind=1 then ju (isU o.upper) col 0-1 else ju (isU o.lower) col 0
def BA (col:List Lay)(o:Obs):Int:=if o.kind=1 then ju (isU o.upper) col 0+1 else ju (isU o.upper) col 0
def cD (col:List Lay)(o:Obs):List Nat:=vw (Bz col o) (BA col o) (col.length-1)
theorem E0 {a b:Int}(j:max a 0<=(i:Int))(l:(i:Int)<=max (max a 0) (min b n))(o:min b (n:Int)<=(i:Int)):(List.range i).filter (fun k:Nat=>decide (a<=(k:Int)))=vw a b n:=by
 unfold vw;have hs:∀ m:Nat,(List.range (i+m)).filter (fun k:Nat=>decide (a<=(k:Int)/\(k:Int)<b/\k<n))=(List.range i).filter (fun k:Nat=>decide (a<=(k:Int)/\(k:Int)<b/\k<n)):=by
  intro m;induction m with
  | zero=>rfl
  | succ m c =>
   rw [show i+(m+1)=i+m+1 by omega,MU,Nw,c,List.filter_cons];rw [aC (by simp only [LY];omega)];simp
 have f:(List.range i).filter (fun k:Nat=>decide (a<=(k:Int)))=(List.range i).filter (fun k:Nat=>decide (a<=(k:Int)/\(k:Int)<b/\k<n)):=by
  refine List.filter_congr (fun k d=>?_);rw [Me] at d;rw [MH];omega
 have g:(List.range n).filter (fun k:Nat=>decide (a<=(k:Int)/\(k:Int)<b))=(List.range n).filter (fun k:Nat=>decide (a<=(k:Int)/\(k:Int)<b/\k<n)):=by
  refine List.filter_congr (fun k d=>?_);rw [Me] at d;rw [MH];omega
 rw [f,g];rcases Nat.le_total i n with e | e
 ·obtain ⟨m,rfl⟩:=Nat.exists_eq_add_of_le e;exact (hs m).symm
 ·have h:∀ m:Nat,(List.range (n+m)).filter (fun k:Nat=>decide (a<=(k:Int)/\(k:Int)<b/\k<n))=(List.range n).filter (fun k:Nat=>decide (a<=(k:Int)/\(k:Int)<b/\k<n)):=by
   intro m;induction m with
   | zero=>rfl
   | succ m c =>
    rw [show n+(m+1)=n+m+1 by omega,MU,Nw,c,List.filter_cons];rw [aC (by simp only [LY];omega)];simp
  obtain ⟨m,rfl⟩:=Nat.exists_eq_add_of_le e;exact h m
theorem qo {a:Type}(p:a->Bool)(l:List a):-1<=ju p l 0/\ju p l 0<=(l.length:Int):=by
 rcases lf p l with ⟨h,_⟩ | ⟨i,x,h,h2,_⟩
 ·omega
 ·have:=(aX.1 h2).1;omega
theorem vu (C:Mem)(_ab:Tabs C)(F:Value)(B:Bk)(o:Obs)(q:BookIn C F B)(ac:B.col.length<=1000)(M:B.col≠[]) :
  Pur cx.P 242 [F,.agg ⟨mE o⟩] C fun u D=>Sl D 1 u ((cD B.col o).map aU):=by
 obtain ⟨v1,v2,tv,cv,ov,rfl,h1,h2,h3,h4,h5⟩:=id q.ex;obtain ⟨A4,c4,rfl,N,ad,_⟩:=id h4;have ae:maxLen<=9223372036854775807:=by simp [maxLen]
 have af:=MD.2 M;have O:=qo (isU o.lower) B.col;have Q:=qo (isU o.upper) B.col;obtain ⟨lw,H⟩:∃ z,ju (isU o.lower) B.col 0=z:=⟨_,rfl⟩;obtain ⟨up,I⟩:∃ z,ju (isU o.upper) B.col 0=z:=⟨_,rfl⟩;obtain ⟨lo,b⟩:∃ z,Bz B.col o=z:=⟨_,rfl⟩;obtain ⟨c,d⟩:∃ z,BA B.col o=z:=⟨_,rfl⟩;obtain ⟨n,S⟩:∃ n,B.col.length-1=n:=⟨_,rfl⟩;unfold cD;rw [b,d,S];unfold Bz at b;unfold BA at d;rw [H] at O b;rw [I] at Q b d;simp only [ax] at h4 N ⊢;have ag:-2<=lo/\lo<=1000:=by rw [<- b];split <;> omega
 have ah:-2<=c/\c<=1001:=by rw [<- d];split <;> omega
 refine Ph func242 43 U3 fun w0=>?_;refine Pb fun R a=>?_;refine Pr U6 (fun J=>?_);refine Pr U6 (fun b3=>?_);refine C4 1 [2,3] a Z ?_;clear a R;refine G.freeze 1 Z (fun _ _ s=>?_);refine G.freeze 0 Z (fun K _ t=>?_);refine Pv [0,1,2,3,4,5,6,7,8,9,10,11] [(4,1),(9,1)] Z kr_ (fun R q a=>?_);refine Pa U6 ?_;refine O8 (bkT s 1) U8 ?_;refine Pa U6 ?_;refine O8 (bkT t 1) U8 ?_;refine Pw (fun _=>(by have h:=je K _ B.col o.lower h4.m_;rw [H] at h;exact h)) U9 ?_;refine Pa U6 ?_;refine O8 (bkT s 1) U8 ?_;refine Pa U6 ?_;refine O8 (bkT t 1) U8 ?_;refine Pw (fun _=>(by have h:=je K _ B.col o.upper h4.m_;rw [I] at h;exact h)) U9 ?_;refine Pc 2 Z ?_;refine Pd [2,3,5,6] a Z ?_;clear a q R;refine O7 1 Z fun R a=>?_;refine O8 (bkT t 1) U8 ?_;refine C4 1 [2,5,6,21] a Z ?_;clear a R;refine G.cut (fun fr C' g v=>(True)/\fr=[(2,[],.pointer (some ⟨J,0,none⟩)),(5,[],.int .i64 lo),(6,[],.int .i64 c)]/\g=[]) ?_ (fun fr _ ai v _ x=>?_)
 ·refine O9 (fun l=>?_) fun l=>?_
  ·have f:o.kind=1:=oq l;rw [aI f] at b d;subst b d;refine O7 1 Z fun R a=>?_;refine Pi _ U7 ?_;refine Pa U6 ?_;refine Pi _ U7 ?_;refine C4 2 [2,5,6] a Z ?_;clear a R;refine Pj 0 (Mem.le.refl _) (hn_ [2,5,6] Z) ⟨trivial,Z,Z⟩
  ·have f:¬ o.kind=1:=by
    intro e;rw [show ((o.kind == 1)=true) by rw [e];rfl] at l;cases l
   rw [aC f] at b d;subst b d;refine Pj 0 (Mem.le.refl _) (hn_ [2,5,6] Z) ⟨trivial,Z,Z⟩
 ·obtain ⟨_,rfl,rfl⟩:=x;refine C6 1 [2,5,6,7] Z ?_;obtain ⟨p,T⟩:∃ p:Nat,max lo 0=(p:Int):=⟨(max lo 0).toNat,by omega⟩;refine O7 1 Z fun R a=>?_;refine D.max (((p:Nat):Int)) Z Z Z Z Z Z T Z Z ?_;refine C4 1 [2,6,7,8] a Z ?_;clear a R;refine G.nilArr 3 1 ?_;refine G.loop (fun fr C' g v=>∃ (i:Nat)(out:List Nat)(w:Value),(max lo 0<=(i:Int)/\(i:Int)<=max (max lo 0) (min c n)/\out=(List.range i).filter (fun k:Nat=>decide (lo<=(k:Int))))/\fr=[(2,[],.pointer (some ⟨J,0,none⟩)),(6,[],.int .i64 c),(7,[],w),(8,[],.int .i64 i)]/\g=[.arr w 3 1 out.length (out.map aU).flatten]/\v=2000-i) (hn_ [2,6,7,8] Z) ⟨p,[],_,⟨by omega,by omega,by
   symm;rw [List.filter_eq_nil_iff];intro k f;rw [Me] at f;simp only [LY];omega⟩,rfl,rfl,rfl⟩ (fun fr aj ak m _ x=>?_)
  obtain ⟨i,out,w,⟨U,V,A⟩,rfl,rfl,rfl⟩:=x;refine O7 3 Z fun R a=>?_;refine O8 (bkT s 1) U8 ?_;refine Pa U6 ?_;refine Pi _ U7 ?_;refine D.min ((min c (n:Int))) Z Z Z Z Z Z om_ Z Z ?_;refine C4 1 [2,6,7,8,35] a Z ?_;clear a R;refine O9 (fun E=>?_) fun E=>?_
  ·have al:(i:Int)<min c (n:Int):=K5 E;have am:out.length<=i:=by
    rw [A];exact Md (No _ _) (by simp)
   have W:(List.range (i+1)).filter (fun k:Nat=>decide (lo<=(k:Int)))=out++[i]:=by
    rw [MU,Nw,<- A,List.filter_cons,aI (by simp only [LY];omega)];rfl
   refine O7 2 Z fun R a=>?_;refine Ps [aU i] U12 (fun an _ _ X=>?_);refine D.append (j:=0) U11 X Z (by simp only [aE,maxLen];omega) (by simp only [aE];omega) fl_ (fun L=>?_);refine C4 1 [2,6,7,8] a Z ?_;clear a R;refine O7 1 Z fun R a=>?_;refine Pi _ U7 ?_;refine C4 1 [2,6,7,8] a Z ?_;clear a R;refine Po (L':=[.arr L 3 1 (out++[i]).length ((out++[i]).map aU).flatten]) (by simp [aU]) ?_;refine Pk (m':=2000-(i+1)) om_ mup (hn_ [2,6,7,8] Z) ⟨i+1,out++[i],L,⟨by omega,by omega,W.symm⟩,Z,Z,Z⟩
  ·have Y:min c (n:Int)<=(i:Int):=by
    have:=LS E;omega
   refine C6 2 [4] Z ?_;refine G.freezeArr 0 (out.map aU) rfl rfl (by intro r hr;obtain ⟨y,_,rfl⟩:=L4.1 hr;rfl) (by simp) (fun Cg hg aa=>?_);refine Pf U2 ?_;exact ⟨Z,by rw [<- E0 U V Y,<- A];exact aa⟩
theorem tx (C:Mem)(j:Tabs C)(k:Value)(B:Bk)(i:Nat)(o:Obs)(d:BookIn C k B)(p:Good B.pts B.tris)(q:BookR B)(a:gN B=0)(l:B.obs[i]?=some o) :
  Pur cx.P 194 [k,.int .i64 i] C fun u D=>∃ v,u=.tuple #[v,.int .i64 0]/\Sl D 1 v ((cD B.col o).map aU):=by
 have f:=d;have r:=(aX.1 l).1;have b:sH B.col=0:=by
  unfold gN at a;split at a
  ·rename_i h;exact absurd a h
  ·split at a
   ·rename_i h;exact absurd a h
   ·rename_i h;exact Mu h
 have m:B.col≠[]:=by
  intro e;rw [e] at b;exact absurd b dc_
 have s:B.col.length<=1000:=by
  unfold sH at b;rw [aC m] at b;split at b
  ·exact absurd b dc_
  ·omega
 obtain ⟨y,z,A,E,F,rfl,h1,h2,h3,h4,h5⟩:=id d.ex;obtain ⟨H,I,rfl,t,J,_⟩:=id h5;have K:maxLen<=9223372036854775807:=by simp [maxLen]
 simp only [ax] at h5 t f ⊢;refine Ph func194 20 U3 fun w0=>Pb fun R c=>Pr U6 fun L=>C4 2 [1,2] c Z<|G.freeze 0 Z fun _ _ g=>Pb fun R c=>O8 (bkT g 5) U8<|Pa U6<|Pn (kE _ j.m_ _ B f.m_ p q a i r) U7<|C4 1 [1,2,6] c Z<|C6 2 [1,2,6,11] Z<|O9 (fun n=>?_) fun n=>?_
 ·exact absurd n dc_
 ·refine Pv [0,1,2,3,4,5,6,7,8] [] Z kr_ fun R d c=>O8 (bkT g 5) U8<|Pa U6<|O8 (bkT g 1) U8<|Pa U6<|Pm h5.m_ U10 om_ (ce l) fl_ fun M w=>O8 w U8<|PK (vu _ j.m_ _ B o f.m_ s m) U7 fun N _ _ x=>Pc 2 Z<|Pd [4,5] c Z ?_;clear c d R;refine Pl (G.dropAll (PE U3 ?_));exact ⟨Z,_,Z,x⟩
theorem CS (x y:Nat)(a:x<18446744073709551616)(b:y<18446744073709551616)(C:Mem):Gives cx.P 125 [.int .u64 x,.int .u64 y] C (.tuple #[.int .u64 ((x*y / 18446744073709551616:Nat):Int),.int .u64 ((x*y % 18446744073709551616:Nat):Int)]) :=
 Gives.ofCalls kr_ (fun w=>Any.bits_Mul Tryz.mul x y a b w) C
theorem eU {a:Value}{m:Nat}{b:List Value}(_d:k+m<=n)(c:m<=k)(_e:b.length=n-k) :
  aA (List.replicate k a++b) ((List.replicate k a++b).take m) k=List.replicate (k+m) a++b.drop m:=by
 have h1:(List.replicate k a++b).take m=List.replicate m a:=by
  rw [List.take_append_of_le_length (by simpa using c),List.take_replicate,NI c]
 have h2:(List.replicate k a++b).take k=List.replicate k a:=by
  rw [List.take_append_of_le_length (by simp),List.take_replicate,Nat.min_self]
 have h3:(List.replicate k a++b).drop (k+m)=b.drop m:=by
  rw [OE,Nd,MY (by simp),Nu];congr 1;omega
 unfold aA;rw [h1,h2,Nd,h3,List.replicate_append_replicate]
theorem wV (a:Value)(n:Nat):jx [a] n=List.replicate n a:=by
 rw [eh];induction n with
 | zero=>rfl
 | succ n b=>rw [MX,Ng,b,MX];rfl
theorem kf (n:Nat)(a:n<18446744073709551616)(C:Mem):Gives cx.P 125 [.int .u64 (1:Int),.int .u64 n] C (.tuple #[.int .u64 0,.int .u64 n]):=by
 have h:=CS 1 n om_ a C;have b:1*n / 18446744073709551616=0:=by omega
 have c:1*n % 18446744073709551616=n:=by omega
 rw [b,c] at h;exact h
theorem pK (C:Mem)(v:Value)(n:Nat)(s:Str)(g:Sl C 1 v [[al s]])(y:n<=1000000):Jog.Fn cx.P 83 [v,.int .i64 n] C [] fun u _z e=>∃ b,u=.slice (some ⟨b,0,none⟩) n n/\e=[.arr u 56 1 n (List.replicate n (al s))]:=by
 have p:=g;obtain ⟨A,c,rfl,_⟩:=p;refine Ph func83 48 U3 fun w0=>C6 1 [0,1] Z<|C6 2 [0,1,10] Z<|O9 (fun h=>?_) fun h=>?_
 ·simp at h;omega
 ·refine O7 2 Z fun R d=>PS (c:=1) U8 Z fl_<|Pa U6<|PS (c:=(n:Int)) U8 (by rw [IntKind.wrap_u64];omega) fl_<|Pp (kf n om_ _) U7 fl_<|C4 5 [0,5,6] d Z<|O7 5 Z fun R d=>PD U8<|Pd [0,6,26] d Z<|O9 (fun i=>?_) fun i=>?_
  ·simp at i;omega
  ·refine O7 1 Z fun R d=>PS (c:=(n:Int)) U8 (by rw [IntKind.wrap_i64];omega) fl_<|P3 U9 (LP _) (by show 16*n<=281474976710656;omega) (by simp only [maxLen];omega) fl_ fun a=>C4 1 [0,7] d Z<|O7 2 Z fun R d=>QA (j:=0) (q:=min 1 n) U12 g U2 (by rw [cI];show 0+min 1 n*1<=n*1;omega) fl_<|C4 1 [7,8] d Z ?_;have r:aA (jx [al []] n) (([[al s]]:List (List Value)).take (min 1 n)).flatten 0=List.replicate (min 1 n) (al s)++List.replicate (n-min 1 n) (al []):=by
    rw [wV];cases n with
    | zero=>rfl
    | succ n=>rw [show min 1 (n+1)=1 by omega,MX];rfl
   refine Po (L':=[.arr (.slice (some ⟨a,0,none⟩) n n) 56 1 n (List.replicate (min 1 n) (al s)++List.replicate (n-min 1 n) (al []))]) (by rw [<- r];rfl)<|G.loop (fun fr C' e t=>∃ (k:Nat),(k<=n/\min 1 n<=k)/\fr=[(7,[],.slice (some ⟨a,0,none⟩) n n),(8,[],.int .i64 k)]/\e=[.arr (.slice (some ⟨a,0,none⟩) n n) 56 1 n (List.replicate k (al s)++List.replicate (n-k) (al []))]/\t=n-k) (hn_ [7,8] Z) ⟨min 1 n,⟨Nat.min_le_right _ _,LP _⟩,Z,Z,Z⟩ (fun fr B D m w x=>?_);obtain ⟨k,⟨l,E⟩,rfl,rfl,rfl⟩:=x;refine C6 4 [7,8,37] Z<|O9 (fun f=>?_) fun f=>?_
   ·simp only [LY] at f;have o:k<n:=by omega
    have F:1<=k:=by omega
    refine Pv [0,1,2,3,4,5,6,7,8,9] [] Z kr_ fun R H d=>Pc 3 Z<|PX k n n U12 (fun _=>⟨.inr ⟨_,Z⟩,.inl ⟨Z,Z⟩,.inl ⟨Z,Z⟩,l,LP _,LP _⟩) U2<|Pc 2 Z<|PX 0 k n U12 (fun _=>⟨.inl ⟨Z,Z⟩,.inr ⟨_,Z⟩,.inl ⟨Z,Z⟩,LV _,l,LP _⟩) U2 ?_;refine Qz (j:=0) (off:=k) (g0:=a) (dl:=n-k) (dc:=n-k) (sl:=k-0) (sc:=n-0) (q:=min k (n-k)) U8 (by show some (Value.slice (if n=k then some (⟨a,0,none⟩:Addr) else (some (⟨a,0,none⟩:Addr)).map (·.add (k*1))) (n-k) (n-k))=_;rw [aC om_];simp [Addr.add_lit]) (by show some (Value.slice (if n=0 then some (⟨a,0,none⟩:Addr) else (some (⟨a,0,none⟩:Addr)).map (·.add (0*1))) (k-0) (n-0))=_;split <;> simp [Addr.add_lit]) U2 (by simp [nT,al]) (by simp;omega) fl_ ?_;refine PN (((k+min k (n-k):Nat):Int)) U4 om_ om_ om_ U2<|C4 1 [7,8] d Z<|Po (L':=[.arr (.slice (some ⟨a,0,none⟩) n n) 56 1 n (List.replicate (k+min k (n-k)) (al s)++List.replicate (n-(k+min k (n-k))) (al []))]) (by rw [eU (n:=n) om_ (Nat.min_le_left _ _) (by simp),List.drop_replicate,Nat.sub_sub];rfl)<|Pk (m':=n-(k+min k (n-k))) om_ w (hn_ [7,8] Z) ⟨k+min k (n-k),⟨by omega,by omega⟩,Z,Z,Z⟩
   ·simp only [Mf] at f;have o:k=n:=by omega
    subst o;refine C6 2 [4] Z<|Pl (PM Z Z ?_);exact ⟨a,Z,by simp⟩
theorem kW (C:Mem)(v:Value)(n:Nat)(s:Str)(g:Sl C 1 v [[al s]])(y:n<=1000000):Jog.Fn cx.P 243 [v,.int .i64 n] C [] fun u _z e=>∃ b,u=.slice (some ⟨b,0,none⟩) n n/\e=[.arr u 56 1 n (List.replicate n (al s))]:=by
 have p:=g;obtain ⟨A,c,rfl,_⟩:=p;refine Ph func243 48 U3 fun w0=>C6 1 [0,1] Z<|C6 2 [0,1,10] Z<|O9 (fun h=>?_) fun h=>?_
 ·simp at h;omega
 ·refine O7 2 Z fun R d=>PS (c:=1) U8 Z fl_<|Pa U6<|PS (c:=(n:Int)) U8 (by rw [IntKind.wrap_u64];omega) fl_<|Pp (kf n om_ _) U7 fl_<|C4 5 [0,5,6] d Z<|O7 5 Z fun R d=>PD U8<|Pd [0,6,26] d Z<|O9 (fun i=>?_) fun i=>?_
  ·simp at i;omega
  ·refine O7 1 Z fun R d=>PS (c:=(n:Int)) U8 (by rw [IntKind.wrap_i64];omega) fl_<|P3 U9 (LP _) (by show 16*n<=281474976710656;omega) (by simp only [maxLen];omega) fl_ fun a=>C4 1 [0,7] d Z<|O7 2 Z fun R d=>QA (j:=0) (q:=min 1 n) U12 g U2 (by rw [cI];show 0+min 1 n*1<=n*1;omega) fl_<|C4 1 [7,8] d Z ?_;have r:aA (jx [al []] n) (([[al s]]:List (List Value)).take (min 1 n)).flatten 0=List.replicate (min 1 n) (al s)++List.replicate (n-min 1 n) (al []):=by
    rw [wV];cases n with
    | zero=>rfl
    | succ n=>rw [show min 1 (n+1)=1 by omega,MX];rfl
   refine Po (L':=[.arr (.slice (some ⟨a,0,none⟩) n n) 56 1 n (List.replicate (min 1 n) (al s)++List.replicate (n-min 1 n) (al []))]) (by rw [<- r];rfl)<|G.loop (fun fr C' e t=>∃ (k:Nat),(k<=n/\min 1 n<=k)/\fr=[(7,[],.slice (some ⟨a,0,none⟩) n n),(8,[],.int .i64 k)]/\e=[.arr (.slice (some ⟨a,0,none⟩) n n) 56 1 n (List.replicate k (al s)++List.replicate (n-k) (al []))]/\t=n-k) (hn_ [7,8] Z) ⟨min 1 n,⟨Nat.min_le_right _ _,LP _⟩,Z,Z,Z⟩ (fun fr B D m w x=>?_);obtain ⟨k,⟨l,E⟩,rfl,rfl,rfl⟩:=x;refine C6 4 [7,8,37] Z<|O9 (fun f=>?_) fun f=>?_
   ·simp only [LY] at f;have o:k<n:=by omega
    have F:1<=k:=by omega
    refine Pv [0,1,2,3,4,5,6,7,8,9] [] Z kr_ fun R H d=>Pc 3 Z<|PX k n n U12 (fun _=>⟨.inr ⟨_,Z⟩,.inl ⟨Z,Z⟩,.inl ⟨Z,Z⟩,l,LP _,LP _⟩) U2<|Pc 2 Z<|PX 0 k n U12 (fun _=>⟨.inl ⟨Z,Z⟩,.inr ⟨_,Z⟩,.inl ⟨Z,Z⟩,LV _,l,LP _⟩) U2 ?_;refine Qz (j:=0) (off:=k) (g0:=a) (dl:=n-k) (dc:=n-k) (sl:=k-0) (sc:=n-0) (q:=min k (n-k)) U8 (by show some (Value.slice (if n=k then some (⟨a,0,none⟩:Addr) else (some (⟨a,0,none⟩:Addr)).map (·.add (k*1))) (n-k) (n-k))=_;rw [aC om_];simp [Addr.add_lit]) (by show some (Value.slice (if n=0 then some (⟨a,0,none⟩:Addr) else (some (⟨a,0,none⟩:Addr)).map (·.add (0*1))) (k-0) (n-0))=_;split <;> simp [Addr.add_lit]) U2 (by simp [nT,al]) (by simp;omega) fl_ ?_;refine PN (((k+min k (n-k):Nat):Int)) U4 om_ om_ om_ U2<|C4 1 [7,8] d Z<|Po (L':=[.arr (.slice (some ⟨a,0,none⟩) n n) 56 1 n (List.replicate (k+min k (n-k)) (al s)++List.replicate (n-(k+min k (n-k))) (al []))]) (by rw [eU (n:=n) om_ (Nat.min_le_left _ _) (by simp),List.drop_replicate,Nat.sub_sub];rfl)<|Pk (m':=n-(k+min k (n-k))) om_ w (hn_ [7,8] Z) ⟨k+min k (n-k),⟨by omega,by omega⟩,Z,Z,Z⟩
   ·simp only [Mf] at f;have o:k=n:=by omega
    subst o;refine C6 2 [4] Z<|Pl (PM Z Z ?_);exact ⟨a,Z,by simp⟩
theorem fq (C:Mem)(s p:Nat)(h:s*p<=100000):Jog.Fn cx.P 191 [fN s p] C [] fun u _f c=>∃ b,u=.slice (some ⟨b,0,none⟩) (s*p:Nat) (s*p:Nat)/\c=[.arr u 56 1 (s*p) (List.replicate (s*p) (al [48]))]:=by
 refine Ph func191 7 U3 fun w0=>Pb fun R a=>Pr U6 fun g=>C4 1 [1] a Z<|Px [(3,3)] Z fun R a=>Ps [[al [48]]] U12 fun i _ _ d=>Pe (.head _) U9<|Pp (jY _ s p om_) U7 fl_<|D.call (pK _ _ (s*p) [48] d.m_ om_) Z (.inr dc_) U6 (LR _) fl_ fun j _ k _ e=>C4 1 [2] a Z ?_;obtain ⟨b,rfl,rfl⟩:=e;refine PQ 1 Z<|Pl (PM Z Z ?_);exact ⟨b,Z,Z⟩
def ofE (z:Int)(s p:Nat):Int:=if z≠0 then z else if 60<s*p then 4 else 0
def ofS (e:Int)(s p:Nat):Value:=if e=0 then fN s p else fN 0 0
structure BookZ (C:Mem)(bv:Value)(B:Bk)(z:Int):Prop where
 i:BookIn C bv B
 ch:∀ D:Mem,C.le D->Gives cx.P 36 [bv] D (.int .i64 z)
 ne:z=0->B.col≠[]
 lc:B.col.length<=1000
 lp:B.pts.length<=400
theorem BookZ.mono {C D:Mem}{a:Value}{B:Bk}{z:Int}(h:BookZ C a B z)(c:C.le D):BookZ D a B z:=⟨h.i.mono c,fun E d=>h.ch E (fun b o e=>d b o (c b o e)),h.ne,h.lc,h.lp⟩
theorem BookZ.m_ {D:Mem}{B:Bk}(h:BookZ C bv B z)(a:C.le D:=by exact mup):BookZ D bv B z:=BookZ.mono h a
def bs (B:Bk):Nat:=B.col.length-1
def bp (B:Bk):Nat:=B.pts.length
theorem JT {B:Bk}(h:BookZ C bv B z):bs B*bp B<=400000:=by
 have h1:=h.lc;have h2:=h.lp;have:bs B*bp B<=1000*400:=NA (by unfold bs;omega) (by unfold bp;omega);omega
theorem Ki (C:Mem)(l:Value)(B:Bk)(z:Int)(c:BookZ C l B z):Gives cx.P 64 [l] C (.tuple #[ofS (ofE z (bs B) (bp B)) (bs B) (bp B),.int .i64 (ofE z (bs B) (bp B))]):=by
 obtain ⟨n,o,p,q,r,rfl,h1,h2,h3,h4,h5⟩:=id c.i.ex;obtain ⟨s,t,rfl,u,v,_⟩:=id h1;obtain ⟨w,x,rfl,y,A,_⟩:=id h4;have D:=JT c;have E:=c.lc;have m:=c.ch;have F:maxLen<=9223372036854775807:=by simp [maxLen]
 simp only [ax] at m ⊢;refine Ph func64 26 U3 fun w0=>Pb fun R a=>Pr U6 fun H=>Pq U5 fun I=>C4 1 [1,2] a Z<|G.freeze 1 Z fun _ _ g=>Pb fun R a=>O8 (bkT g 5) U8<|Pn (m _ mup) U7<|C4 1 [1,2,4] a Z<|C6 2 [1,2,4,9] Z<|O9 (fun f=>?_) fun f=>?_
 ·have b:z≠0:=by
   intro e;rw [e] at f;exact absurd f dc_
  have d:ofE z (bs B) (bp B)=z:=by unfold ofE;rw [aI b]
  refine Pb fun R a=>PB [.int .i64 0,.int .i64 0] U8<|Pa U6<|Pg (j:=0) U12<|C4 1 [2,3] a Z<|Pl (Qh (.head _) U5 ?_);exact ⟨by rw [d];unfold ofS;rw [aC b];rfl,Z⟩
 ·have b:z=0:=by simpa using f
  have J:=MD.2 (c.ne b);have K:bs B+1=B.col.length:=by unfold bs;omega
  refine O7 1 Z fun R a=>O8 (bkT g 1) U8<|Pa U6<|PN (((bs B:Nat):Int)) U4 om_ om_ om_ U2<|Pc 2 Z<|O8 (bkT g 1) U8<|Pa U6<|PB [.int .i64 (bs B:Nat),.int .i64 (bp B:Nat)] U8<|Pq U5 fun L=>Pg (j:=0) U12<|Pd [2,5] a Z<|Pb fun R a=>Pe (.head _) U9<|Pp (jY _ (bs B) (bp B) om_) U7 fl_<|C4 1 [2,5,23] a Z<|O9 (fun h=>?_) fun h=>?_
  ·have k:60<bs B*bp B:=by
    have:=K5 h;omega
   have d:ofE z (bs B) (bp B)=4:=by unfold ofE;rw [b,aC dc_,aI k]
   refine Pb fun R a=>PB [.int .i64 0,.int .i64 0] U8<|Pg (j:=1) U12<|C4 1 [2,3] a Z<|Pl (Qh (.head _) U5 ?_);exact ⟨by rw [d];rfl,Z⟩
  ·have k:¬ 60<bs B*bp B:=by
    have:=LS h;omega
   have d:ofE z (bs B) (bp B)=0:=by unfold ofE;rw [b,aC dc_,aC k]
   refine Pb fun R a=>Pe (.head _) U9<|Pg (j:=1) U12<|C4 1 [2,3] a Z<|Pl (Qh (.head _) U5 ?_);exact ⟨by rw [d];rfl,Z⟩
theorem GD (C:Mem)(c:Value)(B:Bk)(z:Int)(b:BookZ C c B z):Gives cx.P 35 [c] C (.tuple #[.int .i64 (if ofE z (bs B) (bp B)=0 then ((bs B*bp B:Nat):Int) else 0),.int .i64 (ofE z (bs B) (bp B))]):=by
 have s:=JT b;have g:=b;obtain ⟨k,l,m,n,o,rfl,h1,h2,h3,h4,h5⟩:=id b.i.ex;obtain ⟨e,d⟩:∃ e,ofE z (bs B) (bp B)=e:=⟨_,rfl⟩;have f:∀ D:Mem,C.le D->Gives cx.P 64 [.agg ⟨[k,l,m,n,o]⟩] D (.tuple #[ofS e (bs B) (bp B),.int .i64 e]):=fun D p=>by have h:=Ki D _ B z (g.mono p);rwa [d] at h
 rw [d];have q:ofS e (bs B) (bp B)=.agg ⟨[.int .i64 (if e=0 then ((bs B:Nat):Int) else 0),.int .i64 (if e=0 then ((bp B:Nat):Int) else 0)]⟩:=by unfold ofS fN;split <;> rfl
 have r:∀ D:Mem,Gives cx.P 65 [.agg ⟨[.int .i64 (if e=0 then ((bs B:Nat):Int) else 0),.int .i64 (if e=0 then ((bp B:Nat):Int) else 0)]⟩] D (.int .i64 (if e=0 then ((bs B*bp B:Nat):Int) else 0)):=fun D=>by
  by_cases h:e=0
  ·rw [aI h,aI h,aI h];exact jY D (bs B) (bp B) om_
  ·rw [aC h,aC h,aC h];exact jY D 0 0 om_
 rw [q] at f;refine Ph func35 14 U3 fun w0=>Pb fun R a=>Pr U6 fun t=>C4 2 [1] a Z<|Pb fun R a=>Pe (.head _) U9<|Pn (f _ mup) U7<|Pc 3 Z<|Pq U5 fun u=>Pg (j:=0) U12<|C4 1 [4,5] a Z<|Pb fun R a=>Pe (.head _) U9<|Pn (r _) U7<|C4 3 [2,3] a Z<|Pl (G.dropAll (PE U3 ?_));exact ⟨Z,Z⟩
theorem Ls (C:Mem)(a:Value)(B:Bk)(b:BookZ C a B 0)(c:bs B*bp B<=60):Gives cx.P 64 [a] C (.tuple #[fN (bs B) (bp B),.int .i64 0]):=by
 have h:=Ki C a B 0 b;have e:ofE 0 (bs B) (bp B)=0:=by unfold ofE;rw [aC dc_,aC om_]
 rw [e] at h;exact h
def sY (n:Nat)(done:List (Nat × Rat)):List Rat:=(List.range n).map fun j=>(cV done j).getD 0
def jO (n:Nat)(done:List (Nat × Rat)):List Value:=(sY n done).map fun q=>al (qtx q)
theorem kA (n:Nat):List.replicate n (al [48])=jO n []:=by
 unfold jO sY;rw [ME];symm;rw [List.eq_replicate_iff];refine ⟨by simp,fun v a=>?_⟩;obtain ⟨j,_,rfl⟩:=L4.1 a;show al (qtx 0)=_;rw [qtx_zero]
theorem kB (n:Nat)(a:List (Nat × Rat)):(jO n a).length=n:=by simp [jO,sY]
theorem eP (b:List (Nat × Rat))(q:Rat)(h:a<n):aA (jO n b) [al (qtx q)] a=jO n ((a,q)::b):=by
 have g:=kB n b;unfold aA;refine List.ext_getElem? (fun j=>?_);have f:∀ (d:List (Nat × Rat)),(jO n d)[j]?=if j<n then some (al (qtx ((cV d j).getD 0))) else none:=fun d=>by
  unfold jO sY;rw [ME,LU];split
  ·rename_i c;rw [Mr c];rfl
  ·rename_i c;rw [LX (by simpa using Nat.le_of_not_lt c)];rfl
 rw [f ((a,q)::b)];have e:((jO n b).take a).length=a:=by rw [Mv,g];omega
 rcases Nat.lt_trichotomy j a with c | rfl | c
 ·rw [Mo,MF (by rw [e];exact c),Mz,aI c,f b,aI om_,aI om_];simp only [cV];rw [aC om_]
 ·rw [Mo,Ms (by rw [e];exact LP _),e,NZ,aI h];simp [cV]
 ·rw [Ms (by rw [LZ,e];simp;omega),LZ,e,List.getElem?_drop];rw [show a+[al (qtx q)].length+(j-(a+[al (qtx q)].length))=j by simp;omega,f b];split
  ·simp only [cV];rw [aC om_]
  ·rfl
theorem tR {d a:List (Nat × Rat)}(h:d.Perm a)(b:(d.map (·.1)).Nodup):sY n d=sY n a:=by
 unfold sY;refine List.map_congr_left (fun j _=>?_);rw [uk h b]
def dN (fm:List (Nat × Rat)):List (Int × Value):=fm.map fun x=>(((x.1:Nat):Int),al (qtx x.2))
def EI (p surface:Nat)(sign:Rat)(x:Nat × Rat):Nat × Rat:=(surface*p+x.1,sign*x.2)
theorem pX:QB 1 (-1:Rat):=fk QB_one
theorem vF (C:Mem)(s p a k:Nat)(h:a*p+k<=1000000):Gives cx.P 190 [fN s p,.int .i64 (a:Nat),.int .i64 (k:Nat)] C (.int .i64 ((a*p+k:Nat):Int)):=by
 have e:((a:Nat):Int)*(p:Nat)=((a*p:Nat):Int):=(M1 _ _).symm;have h2:=J1 C s p (a:Nat) (k:Nat) (by rw [e];omega) om_;rw [e,<- Int.natCast_add] at h2;exact h2
def Fu (s p surface:Nat)(fm:List (Nat × Rat))(sign:Rat):List Rat:=sY (s*p) (fm.map (EI p surface sign))
theorem J3 (C:Mem)(J:Tabs C)(s p f b:Nat)(c:List (Nat × Rat))(g o:Rat)(k:Nat)(K:0<k)(hk:k<=1000)(ab:s*p<=100000)(hs:f<s)(A:C b=some (aM keyZ.enc (dN c)))(ac:(c.map (·.1)).Nodup)(ad:∀ x∈c,x.1<p)(ae:∀ x∈c,QB k x.2)(L:QB k g)(af:QB k o) :
  Pur cx.P 196 [fN s p,.int .i64 f,.map (some b),al (qtx g),al (qtx o)] C fun u D=>∃ v,u=.agg ⟨[v,al (qtx (g*o))]⟩/\Sl D 1 v ((Fu s p f c g).map fH):=by
 have av:maxLen<=9223372036854775807:=by simp [maxLen]
 have M:(dN c).length=c.length:=by simp [dN]
 have aw:f*p+p<=s*p:=by
  rw [<- Nat.succ_mul];exact MG _ hs
 have ax:=(c.map (·.1)).length;refine Ph func196 38 U3 fun w0=>Pb fun R l=>Pr U6 fun b5=>Pq U5 fun z=>Pd [1,2,3,4,5,10] l Z<|G.freeze 1 Z fun _ _ N=>Px [(1,3)] Z fun R l=>O8 (bkT N 2) U8<|D.call (fq _ s p ab) Z (.inr dc_) U6 (LR _) fl_ (fun ay _ az _ ag=>?_);obtain ⟨bz,rfl,rfl⟩:=ag;refine Pc 2 Z<|Pp (dm _ J.m_ g o k K om_ L af) U7 fl_<|PB [.slice (some ⟨bz,0,none⟩) (s*p:Nat) (s*p:Nat),al (qtx (g*o))] U8<|Pq U5 fun ah=>Pg (j:=0) U12<|Pd [1,2,3,5,10,11] l Z<|G.freeze 0 Z fun _ _ O=>Po (L':=[.arr (.slice (some ⟨bz,0,none⟩) (s*p) (s*p)) 56 1 (s*p) (jO (s*p) []),.obj z (.cells ⟨[.slice none 0 0,al []]⟩ 123 (0,0))]) (by rw [kA];rfl)<|O7 1 Z fun R l=>Q6 keyZ (Mem.get A mup) Z Z Z Z Z Z Z fl_ fun E=>Pd [1,3,5,10,11,21] l Z<|G.loop (fun fr C' B μ=>∃ (seen:List Nat),(seen.Nodup/\(∀ j∈seen,j<c.length))/\fr=[(1,[],.int .i64 f),(3,[],al (qtx g)),(5,[],.pointer (some ⟨b5,0,none⟩)),(10,[],.pointer (some ⟨z,0,none⟩)),(11,[],.pointer (some ⟨ah,0,none⟩)),(21,[],.pointer (some ⟨E,0,none⟩))]/\B=[.obj E (bi b (dN c).length seen),.arr (.slice (some ⟨bz,0,none⟩) (s*p) (s*p)) 56 1 (s*p) (jO (s*p) (seen.reverse.map fun i=>EI p f g (c.getD i (0,0)))),.obj z (.cells ⟨[.slice none 0 0,al []]⟩ 123 (0,0))]/\μ=c.length-seen.length) (hn_ [1,3,5,10,11,21] Z) ⟨[],⟨List.nodup_nil,by simp⟩,Z,Z,Z⟩ (fun fr aA aB m _ hI=>?_);obtain ⟨seen,⟨Q,S⟩,rfl,rfl,rfl⟩:=hI;refine Pb fun R l=>Rf keyZ (q:=0) (Mem.get A mup) Z Z Z Z Z Z fl_ fun T aC t U=>C4 1 [1,3,5,10,11,21,23] l Z<|O9 (fun w=>?_) fun w=>?_
 ·obtain ⟨aD,j,F,ai,rfl⟩:T=true/\∃ j,j<(dN c).length/\j ∉ seen/\t=seen++[j]:=by
   rcases U with ⟨h1,_⟩ | h1
   ·rw [h1] at w;cases w
   ·exact h1
  rw [M] at F;obtain ⟨⟨n,q⟩,H⟩:∃ x,c[j]?=some x:=⟨c[j],aj F⟩;have V:=LQ H;have aE:n<p:=ad _ V;have am:QB k q:=ae _ V;have an:(dN c)[j]?=some (((n:Nat):Int),al (qtx q)):=by unfold dN;rw [LU,H];rfl
  have ao:c.getD j (0,0)=(n,q):=by rw [ak,H];rfl
  have W:(seen++[j]).Nodup:=by
   rw [Np];exact ⟨Q,by simp,fun a ha b hb e=>by rw [Mn.1 hb] at e;subst e;exact ai ha⟩
  have X:∀ i∈seen++[j],i<c.length:=fun i I=>by
   rcases Mh.1 I with h | h
   ·exact S i h
   ·rw [Mn.1 h];exact F
  have aF:(seen++[j]).length<=c.length:=by
   have:=List.Nodup.length_le_of_subset W (l₂:=List.range c.length) (fun i I=>Me.2 (X i I));simpa using this
  have aG:(seen++[j]).length=seen.length+1:=by simp
  have ap:f*p+n<s*p:=by omega
  refine Pb fun R l=>Rb keyZ (Mem.get A mup) an (.head _) Z Z Z Z Z Z Z<|C4 4 [1,3,5,10,11,12,13,21] l Z<|Pv [0,1,2,3,4,5,6,7,8,9,10] [(5,1),(8,1)] Z kr_ fun R hB l=>Pa U6<|O8 (bkT O 1) U8<|O8 (bkT N 2) U8<|Pc 2 Z<|Pw (fun _=>(vF _ s p f n om_)) U9<|Pc 2 Z<|Pw (fun _=>(dm _ J.m_ g q k K om_ L am)) U9<|PG ((f*p+n)) U10 (fun _=>⟨by omega,by omega,(NM _).symm⟩) U2<|PJ (j:=1) U11 (by rw [kB];simp;omega)<|Pd [1,3,5,10,11,21] l Z<|G.perm (L':=[.obj E (bi b (dN c).length (seen++[j])),.arr (.slice (some ⟨bz,0,none⟩) (s*p) (s*p)) 56 1 (s*p) (jO (s*p) ((seen++[j]).reverse.map fun i=>EI p f g (c.getD i (0,0)))),.obj z (.cells ⟨[.slice none 0 0,al []]⟩ 123 (0,0))]) (by
   rw [List.reverse_append,List.reverse_singleton,List.singleton_append,Mp,ao];unfold EI;rw [<- eP _ _ ap];exact List.Perm.swap _ _ _) ?_
  refine Pk (m':=c.length-(seen++[j]).length) om_ mup (hn_ [1,3,5,10,11,21] Z) ⟨seen++[j],⟨W,X⟩,Z,Z,Z⟩
 ·obtain ⟨aH,rfl,Y⟩:T=false/\t=seen/\∀ j,j<(dN c).length->j∈seen:=by
   rcases U with h1 | ⟨h1,_⟩
   ·exact h1
   ·rw [h1] at w;cases w
  rw [M] at Y;have aa:(t.reverse.map fun i=>EI p f g (c.getD i (0,0))).Perm (c.map (EI p f g)):=by
   have h1:=(tL (d:=((0:Nat),(0:Rat))) Q S Y).map (EI p f g);rw [ME] at h1;exact ((List.reverse_perm t).map _).trans h1
  have aq:((c.map (EI p f g)).map (·.1)).Nodup:=by
   rw [ME];have e:((·.1) ∘ EI p f g:Nat × Rat->Nat)=(fun k=>f*p+k) ∘ (·.1):=rfl;rw [e,<- ME];rw [List.Nodup,List.pairwise_map];exact ac.imp (fun {a b} h=>by omega)
  have ar:jO (s*p) (t.reverse.map fun i=>EI p f g (c.getD i (0,0)))=((Fu s p f c g).map fH).flatten:=by
   unfold Fu jO;rw [tR aa ((aa.map (·.1)).nodup_iff.2 aq)];exact (eB (fun q=>al (qtx q)) _).symm
  refine PQ 0 Z<|G.freezeArr 0 ((Fu s p f c g).map fH) rfl ar (by intro r hr;obtain ⟨y,_,rfl⟩:=L4.1 hr;rfl) (by simp [Fu,sY]) fun Cg hg au=>Pb fun R l=>O8 (bkT O 2) U8<|Pg (j:=0) U12<|Pd [10] l Z<|Pl (PW (.head _) U4 ?_);exact ⟨Z,_,Z,au⟩
structure RowQ where
 f:List Rat
 b:Rat
def aN (vs:List Value)(rows:List RowQ):List (List Value):=List.zipWith (fun w (r:RowQ)=>[w,al (qtx r.b)]) vs rows
def RowsOk (C:Mem)(vs:List Value)(rows:List RowQ):Prop:=vs.length=rows.length/\∀ (i:Nat)(w:Value)(r:RowQ),vs[i]?=some w->rows[i]?=some r->Sl C 1 w (r.f.map fH)
theorem RowsOk.mono {C D:Mem}{a:List Value}{b:List RowQ}(h:RowsOk C a b)(c:C.le D):RowsOk D a b:=⟨h.1,fun i w r h1 h2=>(h.2 i w r h1 h2).mono c⟩
theorem RowsOk.m_ {D:Mem}{a:List RowQ}(h:RowsOk C vs a)(b:C.le D:=by exact mup):RowsOk D vs a:=RowsOk.mono h b
theorem RowsOk.nil (C:Mem):RowsOk C [] []:=⟨rfl,fun i w r h1 _=>by simp at h1⟩
theorem RowsOk.snoc {a:List RowQ}{r:RowQ}(h:RowsOk C vs a)(c:Sl C 1 v (r.f.map fH)):RowsOk C (vs++[v]) (a++[r]):=by
 have h0:=h.1;refine ⟨by simp [h0],fun j w d h1 h2=>?_⟩;rcases Mw j vs.length with e | g
 ·rw [MF e] at h1;rw [MF om_] at h2;exact h.2 j w d h1 h2
 ·rw [Ms g] at h1;rw [Ms om_,<- h0] at h2;cases b:j-vs.length with
  | zero=>rw [b] at h1 h2;simp at h1 h2;subst h1;subst h2;exact c
  | succ q=>rw [b] at h1;simp at h1
theorem eL {a:List RowQ}(h:vs.length=a.length)(v:Value)(r:RowQ):aN (vs++[v]) (a++[r])=aN vs a++[[v,al (qtx r.b)]]:=by
 unfold aN;rw [List.zipWith_append h];rfl
theorem dF {a:List RowQ}(h:vs.length=a.length):(aN vs a).length=a.length:=by simp [aN,h]
theorem ik (b:List Value)(c:List RowQ):∀ r∈aN b c,r.length=2:=by
 intro r hr;unfold aN at hr;obtain ⟨i,a⟩:=M2 hr;rw [List.getElem?_zipWith] at a;cases h1:b[i]? <;> cases h2:c[i]? <;> rw [h1,h2] at a <;> simp at a
 subst a;rfl
def RowsIn (C:Mem)(v:Value)(rows:List RowQ):Prop:=∃ vs:List Value,RowsOk C vs rows/\Sl C 2 v (aN vs rows)
theorem RowsIn.mono {C D:Mem}{v:Value}{a:List RowQ}(h:RowsIn C v a)(b:C.le D):RowsIn D v a:=by
 obtain ⟨vs,h1,h2⟩:=h;exact ⟨vs,h1.mono b,h2.mono b⟩
theorem RowsIn.m_ {D:Mem}{a:List RowQ}(h:RowsIn C v a)(b:C.le D:=by exact mup):RowsIn D v a:=RowsIn.mono h b
def qi (s p:Nat)(x:Lay)(i k:Nat):RowQ:=⟨sY (s*p) [(i*p+k, -1),((i-1)*p+k,1)], -x.min⟩
def DC (s p:Nat)(m:Rat)(i k:Nat):RowQ:=⟨sY (s*p) [(i*p+k,1),((i-1)*p+k, -1)],m⟩
def lE (s p:Nat)(x:Lay)(i k:Nat):List RowQ :=
 qi s p x i k::(match x.max with
  | none=>[]
  | some m=>[DC s p m i k])
def bh (s p:Nat)(x:Lay)(i:Nat):Nat->List RowQ
 | 0=>[]
 | k+1=>bh s p x i k++lE s p x i k
def ba (s p:Nat)(col:List Lay):Nat->List RowQ
 | 0=>[]
 | n+1=>ba s p col n++bh s p (col.getD (n+1) ⟨[],0,none⟩) (n+1) p
theorem kT (s p:Nat)(x:Lay)(i:Nat):∀ k,(bh s p x i k).length<=2*k
 | 0=>LP _
 | k+1=>by
  have:=kT s p x i k;have h2:(lE s p x i k).length<=2:=by unfold lE;split <;> simp
  simp only [bh,LZ];omega
theorem kS (s p:Nat)(a:List Lay):∀ n,(ba s p a n).length<=2*(n*p)
 | 0=>by simp [ba]
 | n+1=>by
  have:=kS s p a n;have h2:=kT s p (a.getD (n+1) ⟨[],0,none⟩) (n+1) p;simp only [ba,LZ,Nat.succ_mul];omega
theorem cJ:qtx (-1)=[45,49]:=by
 rw [fC (q:=1) dc_ dc_,dp]
theorem st2 (c d:Rat)(e:a<n)(f:b<n):aA (aA (List.replicate n (al [48])) [al (qtx c)] a) [al (qtx d)] b=jO n [(b,d),(a,c)]:=by
 rw [kA,eP _ _ e,eP _ _ f]
theorem KZ (c d:Rat)(e:a<n)(f:b<n)(g:a≠b):aA (aA (List.replicate n (al [48])) [al (qtx d)] b) [al (qtx c)] a=jO n [(b,d),(a,c)]:=by
 rw [st2 d c f e];unfold jO;rw [tR (List.Perm.swap _ _ _) (by simp;exact g)]
theorem iA (n:Nat)(d:List (Nat × Rat)):jO n d=((sY n d).map fH).flatten:=(eB (fun q=>al (qtx q)) _).symm
theorem iN (n:Nat)(d:List (Nat × Rat)):(sY n d).length=n:=by simp [sY]
theorem tt (C:Mem)(_aJ:Tabs C)(v:Value)(s p:Nat)(c:List Lay)(J:Sl C 3 v (c.map Ah))(hs:s+1=c.length)(aK:s*p<=60)(ai:∀ x∈c,KR x) :
  Pur cx.P 127 [fN s p,v] C fun u D=>RowsIn D u (ba s p c (c.length-2)):=by
 obtain ⟨F,c0,rfl,ak,aL,_⟩:=id J;have aM:maxLen<=9223372036854775807:=by simp [maxLen]
 simp only [ax] at J ak ⊢;refine Ph func127 81 U3 fun w0=>Pb fun R d=>Pr U6 fun H=>C4 1 [1,2] d Z<|G.freeze 0 Z fun _ _ K=>C6 1 [1,2,5] Z<|C6 1 [1,2,5,6] Z<|G.nilArr 123 2<|G.loop (fun fr C' f t=>∃ (i:Nat)(vs:List Value)(w:Value),(1<=i/\(i+1<=c.length∨i=1)/\RowsOk C' vs (ba s p c (i-1)))/\fr=[(1,[],.slice F c.length c0),(2,[],.pointer (some ⟨H,0,none⟩)),(5,[],w),(6,[],.int .i64 i)]/\f=[.arr w 123 2 (ba s p c (i-1)).length (aN vs (ba s p c (i-1))).flatten]/\t=c.length-i) (hn_ [1,2,5,6] Z) ⟨1,[],_,⟨LP _,.inr Z,RowsOk.nil _⟩,Z,Z,Z⟩ (fun fr aO aP m _ z=>?_);obtain ⟨i,vs,w,⟨aQ,aR,O⟩,rfl,rfl,rfl⟩:=z;refine O7 1 Z fun R d=>Pi _ U7<|C4 3 [1,2,5,6,15] d Z<|O9 (fun W=>?_) fun W=>?_
 ·have ac:i+1<c.length:=by
   have:=K5 W;omega
  obtain ⟨x,L⟩:∃ x,c[i]?=some x:=⟨c[i]'om_,aj om_⟩;obtain ⟨M,aS,aT⟩:=ai x (LQ L);have aU:=kS s p c (i-1);refine O7 1 Z fun R d=>O8 (bkT K 1) U8<|C4 1 [1,2,5,6,19,20] d Z<|Po (L':=[.arr w 123 2 (ba s p c (i-1)++bh s p x i 0).length (aN vs (ba s p c (i-1)++bh s p x i 0)).flatten]) (by simp [bh])<|G.loop (fun fr C' f t=>∃ (k:Nat)(g:List Value)(o:Value),(k<=p/\RowsOk C' g (ba s p c (i-1)++bh s p x i k))/\fr=[(1,[],.slice F c.length c0),(2,[],.pointer (some ⟨H,0,none⟩)),(5,[],o),(6,[],.int .i64 i),(19,[],.int .i64 p),(20,[],.int .i64 k)]/\f=[.arr o 123 2 (ba s p c (i-1)++bh s p x i k).length (aN g (ba s p c (i-1)++bh s p x i k)).flatten]/\t=p-k) (hn_ [1,2,5,6,19,20] Z) ⟨0,vs,w,⟨LV _,by simpa [bh] using O⟩,Z,Z,Z⟩ (fun fr aV aW m _ z=>?_);obtain ⟨k,g,o,⟨hk,X⟩,rfl,rfl,rfl⟩:=z;refine C6 1 [1,2,5,6,19,20,21] Z<|O9 (fun Y=>?_) fun Y=>?_
  ·have ad:k<p:=by simpa using Y
   have aX:i*p+p<=s*p:=by
    rw [<- Nat.succ_mul];exact MG _ om_
   have aY:(i-1)*p+p=i*p:=by
    rw [<- Nat.succ_mul,show (i-1).succ=i by omega]
   have aZ:=kT s p x i k;have a0:(i-1)*p<=60:=by omega
   have ae:(ba s p c (i-1)++bh s p x i k).length<=400:=by
    rw [LZ];omega
   refine C6 2 [1,2,5,6,7,19,20] Z<|Pv [0,1,2,3,4,5,6,7,8,9,10] [(4,1),(8,1)] Z kr_ fun R Q d=>O8 (bkT K 2) U8<|Pa U6<|PN (((i-1:Nat):Int)) U4 om_ om_ om_ U2<|Pa U6<|Pw (fun _=>(vF _ s p (i-1) k om_)) U9<|O8 (bkT K 2) U8<|Pc 2 Z<|Pw (fun _=>(vF _ s p i k om_)) U9<|C4 2 [1,2,5,6,8,9,19,20] d Z<|G.cut (fun fr C' f t=>∃ (bz e:Nat),(True)/\fr=[(1,[],.slice F c.length c0),(2,[],.pointer (some ⟨H,0,none⟩)),(5,[],o),(6,[],.int .i64 i),(8,[],.int .i64 ((((i-1)*p+k:Nat)):Int)),(9,[],.int .i64 (((i*p+k:Nat)):Int)),(10,[],.pointer (some ⟨e,0,none⟩)),(19,[],.int .i64 p),(20,[],.int .i64 k)]/\f=[.arr (.slice (some ⟨bz,0,none⟩) (s*p) (s*p)) 56 1 (s*p) (List.replicate (s*p) (al [48])),.obj e (.cells ⟨[.slice (some ⟨bz,0,none⟩) (s*p) (s*p),al (qtx (-x.min))]⟩ 123 (0,0)),.arr o 123 2 (ba s p c (i-1)++bh s p x i k).length (aN g (ba s p c (i-1)++bh s p x i k)).flatten]) ?_ (fun fr a1 a2 t a3 z=>?_)
   ·refine PV (.cut [0,2,3,4,5] (.alt 1 (.fin [6,7,8,9,10]) (.alt 6 (.cut [] (.alt 1 (.fin [7,8,9,10]) (.alt 9 (.fin [1,7,8,10]) .stop))) (.alt 9 (.cut [] (.alt 1 (.fin [6,7,8,10]) (.alt 6 (.fin [1,7,8,10]) .stop))) .stop)))) [(7,1),(1,3)] Z Z kr_ fun R Q d B=>O8 (bkT K 2) U8<|Pc 2 Z<|Pm J.m_ U10 om_ (ce L) fl_ fun a4 am=>Ql am U10 fl_ fun a5 S=>PF B Z ⟨?_, ?_, ?_,trivial⟩
    ·refine D.call (fq _ s p om_) Z (.inr dc_) U6 (LR _) fl_ fun T U V _ E=>O8 S.m_ U8<|PH (fun _=>(dT _ x.min (zw M))) U9 ?_;obtain ⟨bz,rfl,rfl⟩:=E;refine PB [.slice (some ⟨bz,0,none⟩) (s*p:Nat) (s*p:Nat),al (qtx (-x.min))] U8<|Pq U5 (fun e=>?_)
     first | refine PU (j:=0) U12 ?_ | refine PU (j:=1) U12 ?_
     exact Pd [1,2,5,6,8,9,10,19,20] d Z<|G.perm (L':=[.arr (.slice (some ⟨bz,0,none⟩) (s*p) (s*p)) 56 1 (s*p) (List.replicate (s*p) (al [48])),.obj e (.cells ⟨[.slice (some ⟨bz,0,none⟩) (s*p) (s*p),al (qtx (-x.min))]⟩ 123 (0,0)),.arr o 123 2 (ba s p c (i-1)++bh s p x i k).length (aN g (ba s p c (i-1)++bh s p x i k)).flatten]) (by first | exact LR _ | exact List.Perm.swap _ _ _)<|Pj 0 mup (hn_ [1,2,5,6,8,9,10,19,20] Z) ⟨bz,e,trivial,Z,Z⟩
    ·refine O8 S.m_ U8<|PF B Z ⟨?_, ?_,trivial⟩
     ·refine D.call (fq _ s p om_) Z (.inr dc_) U6 (LR _) fl_ fun T U V _ E=>PH (fun _=>(dT _ x.min (zw M))) U9 ?_;obtain ⟨bz,rfl,rfl⟩:=E;refine PB [.slice (some ⟨bz,0,none⟩) (s*p:Nat) (s*p:Nat),al (qtx (-x.min))] U8<|Pq U5 (fun e=>?_)
      first | refine PU (j:=0) U12 ?_ | refine PU (j:=1) U12 ?_
      exact Pd [1,2,5,6,8,9,10,19,20] d Z<|G.perm (L':=[.arr (.slice (some ⟨bz,0,none⟩) (s*p) (s*p)) 56 1 (s*p) (List.replicate (s*p) (al [48])),.obj e (.cells ⟨[.slice (some ⟨bz,0,none⟩) (s*p) (s*p),al (qtx (-x.min))]⟩ 123 (0,0)),.arr o 123 2 (ba s p c (i-1)++bh s p x i k).length (aN g (ba s p c (i-1)++bh s p x i k)).flatten]) (by first | exact LR _ | exact List.Perm.swap _ _ _)<|Pj 0 mup (hn_ [1,2,5,6,8,9,10,19,20] Z) ⟨bz,e,trivial,Z,Z⟩
     ·refine Pq U5 fun e=>D.call (fq _ s p om_) Z (.inr dc_) U6 (LR _) fl_ fun T U V _ E=>PH (fun _=>(dT _ x.min (zw M))) U9 ?_;obtain ⟨bz,rfl,rfl⟩:=E;refine PB [.slice (some ⟨bz,0,none⟩) (s*p:Nat) (s*p:Nat),al (qtx (-x.min))] U8 ?_
      first | refine PU (j:=0) U12 ?_ | refine PU (j:=1) U12 ?_
      exact Pd [1,2,5,6,8,9,10,19,20] d Z<|G.perm (L':=[.arr (.slice (some ⟨bz,0,none⟩) (s*p) (s*p)) 56 1 (s*p) (List.replicate (s*p) (al [48])),.obj e (.cells ⟨[.slice (some ⟨bz,0,none⟩) (s*p) (s*p),al (qtx (-x.min))]⟩ 123 (0,0)),.arr o 123 2 (ba s p c (i-1)++bh s p x i k).length (aN g (ba s p c (i-1)++bh s p x i k)).flatten]) (by first | exact LR _ | exact List.Perm.swap _ _ _)<|Pj 0 mup (hn_ [1,2,5,6,8,9,10,19,20] Z) ⟨bz,e,trivial,Z,Z⟩
    ·refine Pq U5 fun e=>PF B Z ⟨?_, ?_,trivial⟩
     ·refine D.call (fq _ s p om_) Z (.inr dc_) U6 (LR _) fl_ fun T U V _ E=>O8 S.m_ U8<|PH (fun _=>(dT _ x.min (zw M))) U9 ?_;obtain ⟨bz,rfl,rfl⟩:=E;refine PB [.slice (some ⟨bz,0,none⟩) (s*p:Nat) (s*p:Nat),al (qtx (-x.min))] U8 ?_
      first | refine PU (j:=0) U12 ?_ | refine PU (j:=1) U12 ?_
      exact Pd [1,2,5,6,8,9,10,19,20] d Z<|G.perm (L':=[.arr (.slice (some ⟨bz,0,none⟩) (s*p) (s*p)) 56 1 (s*p) (List.replicate (s*p) (al [48])),.obj e (.cells ⟨[.slice (some ⟨bz,0,none⟩) (s*p) (s*p),al (qtx (-x.min))]⟩ 123 (0,0)),.arr o 123 2 (ba s p c (i-1)++bh s p x i k).length (aN g (ba s p c (i-1)++bh s p x i k)).flatten]) (by first | exact LR _ | exact List.Perm.swap _ _ _)<|Pj 0 mup (hn_ [1,2,5,6,8,9,10,19,20] Z) ⟨bz,e,trivial,Z,Z⟩
     ·refine O8 S.m_ U8<|D.call (fq _ s p om_) Z (.inr dc_) U6 (LR _) fl_ fun T U V _ E=>PH (fun _=>(dT _ x.min (zw M))) U9 ?_;obtain ⟨bz,rfl,rfl⟩:=E;refine PB [.slice (some ⟨bz,0,none⟩) (s*p:Nat) (s*p:Nat),al (qtx (-x.min))] U8 ?_
      first | refine PU (j:=0) U12 ?_ | refine PU (j:=1) U12 ?_
      exact Pd [1,2,5,6,8,9,10,19,20] d Z<|G.perm (L':=[.arr (.slice (some ⟨bz,0,none⟩) (s*p) (s*p)) 56 1 (s*p) (List.replicate (s*p) (al [48])),.obj e (.cells ⟨[.slice (some ⟨bz,0,none⟩) (s*p) (s*p),al (qtx (-x.min))]⟩ 123 (0,0)),.arr o 123 2 (ba s p c (i-1)++bh s p x i k).length (aN g (ba s p c (i-1)++bh s p x i k)).flatten]) (by first | exact LR _ | exact List.Perm.swap _ _ _)<|Pj 0 mup (hn_ [1,2,5,6,8,9,10,19,20] Z) ⟨bz,e,trivial,Z,Z⟩
   obtain ⟨bz,e,_,rfl,rfl⟩:=z;refine G.cut (fun fr C' f t=>(True)/\fr=[(1,[],.slice F c.length c0),(2,[],.pointer (some ⟨H,0,none⟩)),(5,[],o),(6,[],.int .i64 i),(8,[],.int .i64 ((((i-1)*p+k:Nat)):Int)),(9,[],.int .i64 (((i*p+k:Nat)):Int)),(10,[],.pointer (some ⟨e,0,none⟩)),(19,[],.int .i64 p),(20,[],.int .i64 k)]/\f=[.arr (.slice (some ⟨bz,0,none⟩) (s*p) (s*p)) 56 1 (s*p) (jO (s*p) [(i*p+k, -1),((i-1)*p+k,1)]),.obj e (.cells ⟨[.slice (some ⟨bz,0,none⟩) (s*p) (s*p),al (qtx (-x.min))]⟩ 123 (0,0)),.arr o 123 2 (ba s p c (i-1)++bh s p x i k).length (aN g (ba s p c (i-1)++bh s p x i k)).flatten]) ?_ (fun fr a6 a7 t a8 z=>?_)
   ·refine PV (.cut [0,1,2,3,5,6] (.alt 4 (.fin [7,8,9]) (.alt 7 (.fin [4,8,9]) .stop))) [] Z Z kr_ fun R Q d B=>Pa U6<|Pe (.tail _ (.head _)) U9<|Pc 3 Z<|PG (((i-1)*p+k)) U10 (fun _=>⟨by omega,by omega,(NM _).symm⟩) U2<|PF B Z ⟨?_, ?_,trivial⟩
    ·refine Pe (.tail _ (.head _)) U9<|PJ (j:=0) U11 (by simp [];omega)<|PG ((i*p+k)) U10 (fun _=>⟨by omega,by omega,(NM _).symm⟩) U2<|PJ (j:=0) U11 (by simp [aA];omega)<|Pd [1,2,5,6,8,9,10,19,20] d Z<|Po (L':=[.arr (.slice (some ⟨bz,0,none⟩) (s*p) (s*p)) 56 1 (s*p) (jO (s*p) [(i*p+k, -1),((i-1)*p+k,1)]),.obj e (.cells ⟨[.slice (some ⟨bz,0,none⟩) (s*p) (s*p),al (qtx (-x.min))]⟩ 123 (0,0)),.arr o 123 2 (ba s p c (i-1)++bh s p x i k).length (aN g (ba s p c (i-1)++bh s p x i k)).flatten]) (by
      first
      | (rw [<- st2 (n:=s*p) 1 (-1) om_ om_,dp,cJ];rfl)
      | (rw [<- KZ (n:=s*p) 1 (-1) om_ om_ om_,dp,cJ];rfl)) ?_
     exact Pj 0 (Mem.le.refl _) (hn_ [1,2,5,6,8,9,10,19,20] Z) ⟨trivial,Z,Z⟩
    ·refine PJ (j:=0) U11 (by simp [];omega)<|Pe (.tail _ (.head _)) U9<|PG ((i*p+k)) U10 (fun _=>⟨by omega,by omega,(NM _).symm⟩) U2<|PJ (j:=0) U11 (by simp [aA];omega)<|Pd [1,2,5,6,8,9,10,19,20] d Z<|Po (L':=[.arr (.slice (some ⟨bz,0,none⟩) (s*p) (s*p)) 56 1 (s*p) (jO (s*p) [(i*p+k, -1),((i-1)*p+k,1)]),.obj e (.cells ⟨[.slice (some ⟨bz,0,none⟩) (s*p) (s*p),al (qtx (-x.min))]⟩ 123 (0,0)),.arr o 123 2 (ba s p c (i-1)++bh s p x i k).length (aN g (ba s p c (i-1)++bh s p x i k)).flatten]) (by
      first
      | (rw [<- st2 (n:=s*p) 1 (-1) om_ om_,dp,cJ];rfl)
      | (rw [<- KZ (n:=s*p) 1 (-1) om_ om_ om_,dp,cJ];rfl)) ?_
     exact Pj 0 (Mem.le.refl _) (hn_ [1,2,5,6,8,9,10,19,20] Z) ⟨trivial,Z,Z⟩
   obtain ⟨_,rfl,rfl⟩:=z;refine G.freezeArr 0 ((sY (s*p) [(i*p+k, -1),((i-1)*p+k,1)]).map fH) rfl (iA _ _) (by intro r hr;obtain ⟨y,_,rfl⟩:=L4.1 hr;rfl) (by simp [iN]) (fun Cz hz an=>?_);have ao:=X.1;have aa:=RowsOk.snoc (r:=qi s p x i k) X.m_ an;have ap:=eL ao (.slice (some ⟨bz,0,none⟩) (s*p) (s*p)) (qi s p x i k);refine O7 1 Z fun R d=>Pe (.head _) U9<|Ps [[.slice (some ⟨bz,0,none⟩) (s*p:Nat) (s*p:Nat),al (qtx (-x.min))]] U12 fun a9 _ _ aq=>D.append (j:=1) U11 aq Z (by simp only [aE,maxLen];omega) (by simp only [aE];omega) fl_ fun A=>C4 1 [1,2,5,6,8,9,10,19,20] d Z<|Po (L':=[.arr A 123 2 (ba s p c (i-1)++bh s p x i k++[qi s p x i k]).length (aN (g++[.slice (some ⟨bz,0,none⟩) (s*p) (s*p)]) (ba s p c (i-1)++bh s p x i k++[qi s p x i k])).flatten,.obj e (.cells ⟨[.slice (some ⟨bz,0,none⟩) (s*p) (s*p),al (qtx (-x.min))]⟩ 123 (0,0))]) (by rw [ap];simp [qi];omega)<|O7 2 Z fun R d=>Pm J.m_ U10 om_ (ce L) fl_ fun bb ar=>Ql ar U10 fl_ fun bc au=>O8 au U8<|C4 1 [1,2,5,6,8,9,10,19,20,58] d Z<|O9 (fun I=>?_) fun I=>?_
   ·obtain ⟨m,hm⟩:∃ m,x.max=some m:=by
     rw [nS] at I;exact Ov.1 I
    have N:lE s p x i k=[qi s p x i k,DC s p m i k]:=by unfold lE;rw [hm]
    have av:ue x.max=qtx m:=by rw [hm];rfl
    refine G.cut (fun fr C' f t=>∃ (h:Nat),(True)/\fr=[(1,[],.slice F c.length c0),(2,[],.pointer (some ⟨H,0,none⟩)),(5,[],A),(6,[],.int .i64 i),(8,[],.int .i64 ((((i-1)*p+k:Nat)):Int)),(9,[],.int .i64 (((i*p+k:Nat)):Int)),(10,[],.pointer (some ⟨e,0,none⟩)),(19,[],.int .i64 p),(20,[],.int .i64 k)]/\f=[.arr (.slice (some ⟨h,0,none⟩) (s*p) (s*p)) 56 1 (s*p) (List.replicate (s*p) (al [48])),.obj e (.cells ⟨[.slice (some ⟨h,0,none⟩) (s*p) (s*p),al (ue x.max)]⟩ 123 (0,0)),.arr A 123 2 (ba s p c (i-1)++bh s p x i k++[qi s p x i k]).length (aN (g++[.slice (some ⟨bz,0,none⟩) (s*p) (s*p)]) (ba s p c (i-1)++bh s p x i k++[qi s p x i k])).flatten]) ?_ (fun fr bd be t bf z=>?_)
    ·refine PV (.cut [0,2,3,4,5] (.alt 1 (.fin [6,7,8]) (.alt 6 (.fin [1,7,8]) .stop))) [(1,3)] Z Z kr_ fun R Q d B=>O8 (bkT K 2) U8<|Pc 2 Z<|Pm J.m_ U10 om_ (ce L) fl_ fun bg aw=>Ql aw U10 fl_ fun bi af=>PF B Z ⟨?_, ?_,trivial⟩
     ·refine D.call (fq _ s p om_) Z (.inr dc_) U6 (LR _) fl_ fun ay az aB _ ab=>O8 af.m_ U8 ?_;obtain ⟨h,rfl,rfl⟩:=ab;refine PB [.slice (some ⟨h,0,none⟩) (s*p:Nat) (s*p:Nat),al (ue x.max)] U8 ?_
      first | refine PU (j:=2) U12 ?_ | refine PU (j:=1) U12 ?_
      exact Pd [1,2,5,6,8,9,10,19,20] d Z<|G.perm (L':=[.arr (.slice (some ⟨h,0,none⟩) (s*p) (s*p)) 56 1 (s*p) (List.replicate (s*p) (al [48])),.obj e (.cells ⟨[.slice (some ⟨h,0,none⟩) (s*p) (s*p),al (ue x.max)]⟩ 123 (0,0)),.arr A 123 2 (ba s p c (i-1)++bh s p x i k++[qi s p x i k]).length (aN (g++[.slice (some ⟨bz,0,none⟩) (s*p) (s*p)]) (ba s p c (i-1)++bh s p x i k++[qi s p x i k])).flatten]) (by first | exact LR _ | exact List.Perm.swap _ _ _)<|Pj 0 mup (hn_ [1,2,5,6,8,9,10,19,20] Z) ⟨h,trivial,Z,Z⟩
     ·refine O8 af.m_ U8<|D.call (fq _ s p om_) Z (.inr dc_) U6 (LR _) fl_ (fun ay az aB _ ab=>?_);obtain ⟨h,rfl,rfl⟩:=ab;refine PB [.slice (some ⟨h,0,none⟩) (s*p:Nat) (s*p:Nat),al (ue x.max)] U8 ?_
      first | refine PU (j:=2) U12 ?_ | refine PU (j:=1) U12 ?_
      exact Pd [1,2,5,6,8,9,10,19,20] d Z<|G.perm (L':=[.arr (.slice (some ⟨h,0,none⟩) (s*p) (s*p)) 56 1 (s*p) (List.replicate (s*p) (al [48])),.obj e (.cells ⟨[.slice (some ⟨h,0,none⟩) (s*p) (s*p),al (ue x.max)]⟩ 123 (0,0)),.arr A 123 2 (ba s p c (i-1)++bh s p x i k++[qi s p x i k]).length (aN (g++[.slice (some ⟨bz,0,none⟩) (s*p) (s*p)]) (ba s p c (i-1)++bh s p x i k++[qi s p x i k])).flatten]) (by first | exact LR _ | exact List.Perm.swap _ _ _)<|Pj 0 mup (hn_ [1,2,5,6,8,9,10,19,20] Z) ⟨h,trivial,Z,Z⟩
    obtain ⟨h,_,rfl,rfl⟩:=z;refine G.cut (fun fr C' f t=>(True)/\fr=[(1,[],.slice F c.length c0),(2,[],.pointer (some ⟨H,0,none⟩)),(5,[],A),(6,[],.int .i64 i),(10,[],.pointer (some ⟨e,0,none⟩)),(19,[],.int .i64 p),(20,[],.int .i64 k)]/\f=[.arr (.slice (some ⟨h,0,none⟩) (s*p) (s*p)) 56 1 (s*p) (jO (s*p) [(i*p+k,1),((i-1)*p+k, -1)]),.obj e (.cells ⟨[.slice (some ⟨h,0,none⟩) (s*p) (s*p),al (ue x.max)]⟩ 123 (0,0)),.arr A 123 2 (ba s p c (i-1)++bh s p x i k++[qi s p x i k]).length (aN (g++[.slice (some ⟨bz,0,none⟩) (s*p) (s*p)]) (ba s p c (i-1)++bh s p x i k++[qi s p x i k])).flatten]) ?_ (fun fr bj bk t bl z=>?_)
    ·refine PV (.cut [0,1,2,3,5,6] (.alt 4 (.fin [7,8,9]) (.alt 7 (.fin [4,8,9]) .stop))) [] Z Z kr_ fun R Q d B=>Pa U6<|Pe (.tail _ (.head _)) U9<|Pc 3 Z<|PG (((i-1)*p+k)) U10 (fun _=>⟨by omega,by omega,(NM _).symm⟩) U2<|PF B Z ⟨?_, ?_,trivial⟩
     ·refine Pe (.tail _ (.head _)) U9<|PJ (j:=0) U11 (by simp [];omega)<|PG ((i*p+k)) U10 (fun _=>⟨by omega,by omega,(NM _).symm⟩) U2<|PJ (j:=0) U11 (by simp [aA];omega)<|Pd [1,2,5,6,10,19,20] d Z<|Po (L':=[.arr (.slice (some ⟨h,0,none⟩) (s*p) (s*p)) 56 1 (s*p) (jO (s*p) [(i*p+k,1),((i-1)*p+k, -1)]),.obj e (.cells ⟨[.slice (some ⟨h,0,none⟩) (s*p) (s*p),al (ue x.max)]⟩ 123 (0,0)),.arr A 123 2 (ba s p c (i-1)++bh s p x i k++[qi s p x i k]).length (aN (g++[.slice (some ⟨bz,0,none⟩) (s*p) (s*p)]) (ba s p c (i-1)++bh s p x i k++[qi s p x i k])).flatten]) (by
       first
       | (rw [<- st2 (n:=s*p) (-1) 1 om_ om_,dp,cJ];rfl)
       | (rw [<- KZ (n:=s*p) (-1) 1 om_ om_ om_,dp,cJ];rfl)) ?_
      exact Pj 0 (Mem.le.refl _) (hn_ [1,2,5,6,10,19,20] Z) ⟨trivial,Z,Z⟩
     ·refine PJ (j:=0) U11 (by simp [];omega)<|Pe (.tail _ (.head _)) U9<|PG ((i*p+k)) U10 (fun _=>⟨by omega,by omega,(NM _).symm⟩) U2<|PJ (j:=0) U11 (by simp [aA];omega)<|Pd [1,2,5,6,10,19,20] d Z<|Po (L':=[.arr (.slice (some ⟨h,0,none⟩) (s*p) (s*p)) 56 1 (s*p) (jO (s*p) [(i*p+k,1),((i-1)*p+k, -1)]),.obj e (.cells ⟨[.slice (some ⟨h,0,none⟩) (s*p) (s*p),al (ue x.max)]⟩ 123 (0,0)),.arr A 123 2 (ba s p c (i-1)++bh s p x i k++[qi s p x i k]).length (aN (g++[.slice (some ⟨bz,0,none⟩) (s*p) (s*p)]) (ba s p c (i-1)++bh s p x i k++[qi s p x i k])).flatten]) (by
       first
       | (rw [<- st2 (n:=s*p) (-1) 1 om_ om_,dp,cJ];rfl)
       | (rw [<- KZ (n:=s*p) (-1) 1 om_ om_ om_,dp,cJ];rfl)) ?_
      exact Pj 0 (Mem.le.refl _) (hn_ [1,2,5,6,10,19,20] Z) ⟨trivial,Z,Z⟩
    obtain ⟨_,rfl,rfl⟩:=z;refine G.freezeArr 0 ((sY (s*p) [(i*p+k,1),((i-1)*p+k, -1)]).map fH) rfl (iA _ _) (by intro r hr;obtain ⟨y,_,rfl⟩:=L4.1 hr;rfl) (by simp [iN]) (fun bm bn aC=>?_);have aD:=RowsOk.snoc (r:=DC s p m i k) aa.m_ aC;have aF:=eL aa.1 (.slice (some ⟨h,0,none⟩) (s*p) (s*p)) (DC s p m i k);refine O7 1 Z fun R d=>Pe (.head _) U9<|Ps [[.slice (some ⟨h,0,none⟩) (s*p:Nat) (s*p:Nat),al (ue x.max)]] U12 fun bo _ _ aG=>D.append (j:=1) U11 aG Z (by simp only [LZ,aE,maxLen] at ae ⊢;omega) (by simp only [LZ,aE] at ae ⊢;omega) fl_ fun ag=>C4 1 [1,2,5,6,19,20] d Z<|Pb fun R d=>Pi _ U7<|C4 1 [1,2,5,6,19,20] d Z<|PQ 1 Z<|Po (L':=[.arr ag 123 2 (ba s p c (i-1)++bh s p x i (k+1)).length (aN (g++[.slice (some ⟨bz,0,none⟩) (s*p) (s*p)]++[.slice (some ⟨h,0,none⟩) (s*p) (s*p)]) (ba s p c (i-1)++bh s p x i (k+1))).flatten]) (by
     rw [bh,N,<- Mo,show ∀ (l:List RowQ)(a b:RowQ),l++[a,b]=l++[a]++[b] from fun l a b=>by simp,aF,av];simp [DC];omega) ?_
    refine Pk (m':=p-(k+1)) om_ mup (hn_ [1,2,5,6,19,20] Z) ⟨k+1,_,ag,⟨by omega,by
     rw [bh,N,<- Mo,show ∀ (l:List RowQ)(a b:RowQ),l++[a,b]=l++[a]++[b] from fun l a b=>by simp];exact aD.mono mup⟩,Z,Z,Z⟩
   ·have hm:x.max=none:=by
     rw [nS] at I;cases aH:x.max with
     | none=>rfl
     | some q=>rw [aH] at I;cases I
    have N:lE s p x i k=[qi s p x i k]:=by unfold lE;rw [hm]
    refine Pb fun R d=>Pi _ U7<|C4 1 [1,2,5,6,19,20] d Z<|PQ 1 Z<|Po (L':=[.arr A 123 2 (ba s p c (i-1)++bh s p x i (k+1)).length (aN (g++[.slice (some ⟨bz,0,none⟩) (s*p) (s*p)]) (ba s p c (i-1)++bh s p x i (k+1))).flatten]) (by rw [bh,N,<- Mo];rfl)<|Pk (m':=p-(k+1)) om_ mup (hn_ [1,2,5,6,19,20] Z) ⟨k+1,_,A,⟨by omega,by
     rw [bh,N,<- Mo];exact aa.mono mup⟩,Z,Z,Z⟩
  ·have ad:k=p:=by
    have:¬ k<p:=by simpa using Y
    omega
   have ah:ba s p c (i-1)++bh s p x i k=ba s p c i:=by
    obtain ⟨j,rfl⟩:∃ j,i=j+1:=⟨i-1,by omega⟩;rw [ad,N7,ba,Hx L]
   refine O7 1 Z fun R d=>Pi _ U7<|C4 1 [1,2,5,6] d Z<|Po (L':=[.arr o 123 2 (ba s p c (i+1-1)).length (aN g (ba s p c (i+1-1))).flatten]) (by rw [ah];rfl)<|Pk (m':=c.length-(i+1)) om_ mup (hn_ [1,2,5,6] Z) ⟨i+1,g,o,⟨by omega,.inl om_,by rw [N7,<- ah];exact X⟩,Z,Z,Z⟩
 ·have ac:i-1=c.length-2:=by
   have:=LS W;omega
  refine C6 2 [4] Z ?_;rw [ac] at O ⊢;exact G.freezeArr 0 (aN vs (ba s p c (c.length-2))) Z Z (ik _ _) (dF O.1) fun Cg hg aI=>Pf U2<|⟨Z,vs,O.mono mup,aI⟩
theorem iX {l:List (Nat × Rat)}(q:Rat)(h:k ∉ l.map (·.1)):fp (dN l) ((k:Nat):Int) (al (qtx q))=dN (l++[(k,q)]):=by
 rw [iS (by
  rw [bZ];unfold dN;rw [ME];intro hm;obtain ⟨x,a,b⟩:=L4.1 hm;have:x.1=k:=by
   have h2:((x.1:Nat):Int)=(k:Int):=b;omega
  exact h (this ▸ NV (f:=(·.1)) a))]
 simp [dN]
theorem oR (a c:Pt):fh a a c=0/\fh c a a=0/\fh a c a=0:=by
 unfold fh;refine ⟨?_, ?_, ?_⟩ <;> grind
theorem rr {a:List Pt}{b:List Tri}(c:MeshOk a b)(d:t∈b):t.1≠t.2.1/\t.1≠t.2.2/\t.2.1≠t.2.2:=by
 have h:=mC c d;refine ⟨fun e=>h ?_,fun e=>h ?_,fun e=>h ?_⟩
 ·have:cor a t 1=cor a t 0:=by show a.getD t.2.1 _=a.getD t.1 _;rw [e]
  rw [this];exact (oR _ _).1
 ·have:cor a t 2=cor a t 0:=by show a.getD t.2.2 _=a.getD t.1 _;rw [e]
  rw [this];exact (oR _ _).2.2
 ·have:cor a t 2=cor a t 1:=by show a.getD t.2.2 _=a.getD t.2.1 _;rw [e]
  rw [this];exact (oR _ _).2.1
def atT (t:Tri)(f:Nat->Rat):List (Nat × Rat):=[(t.1,f 0),(t.2.1,f 1),(t.2.2,f 2)]
theorem oO (f:Nat->Rat)(h:t.1≠t.2.1/\t.1≠t.2.2/\t.2.1≠t.2.2):((atT t f).map (·.1)).Nodup:=by
 simp [atT,h.1,h.2.1,h.2.2]
theorem AC (C:Mem)(w:Tabs C)(x:Value)(c:List Pt)(e:List Tri)(p:Pt)(i:Nat)(r:List Nat)(t:Tri)(y:MeshIn C x c e)(k:Good c e)(z:QP 23 p)(A:PtR p)(K:rY c e p=i::r)(g:e[i]?=some t)(L:∀ j,QB 22 (wgt c t p j)) :
  Pur cx.P 192 [x,ptV p] C fun u D=>∃ b,u=.tuple #[.map (some b),.int .i64 (i:Nat),.int .i64 0]/\D b=some (aM keyZ.enc (dN (atT t (wgt c t p)))):=by
 have M:=k.ok;have n:=y;have ad:=(aX.1 g).1;obtain ⟨N,O,Q⟩:=rr M (LQ g);obtain ⟨v1,v2,rfl,h1,h2⟩:=id y.ex;obtain ⟨A2,c2,rfl,S,ae,_⟩:=id h2;have af:maxLen<=9223372036854775807:=by simp [maxLen]
 simp only [ax] at h2 n S ⊢;refine Ph func192 54 U3 fun w0=>Pb fun R a=>Pr U6 fun b2=>Pr U6 fun b3=>C4 3 [2,3] a Z<|G.freeze 1 Z fun _ _ o=>G.freeze 0 Z fun _ _ B=>Pb fun R a=>O8 (bkT o 2) U8<|O8 (bkT B 2) U8<|PK (od _ w.m_ _ c e p n.m_ k z A) U7 (fun ag _ _ T=>?_);obtain ⟨wv,rfl,f⟩:=T;rw [K] at f;obtain ⟨U,V,E,_⟩:=id f;rw [ax] at E;subst E;refine C4 5 [2,3,6,7] a Z<|C6 2 [2,3,6,7,18] Z<|O9 (fun F=>?_) fun F=>?_
 ·exact absurd F dc_
 ·refine Pv [0,1,2,3,4,5,6,7,8,9,10,11] [(5,1)] Z kr_ fun R H a=>O8 (bkT o 2) U8<|Pa U6<|Pm f.m_ U10 om_ (rfl:(List.map aU (i::r))[0]?=some (aU i)) fl_ fun ah W=>O8 W U8<|O8 (bkT B 2) U8<|PH (fun _=>(BM _ w.m_ _ c e p i t n.m_ k z A g L)) U9<|Pc 3 Z<|Pq U5 fun X=>Pg (j:=0) U12<|C4 1 [2,6,7,8] a Z<|C6 2 [2,6,7,8,30] Z<|O9 (fun I=>?_) fun I=>?_
  ·exact absurd I dc_
  ·refine G.freeze 0 Z fun _ _ q=>Pb fun R a=>D.makeMap keyZ Z Z Z Z fl_ fun d=>C4 1 [2,4,7,8] a Z<|Pv [0,1,2,3,4,5,6,7] [] Z kr_ fun R H a=>Pa U6<|O8 (bkT o 1) U8<|Pa U6<|Pm f.m_ U10 om_ (rfl:(List.map aU (i::r))[0]?=some (aU i)) fl_ fun ai Y=>O8 Y U8<|Pm h2.m_ U10 om_ (ce g) fl_ fun aj aa=>O8 aa U8<|C4 1 [4,7,8,39,40] a Z<|G.loop (fun fr C' h μ=>∃ (j:Nat),(j<=3)/\fr=[(4,[],.map (some d)),(7,[],.slice U (i::r).length V),(8,[],.pointer (some ⟨X,0,none⟩)),(39,[],.agg ⟨jI t⟩),(40,[],.int .i64 j)]/\h=[.obj d (aM keyZ.enc (dN ((atT t (wgt c t p)).take j)))]/\μ=3-j) (hn_ [4,7,8,39,40] Z) ⟨0,LV _,Z,Z,Z⟩ (fun fr ak al m s hI=>?_);obtain ⟨j,hj,rfl,rfl,rfl⟩:=hI;refine C6 1 [4,7,8,39,40,41] Z<|O9 (fun v=>?_) fun v=>?_
   ·have J:j<3:=by
     simp only [LY] at v;omega
    rcases (by omega:j=0∨j=1∨j=2) with rfl | rfl | rfl
    ·refine O7 1 Z fun R a=>PZ U11 (fun _=>⟨by decide,by decide,Z⟩) U2<|C4 2 [4,7,8,9,10,39,40] a Z<|O7 3 Z fun R a=>Py (_) U9 (fun _=>⟨by decide,by decide,Z⟩) U2<|O8 (bkT q 1) U8<|D.mapUpdate keyZ (j:=0) Z Z Z Z Z Z Z Z Z Z kr_<|Pd [4,7,8,39,40] a Z<|Pb fun R a=>Pi _ U7<|C4 1 [4,7,8,39,40] a Z<|Po (L':=[.obj d (aM keyZ.enc (dN ((atT t (wgt c t p)).take 1)))]) (congrArg (fun m=>[Ent.obj d (aM keyZ.enc m)]) (iX (l:=[]) _ (by simp)))<|Pk (m':=2) om_ s (hn_ [4,7,8,39,40] Z) ⟨1,by decide,Z,Z,Z⟩
    ·refine O7 1 Z fun R a=>PZ U11 (fun _=>⟨by decide,by decide,Z⟩) U2<|C4 2 [4,7,8,9,10,39,40] a Z<|O7 3 Z fun R a=>Py (_) U9 (fun _=>⟨by decide,by decide,Z⟩) U2<|O8 (bkT q 1) U8<|D.mapUpdate keyZ (j:=0) Z Z Z Z Z Z Z Z Z Z kr_<|Pd [4,7,8,39,40] a Z<|Pb fun R a=>Pi _ U7<|C4 1 [4,7,8,39,40] a Z<|Po (L':=[.obj d (aM keyZ.enc (dN ((atT t (wgt c t p)).take 2)))]) (congrArg (fun m=>[Ent.obj d (aM keyZ.enc m)]) (iX (l:=[(t.1,wgt c t p 0)]) _ (by simpa using N.symm)))<|Pk (m':=1) om_ s (hn_ [4,7,8,39,40] Z) ⟨2,by decide,Z,Z,Z⟩
    ·refine O7 1 Z fun R a=>PZ U11 (fun _=>⟨by decide,by decide,Z⟩) U2<|C4 2 [4,7,8,9,10,39,40] a Z<|O7 3 Z fun R a=>Py (_) U9 (fun _=>⟨by decide,by decide,Z⟩) U2<|O8 (bkT q 1) U8<|D.mapUpdate keyZ (j:=0) Z Z Z Z Z Z Z Z Z Z kr_<|Pd [4,7,8,39,40] a Z<|Pb fun R a=>Pi _ U7<|C4 1 [4,7,8,39,40] a Z<|Po (L':=[.obj d (aM keyZ.enc (dN ((atT t (wgt c t p)).take 3)))]) (congrArg (fun m=>[Ent.obj d (aM keyZ.enc m)]) (iX (l:=[(t.1,wgt c t p 0),(t.2.1,wgt c t p 1)]) _ (by simp [O.symm,Q.symm])))<|Pk (m':=0) om_ s (hn_ [4,7,8,39,40] Z) ⟨3,by decide,Z,Z,Z⟩
   ·have J:j=3:=by
     simp only [Mf] at v;omega
    subst J;refine G.freeze 0 Z fun Cm am ab=>Pv [0,1,2,3,4,5,6] [] Z kr_ fun R H a=>Pc 2 Z<|Pm f.m_ U10 om_ (rfl:(List.map aU (i::r))[0]?=some (aU i)) fl_ fun an ac=>O8 ac U8<|C4 3 [4,5,6] a Z<|Pl (G.dropAll (P1 U4 ?_));exact ⟨Z,d,Z,ab⟩
theorem cS (t:Tri)(f:Nat->Rat)(j:Nat)(a:j<3)(h:t.1≠t.2.1/\t.1≠t.2.2/\t.2.1≠t.2.2):fp (dN ((atT t f).take j)) ((kR t j:Nat):Int) (al (qtx (f j)))=dN ((atT t f).take (j+1)):=by
 rcases (by omega:j=0∨j=1∨j=2) with rfl | rfl | rfl
 ·exact iX (l:=[]) _ (by simp)
 ·exact iX (l:=[(t.1,f 0)]) (k:=t.2.1) _ (by simpa using h.1.symm)
 ·exact iX (l:=[(t.1,f 0),(t.2.1,f 1)]) (k:=t.2.2) _ (by simp [h.2.1.symm,h.2.2.symm])
def mV (n k:Nat):List Rat:=sY n [(k,1)]
def slf (pts:List Pt)(t:Tri)(j:Nat):Pt:=dH pts (mV pts.length (kR t j)) t
theorem fK (n k:Nat):(mV n k).length=n:=iN n _
theorem EU :∀ q∈mV n k,q=0∨q=1:=by
 intro q a;unfold mV sY at a;obtain ⟨j,_,rfl⟩:=L4.1 a;simp only [cV];split
 ·exact .inr Z
 ·exact .inl Z
theorem iJ :∀ q∈mV n k,QB 1 q:=by
 intro q a;rcases EU q a with rfl | rfl
 ·exact QB_zero
 ·exact QB_one
theorem Am (C:Mem)(J:Tabs C)(N:Value)(a:List Pt)(s:List Tri)(i:Nat)(t:Tri)(O:MeshIn C N a s)(E:Good a s)(l:s[i]?=some t)(K:∀ j,QP 22 (slf a t j)) :
  Pur cx.P 198 [N,.int .i64 i] C fun u D=>∃ Q S,u=.tuple #[.map (some Q),.map (some S),.int .i64 0]/\D Q=some (aM keyZ.enc (dN (atT t fun j=>(slf a t j).1)))/\D S=some (aM keyZ.enc (dN (atT t fun j=>(slf a t j).2))):=by
 have L:=E.ok;have F:=O;have aj:=L.lp;have H:=L.ins t (LQ l);obtain ⟨ak,am,an⟩:=id H;have ao:=(aX.1 l).1;obtain ⟨f,g,h⟩:=rr L (LQ l);obtain ⟨v1,v2,rfl,h1,h2⟩:=id O.ex;obtain ⟨A1,c1,rfl,ap,aq,_⟩:=id h1;obtain ⟨A2,c2,rfl,af,ar,_⟩:=id h2;have au:maxLen<=9223372036854775807:=by simp [maxLen]
 simp only [ax] at h1 h2 F af ⊢;refine Ph func198 51 U3 fun w0=>Pb fun R b=>Pr U6 fun I=>C4 3 [1,2] b Z<|G.freeze 0 Z fun _ _ n=>Pb fun R b=>D.makeMap keyZ Z Z Z Z fl_ fun c=>D.makeMap keyZ Z Z Z Z fl_ fun d=>C4 2 [1,2,4,5] b Z<|O7 1 Z fun R b=>O8 (bkT n 1) U8<|Pa U6<|Pm h2.m_ U10 om_ (ce l) fl_ fun av ag=>O8 ag U8<|C4 1 [1,2,4,5,18,19] b Z<|G.perm (L':=[.obj c (aM keyZ.enc (dN [])),.obj d (aM keyZ.enc (dN []))]) (List.Perm.swap _ _ _)<|G.loop (fun fr C' e o=>∃ (j:Nat),(j<=3)/\fr=[(1,[],.int .i64 i),(2,[],.pointer (some ⟨I,0,none⟩)),(4,[],.map (some c)),(5,[],.map (some d)),(18,[],.agg ⟨jI t⟩),(19,[],.int .i64 j)]/\e=[.obj c (aM keyZ.enc (dN ((atT t fun j=>(slf a t j).1).take j))),.obj d (aM keyZ.enc (dN ((atT t fun j=>(slf a t j).2).take j)))]/\o=3-j) (hn_ [1,2,4,5,18,19] Z) ⟨0,LV _,Z,Z,Z⟩ (fun fr aw ay m _ p=>?_);obtain ⟨j,hj,rfl,rfl,rfl⟩:=p;refine C6 1 [1,2,4,5,18,19,20] Z<|O9 (fun M=>?_) fun M=>?_
 ·have T:j<3:=by
   simp only [LY] at M;omega
  rcases (by omega:j=0∨j=1∨j=2) with rfl | rfl | rfl
  ·refine Pb fun R b=>PZ U11 (fun _=>⟨by decide,by decide,Z⟩) U2<|C4 1 [1,2,4,5,8,18,19] b Z<|Px [(4,3)] Z fun R b=>Ps [[al [48]]] U12 fun U V _ v=>Pa U6<|O8 (bkT n 1) U8<|Pa U6<|D.call (kW _ _ a.length [48] v.m_ om_) Z (.inr dc_) U6 (LR _) fl_ fun W X Y _ w=>C4 1 [1,2,4,5,8,9,18,19] b Z ?_;obtain ⟨bz,rfl,rfl⟩:=w;have x:kR t 0<a.length:=eC H 0;refine Po (L':=[.arr (.slice (some ⟨bz,0,none⟩) a.length a.length) 56 1 a.length (jO a.length []),.obj c (aM keyZ.enc (dN ((atT t fun j=>(slf a t j).1).take 0))),.obj d (aM keyZ.enc (dN ((atT t fun j=>(slf a t j).2).take 0)))]) (by rw [kA];rfl)<|O7 2 Z fun R b=>PG ((kR t 0)) U10 (fun _=>⟨by omega,by omega,(NM _).symm⟩) U2<|PJ (j:=0) U11 (by rw [kB];simp;omega)<|Pd [1,2,4,5,8,9,18,19] b Z<|Po (L':=[.arr (.slice (some ⟨bz,0,none⟩) a.length a.length) 56 1 a.length (jO a.length [(kR t 0,1)]),.obj c (aM keyZ.enc (dN ((atT t fun j=>(slf a t j).1).take 0))),.obj d (aM keyZ.enc (dN ((atT t fun j=>(slf a t j).2).take 0)))]) (by rw [<- eP [] 1 x,dp];rfl)<|G.freezeArr 0 ((mV a.length (kR t 0)).map fH) rfl (iA _ _) (by intro r hr;obtain ⟨y,_,rfl⟩:=L4.1 hr;rfl) (by rw [ax,fK]) fun Cz hz z=>Pb fun R b=>O8 (bkT n 2) U8<|Pc 2 Z<|Pp (ry _ J.m_ _ _ a s (mV a.length (kR t 0)) 1 dc_ dc_ F.m_ E z.m_ (fK _ _) iJ (fun q A=>bx ((iJ q A).le dc_)) i t l (K 0)) U7 fl_<|Pc 3 Z<|Pq U5 fun aa=>Pg (j:=0) U12<|C4 1 [1,2,4,5,8,10,11,18,19] b Z<|C6 2 [1,2,4,5,8,10,11,18,19,38] Z<|O9 (fun ab=>?_) fun ab=>?_
   ·exact absurd ab dc_
   ·refine G.freeze 0 Z fun ac _ k=>G.cut (fun fr C' e o=>(True)/\fr=[(1,[],.int .i64 i),(2,[],.pointer (some ⟨I,0,none⟩)),(4,[],.map (some c)),(5,[],.map (some d)),(18,[],.agg ⟨jI t⟩),(19,[],.int .i64 ((0:Nat):Int))]/\e=[.obj c (aM keyZ.enc (dN ((atT t fun j=>(slf a t j).1).take (0+1)))),.obj d (aM keyZ.enc (dN ((atT t fun j=>(slf a t j).2).take (0+1))))]) ?_ (fun fr az aA o aB p=>?_)
    ·refine PV (.cut [0,1,2,3,4,5,6] (.alt 7 (.fin [8,9]) (.alt 8 (.fin [7,9]) .stop))) [] Z Z kr_ fun R hB b B=>Pc 5 Z<|O8 (bkT k 1) U8<|Pa U6<|PF B Z ⟨?_, ?_,trivial⟩
     ·refine O8 (bkT k 1) U8 ?_
      first | refine D.mapUpdate keyZ (j:=0) rfl rfl rfl rfl rfl rfl rfl rfl rfl rfl kr_ ?_ | refine D.mapUpdate keyZ (j:=1) rfl rfl rfl rfl rfl rfl rfl rfl rfl rfl kr_ ?_
      first | refine D.mapUpdate keyZ (j:=1) rfl rfl rfl rfl rfl rfl rfl rfl rfl rfl kr_ ?_ | refine D.mapUpdate keyZ (j:=0) rfl rfl rfl rfl rfl rfl rfl rfl rfl rfl kr_ ?_
      refine Pd [1,2,4,5,18,19] b Z<|G.perm (L':=[.obj c (aM keyZ.enc (dN ((atT t fun j=>(slf a t j).1).take (0+1)))),.obj d (aM keyZ.enc (dN ((atT t fun j=>(slf a t j).2).take (0+1))))]) (by
       rw [<- cS t (fun j=>(slf a t j).1) 0 dc_ ⟨f,g,h⟩,<- cS t (fun j=>(slf a t j).2) 0 dc_ ⟨f,g,h⟩]
       first | exact LR _ | exact List.Perm.swap _ _ _) ?_
      exact Pj 0 (Mem.le.refl _) (hn_ [1,2,4,5,18,19] Z) ⟨trivial,Z,Z⟩
     ·first | refine D.mapUpdate keyZ (j:=0) rfl rfl rfl rfl rfl rfl rfl rfl rfl rfl kr_ ?_ | refine D.mapUpdate keyZ (j:=1) rfl rfl rfl rfl rfl rfl rfl rfl rfl rfl kr_ ?_
      refine O8 (bkT k 1) U8 ?_
      first | refine D.mapUpdate keyZ (j:=1) rfl rfl rfl rfl rfl rfl rfl rfl rfl rfl kr_ ?_ | refine D.mapUpdate keyZ (j:=0) rfl rfl rfl rfl rfl rfl rfl rfl rfl rfl kr_ ?_
      refine Pd [1,2,4,5,18,19] b Z<|G.perm (L':=[.obj c (aM keyZ.enc (dN ((atT t fun j=>(slf a t j).1).take (0+1)))),.obj d (aM keyZ.enc (dN ((atT t fun j=>(slf a t j).2).take (0+1))))]) (by
       rw [<- cS t (fun j=>(slf a t j).1) 0 dc_ ⟨f,g,h⟩,<- cS t (fun j=>(slf a t j).2) 0 dc_ ⟨f,g,h⟩]
       first | exact LR _ | exact List.Perm.swap _ _ _) ?_
      exact Pj 0 (Mem.le.refl _) (hn_ [1,2,4,5,18,19] Z) ⟨trivial,Z,Z⟩
    obtain ⟨_,rfl,rfl⟩:=p;refine Pb fun R b=>Pi _ U7<|C4 1 [1,2,4,5,18,19] b Z<|Pk (m':=2) om_ mup (hn_ [1,2,4,5,18,19] Z) ⟨1,by decide,Z,Z,Z⟩
  ·refine Pb fun R b=>PZ U11 (fun _=>⟨by decide,by decide,Z⟩) U2<|C4 1 [1,2,4,5,8,18,19] b Z<|Px [(4,3)] Z fun R b=>Ps [[al [48]]] U12 fun U V _ v=>Pa U6<|O8 (bkT n 1) U8<|Pa U6<|D.call (kW _ _ a.length [48] v.m_ om_) Z (.inr dc_) U6 (LR _) fl_ fun W X Y _ w=>C4 1 [1,2,4,5,8,9,18,19] b Z ?_;obtain ⟨bz,rfl,rfl⟩:=w;have x:kR t 1<a.length:=eC H 1;refine Po (L':=[.arr (.slice (some ⟨bz,0,none⟩) a.length a.length) 56 1 a.length (jO a.length []),.obj c (aM keyZ.enc (dN ((atT t fun j=>(slf a t j).1).take 1))),.obj d (aM keyZ.enc (dN ((atT t fun j=>(slf a t j).2).take 1)))]) (by rw [kA];rfl)<|O7 2 Z fun R b=>PG ((kR t 1)) U10 (fun _=>⟨by omega,by omega,(NM _).symm⟩) U2<|PJ (j:=0) U11 (by rw [kB];simp;omega)<|Pd [1,2,4,5,8,9,18,19] b Z<|Po (L':=[.arr (.slice (some ⟨bz,0,none⟩) a.length a.length) 56 1 a.length (jO a.length [(kR t 1,1)]),.obj c (aM keyZ.enc (dN ((atT t fun j=>(slf a t j).1).take 1))),.obj d (aM keyZ.enc (dN ((atT t fun j=>(slf a t j).2).take 1)))]) (by rw [<- eP [] 1 x,dp];rfl)<|G.freezeArr 0 ((mV a.length (kR t 1)).map fH) rfl (iA _ _) (by intro r hr;obtain ⟨y,_,rfl⟩:=L4.1 hr;rfl) (by rw [ax,fK]) fun Cz hz z=>Pb fun R b=>O8 (bkT n 2) U8<|Pc 2 Z<|Pp (ry _ J.m_ _ _ a s (mV a.length (kR t 1)) 1 dc_ dc_ F.m_ E z.m_ (fK _ _) iJ (fun q A=>bx ((iJ q A).le dc_)) i t l (K 1)) U7 fl_<|Pc 3 Z<|Pq U5 fun aa=>Pg (j:=0) U12<|C4 1 [1,2,4,5,8,10,11,18,19] b Z<|C6 2 [1,2,4,5,8,10,11,18,19,38] Z<|O9 (fun ad=>?_) fun ad=>?_
   ·exact absurd ad dc_
   ·refine G.freeze 0 Z fun ac _ k=>G.cut (fun fr C' e o=>(True)/\fr=[(1,[],.int .i64 i),(2,[],.pointer (some ⟨I,0,none⟩)),(4,[],.map (some c)),(5,[],.map (some d)),(18,[],.agg ⟨jI t⟩),(19,[],.int .i64 ((1:Nat):Int))]/\e=[.obj c (aM keyZ.enc (dN ((atT t fun j=>(slf a t j).1).take (1+1)))),.obj d (aM keyZ.enc (dN ((atT t fun j=>(slf a t j).2).take (1+1))))]) ?_ (fun fr aC aD o aE p=>?_)
    ·refine PV (.cut [0,1,2,3,4,5,6] (.alt 7 (.fin [8,9]) (.alt 8 (.fin [7,9]) .stop))) [] Z Z kr_ fun R hB b B=>Pc 5 Z<|O8 (bkT k 1) U8<|Pa U6<|PF B Z ⟨?_, ?_,trivial⟩
     ·refine O8 (bkT k 1) U8 ?_
      first | refine D.mapUpdate keyZ (j:=0) rfl rfl rfl rfl rfl rfl rfl rfl rfl rfl kr_ ?_ | refine D.mapUpdate keyZ (j:=1) rfl rfl rfl rfl rfl rfl rfl rfl rfl rfl kr_ ?_
      first | refine D.mapUpdate keyZ (j:=1) rfl rfl rfl rfl rfl rfl rfl rfl rfl rfl kr_ ?_ | refine D.mapUpdate keyZ (j:=0) rfl rfl rfl rfl rfl rfl rfl rfl rfl rfl kr_ ?_
      refine Pd [1,2,4,5,18,19] b Z<|G.perm (L':=[.obj c (aM keyZ.enc (dN ((atT t fun j=>(slf a t j).1).take (1+1)))),.obj d (aM keyZ.enc (dN ((atT t fun j=>(slf a t j).2).take (1+1))))]) (by
       rw [<- cS t (fun j=>(slf a t j).1) 1 dc_ ⟨f,g,h⟩,<- cS t (fun j=>(slf a t j).2) 1 dc_ ⟨f,g,h⟩]
       first | exact LR _ | exact List.Perm.swap _ _ _) ?_
      exact Pj 0 (Mem.le.refl _) (hn_ [1,2,4,5,18,19] Z) ⟨trivial,Z,Z⟩
     ·first | refine D.mapUpdate keyZ (j:=0) rfl rfl rfl rfl rfl rfl rfl rfl rfl rfl kr_ ?_ | refine D.mapUpdate keyZ (j:=1) rfl rfl rfl rfl rfl rfl rfl rfl rfl rfl kr_ ?_
      refine O8 (bkT k 1) U8 ?_
      first | refine D.mapUpdate keyZ (j:=1) rfl rfl rfl rfl rfl rfl rfl rfl rfl rfl kr_ ?_ | refine D.mapUpdate keyZ (j:=0) rfl rfl rfl rfl rfl rfl rfl rfl rfl rfl kr_ ?_
      refine Pd [1,2,4,5,18,19] b Z<|G.perm (L':=[.obj c (aM keyZ.enc (dN ((atT t fun j=>(slf a t j).1).take (1+1)))),.obj d (aM keyZ.enc (dN ((atT t fun j=>(slf a t j).2).take (1+1))))]) (by
       rw [<- cS t (fun j=>(slf a t j).1) 1 dc_ ⟨f,g,h⟩,<- cS t (fun j=>(slf a t j).2) 1 dc_ ⟨f,g,h⟩]
       first | exact LR _ | exact List.Perm.swap _ _ _) ?_
      exact Pj 0 (Mem.le.refl _) (hn_ [1,2,4,5,18,19] Z) ⟨trivial,Z,Z⟩
    obtain ⟨_,rfl,rfl⟩:=p;refine Pb fun R b=>Pi _ U7<|C4 1 [1,2,4,5,18,19] b Z<|Pk (m':=1) om_ mup (hn_ [1,2,4,5,18,19] Z) ⟨2,by decide,Z,Z,Z⟩
  ·refine Pb fun R b=>PZ U11 (fun _=>⟨by decide,by decide,Z⟩) U2<|C4 1 [1,2,4,5,8,18,19] b Z<|Px [(4,3)] Z fun R b=>Ps [[al [48]]] U12 fun U V _ v=>Pa U6<|O8 (bkT n 1) U8<|Pa U6<|D.call (kW _ _ a.length [48] v.m_ om_) Z (.inr dc_) U6 (LR _) fl_ fun W X Y _ w=>C4 1 [1,2,4,5,8,9,18,19] b Z ?_;obtain ⟨bz,rfl,rfl⟩:=w;have x:kR t 2<a.length:=eC H 2;refine Po (L':=[.arr (.slice (some ⟨bz,0,none⟩) a.length a.length) 56 1 a.length (jO a.length []),.obj c (aM keyZ.enc (dN ((atT t fun j=>(slf a t j).1).take 2))),.obj d (aM keyZ.enc (dN ((atT t fun j=>(slf a t j).2).take 2)))]) (by rw [kA];rfl)<|O7 2 Z fun R b=>PG ((kR t 2)) U10 (fun _=>⟨by omega,by omega,(NM _).symm⟩) U2<|PJ (j:=0) U11 (by rw [kB];simp;omega)<|Pd [1,2,4,5,8,9,18,19] b Z<|Po (L':=[.arr (.slice (some ⟨bz,0,none⟩) a.length a.length) 56 1 a.length (jO a.length [(kR t 2,1)]),.obj c (aM keyZ.enc (dN ((atT t fun j=>(slf a t j).1).take 2))),.obj d (aM keyZ.enc (dN ((atT t fun j=>(slf a t j).2).take 2)))]) (by rw [<- eP [] 1 x,dp];rfl)<|G.freezeArr 0 ((mV a.length (kR t 2)).map fH) rfl (iA _ _) (by intro r hr;obtain ⟨y,_,rfl⟩:=L4.1 hr;rfl) (by rw [ax,fK]) fun Cz hz z=>Pb fun R b=>O8 (bkT n 2) U8<|Pc 2 Z<|Pp (ry _ J.m_ _ _ a s (mV a.length (kR t 2)) 1 dc_ dc_ F.m_ E z.m_ (fK _ _) iJ (fun q A=>bx ((iJ q A).le dc_)) i t l (K 2)) U7 fl_<|Pc 3 Z<|Pq U5 fun aa=>Pg (j:=0) U12<|C4 1 [1,2,4,5,8,10,11,18,19] b Z<|C6 2 [1,2,4,5,8,10,11,18,19,38] Z<|O9 (fun ae=>?_) fun ae=>?_
   ·exact absurd ae dc_
   ·refine G.freeze 0 Z fun ac _ k=>G.cut (fun fr C' e o=>(True)/\fr=[(1,[],.int .i64 i),(2,[],.pointer (some ⟨I,0,none⟩)),(4,[],.map (some c)),(5,[],.map (some d)),(18,[],.agg ⟨jI t⟩),(19,[],.int .i64 ((2:Nat):Int))]/\e=[.obj c (aM keyZ.enc (dN ((atT t fun j=>(slf a t j).1).take (2+1)))),.obj d (aM keyZ.enc (dN ((atT t fun j=>(slf a t j).2).take (2+1))))]) ?_ (fun fr aF aG o aH p=>?_)
    ·refine PV (.cut [0,1,2,3,4,5,6] (.alt 7 (.fin [8,9]) (.alt 8 (.fin [7,9]) .stop))) [] Z Z kr_ fun R hB b B=>Pc 5 Z<|O8 (bkT k 1) U8<|Pa U6<|PF B Z ⟨?_, ?_,trivial⟩
     ·refine O8 (bkT k 1) U8 ?_
      first | refine D.mapUpdate keyZ (j:=0) rfl rfl rfl rfl rfl rfl rfl rfl rfl rfl kr_ ?_ | refine D.mapUpdate keyZ (j:=1) rfl rfl rfl rfl rfl rfl rfl rfl rfl rfl kr_ ?_
      first | refine D.mapUpdate keyZ (j:=1) rfl rfl rfl rfl rfl rfl rfl rfl rfl rfl kr_ ?_ | refine D.mapUpdate keyZ (j:=0) rfl rfl rfl rfl rfl rfl rfl rfl rfl rfl kr_ ?_
      refine Pd [1,2,4,5,18,19] b Z<|G.perm (L':=[.obj c (aM keyZ.enc (dN ((atT t fun j=>(slf a t j).1).take (2+1)))),.obj d (aM keyZ.enc (dN ((atT t fun j=>(slf a t j).2).take (2+1))))]) (by
       rw [<- cS t (fun j=>(slf a t j).1) 2 dc_ ⟨f,g,h⟩,<- cS t (fun j=>(slf a t j).2) 2 dc_ ⟨f,g,h⟩]
       first | exact LR _ | exact List.Perm.swap _ _ _) ?_
      exact Pj 0 (Mem.le.refl _) (hn_ [1,2,4,5,18,19] Z) ⟨trivial,Z,Z⟩
     ·first | refine D.mapUpdate keyZ (j:=0) rfl rfl rfl rfl rfl rfl rfl rfl rfl rfl kr_ ?_ | refine D.mapUpdate keyZ (j:=1) rfl rfl rfl rfl rfl rfl rfl rfl rfl rfl kr_ ?_
      refine O8 (bkT k 1) U8 ?_
      first | refine D.mapUpdate keyZ (j:=1) rfl rfl rfl rfl rfl rfl rfl rfl rfl rfl kr_ ?_ | refine D.mapUpdate keyZ (j:=0) rfl rfl rfl rfl rfl rfl rfl rfl rfl rfl kr_ ?_
      refine Pd [1,2,4,5,18,19] b Z<|G.perm (L':=[.obj c (aM keyZ.enc (dN ((atT t fun j=>(slf a t j).1).take (2+1)))),.obj d (aM keyZ.enc (dN ((atT t fun j=>(slf a t j).2).take (2+1))))]) (by
       rw [<- cS t (fun j=>(slf a t j).1) 2 dc_ ⟨f,g,h⟩,<- cS t (fun j=>(slf a t j).2) 2 dc_ ⟨f,g,h⟩]
       first | exact LR _ | exact List.Perm.swap _ _ _) ?_
      exact Pj 0 (Mem.le.refl _) (hn_ [1,2,4,5,18,19] Z) ⟨trivial,Z,Z⟩
    obtain ⟨_,rfl,rfl⟩:=p;refine Pb fun R b=>Pi _ U7<|C4 1 [1,2,4,5,18,19] b Z<|Pk (m':=0) om_ mup (hn_ [1,2,4,5,18,19] Z) ⟨3,by decide,Z,Z,Z⟩
 ·have T:j=3:=by
   simp only [Mf] at M;omega
  subst T;refine G.freeze 0 Z fun Cm aI ah=>G.freeze 0 Z fun Cn aJ ai=>C6 5 [4,5,6] Z<|Pl (G.dropAll (P1 U4 ?_));exact ⟨Z,c,d,Z,Mem.get ah mup,ai⟩
end Go.Proofs.YthnpijdjlddpmaaGreatDoor
