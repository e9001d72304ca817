/- Laws that the proofs of this seat share, part 2. -/
import Derived.Test.YtfjcldheldflbaaGreatDoorG1
import Derived.OpenShut
import Derived.ChangeSame
import Derived.ChangeVars
import Derived.Deep.Slices
import Derived.Deep.DeepHandedRow
import Derived.LaidLaws
import Derived.WalkKit
import Derived.ProofKit
import Derived.Shelf.Vars
import Derived.ChangeKeysEq
import Derived.MapKept
import Derived.Laws.Bits64b
namespace Go.Jog
open Go
section
variable {cx:Cx} {n:Nat} {ds:List (Option Nat)} {R:Rg n ds} {its:List It} {fr:Fr} {C:Mem} {L:List Ent} {i k d:Nat} {o:Oper} {g:GL} {v:Value}
theorem Sl.flat {C:Mem}{s:Nat}{A:Option Addr}{d c:Nat}{b:List (List Value)}(k:Sl C s (.slice A d c) b)(l:0<s)(m:b≠[]) :
  d=b.length/\∃ a,A=some a/\a.spot=none/\∀ (q:Nat)(u:Value),b.flatten[q]?=some u->CCell C (a.add q) u:=by
 obtain ⟨y,z,h1,h2,h3,h4,h5⟩:=k;cases h1
 refine ⟨Z, ?_⟩;cases b with
 | nil=>exact absurd rfl m
 | cons r rs =>
  obtain ⟨n,o,p,_⟩:=h5 0 r ap;subst o;refine ⟨n,Z,p,fun q u e=>?_⟩;have t:q<(r::rs).length*s:=by rw [<- aO h4];exact (aJ.1 e).1
  have f:q / s<(r::rs).length:=Sk (by rw [Qk];exact t);have g:(r::rs)[q / s]?=some (r::rs)[q / s]:=al f;have v:q % s<((r::rs)[q / s]).length:=by rw [h4 _ (Qq f)];exact P2 _ l
  have h:=al v;have i:=getElem?_flatten_rows h4 g h;have j:q / s*s+q % s=q:=by rw [Qk];exact Sa q s
  rw [j,e] at i;obtain ⟨B,w,D,x⟩:=h5 _ _ g;cases w
  have:=x _ _ h;rw [j] at this;rw [Q8 i];exact this
theorem qD {P:Program}{a:Act}{o:Oper}{t:Nat}{x y:Operand}(c:o.op=.call ⟨.builtin .append,#[x,y],#[t,t]⟩){r:Value}{w b:World}(h:(Builtin.append_ #[t,t] o.type #[a.eval x,a.eval y]).run P w=.ok r b) :
  (execOp a.eval o).run P w=.ok (.value r) b:=by
 have d:execOp a.eval o=(do let dd <- resolve a.eval ⟨.builtin .append,#[x,y],#[t,t]⟩ o.type;invoke dd.target dd.args:Sem Next):=by unfold execOp;rw [c]
 rw [d];simp only [resolve,invoke,builtin,Sem.run_bind,Sem.run_pure,Result.andThen_ok,Ry,Qa,Rz,h]
theorem Vj {t e n0 l:Nat}{x y:Operand}{Q m:TI}{p:Value}{A:Option Addr}{g f:List (List Value)}(hk:k=3)(hd:o.dst=some d)(hg:gOn ds fr o.guard=true)
  (aa:o.op=.call ⟨.builtin .append,#[x,y],#[t,t]⟩) (ht:cx.T.get t=some Q) (ab:Q.k=.slice e) (he:cx.T.get e=some m) (ac:Nat.beq m.size 0=false)
  (hx:ev fr [] x=some (.slice A n0 l)) (hy:ev fr [] y=some p) (U:Sl C m.size (.slice A n0 l) g) (ae:Sl C m.size p f) (ar:f=[]∨l<g.length+f.length)
  (V:g.length+f.length<=maxLen) (af:(g.length+f.length)*m.bytes<=140737488355328) (hp:∀ v,aT n ds ((d,[],v)::fr) d=true)
  (h:∀ E z,C.le z->Sl z m.size E (g++f)->D cx R its ((d,[],E)::fr) z L):D cx R ((i,k,o)::its) fr C L:=by
 have H:cx.P.underlying t=some (.slice e):=by
  obtain ⟨kk,s1,b1,z1,g1⟩:=Q;simp only at ab;subst ab;exact cq cx.hT ht
 obtain ⟨inf,I,J,ag,hz,aL⟩:=(dZ cx.hT he).info;have ah:0<m.size:=Rx (fun e=>by rw [e] at ac;cases ac);have au:=U;obtain ⟨A1,c1,av,ai,aM,aj,aw⟩:=au;cases av
 have ax:=ae;obtain ⟨B,c,W,aN,aP,ak,aQ⟩:=ax;have al:Nat.ble k 1=false:=by subst hk;rfl
 by_cases K:f=[]
 ·subst K;refine TT (S:=fun E z L'=>E=.slice A g.length l/\z=C/\L'=L) al hd hg hp (fun a G w _ M=>?_) (fun E z L' X ⟨Y,e2,e3⟩=>?_)
  ·have hr:(Builtin.append_ #[t,t] o.type #[a.eval x,a.eval y]).run cx.P w=.ok (.slice A g.length l) w:=by
    rw [G _ _ hx,G _ _ hy,W];have am:(Builtin.firstCells m.size 0 (.slice B 0 c)).run cx.P w=.ok #[] w:=by
     cases B <;> simp [Builtin.firstCells,loadCells,loadCellsFrom]
    simp only [P6];cases A with
    | none=>simp [Builtin.append_,run_underlying H,sizeOf,typeInfo,I,J,Builtin.lenOf,am,ai]
    | some a0=>simp [Builtin.append_,run_underlying H,sizeOf,typeInfo,I,J,Builtin.lenOf,am,ai,storeCells]
   unfold Oper.wp;rw [qD aa hr];exact ⟨_,C,L,Z,Mem.le.refl _,fun h2=>by omega,M,Z,Z,Z⟩
  subst Y;subst e2;subst e3;exact h _ z X (by simpa using U)
 have ay:l<g.length+f.length:=ar.resolve_left K;obtain ⟨-,b0,hB, -,az⟩:=Sl.flat (W ▸ ae) ah K;subst hB;have aR:0<f.length:=Qi.2 K;have aA:=aO ak;have aB:=aO aj;refine UX (S:=fun E b ob=>∃ (cc:Nat)(rest:Array Value),E=.slice (some ⟨b,0,none⟩) (g.length+f.length) cc/\ob=.cells (g.flatten.toArray++f.flatten.toArray++rest) e (0,0)/\g.length+f.length<=cc/\cc<=maxLen) al hd hg hp
  (fun a G w _ L1 w1 M=>?_) (fun E b ob z X N ⟨cc,rest,Y,e2,e3,e4⟩=>?_)
 ·have an:∀ (j:Nat)(u:Value),f.flatten[j]?=some u->w.cell? (b0.add j)=some u:=fun j u F=>(az j u F).cell M.sep;have ao:f.flatten.length=f.length*inf.size:=by rw [aA,J]
  have aC:g.flatten.length=g.length*inf.size:=by rw [aB,J]
  refine ⟨.slice (some ⟨w.heap.size,0,none⟩) (g.length+f.length) (grownCap w (g.length+f.length) l e),_,w.drew.alloc (.cells (g.flatten.toArray++f.flatten.toArray++Builtin.zeroCells m.zv.cells (grownCap w (g.length+f.length) l e-(g.length+f.length))) e), ?_, ?_,grownCap w (g.length+f.length) l e,Builtin.zeroCells m.zv.cells (grownCap w (g.length+f.length) l e-(g.length+f.length)),Z,Z,grownCap_ge w _ _ e,grownCap_le_maxLen w _ _ e V⟩
  ·refine qD aa ?_;rw [G _ _ hx,G _ _ hy,W];cases O:A with
   | none =>
    subst O;have aD:g=[]:=by
     cases g with
     | nil=>rfl
     | cons r rs=>obtain ⟨ad,O,_⟩:=aw 0 r ap;cases O
    subst aD;have aE:l<f.length:=by simpa using ay
    have hf:=run_firstCells_some (P:=cx.P) w.drew inf.size f.length b0 f.length c f.flatten ao (by simpa using an);have hn:f.length≠0:=by omega
    have aF:¬ (9223372036854775807<(f.length:Int)):=by simp only [maxLen,P6] at V;omega
    have aG:¬ (281474976710656<Builtin.nextslicecap f.length l*inf.bytes):=by
     have N:=af;simp only [P6,QV,<- ag] at N;have:=growslice_fits (need:=f.length) (bytes:=inf.bytes) (old:=l) aE N;omega
    have aH:¬ (f.length<=l):=by omega
    simp [Builtin.append_,run_underlying H,sizeOf,typeInfo,zeroValue,I,hz,Builtin.lenOf,aH,aF,aG,Question.forced,run_firstCells_none,hf,newRow,grownCap]
   | some a0 =>
    subst O;have hold:∀ (j:Nat)(u:Value),g.flatten[j]?=some u->w.cell? (a0.add j)=some u:=fun j u F=>by
     cases hr:g with
     | nil=>subst hr;simp at F
     | cons r rs =>
      obtain ⟨-,a1,aI, -,aK⟩:=Sl.flat U ah (by rw [hr];simp);cases aI
      exact (aK j u F).cell M.sep
    exact run_append_grow (P:=cx.P) w t o.type e inf m.zv H I hz a0 g.length l g.flatten aC hold b0 f.length c f.flatten ao an om_ (by simp only [maxLen] at V;omega) (by rw [ag];exact growslice_fits om_ af)
  exact ⟨Z,Z,Z,by simp,fun q hq=>heap_alloc_old w.drew _ hq,heap_alloc_new w.drew _,RT _⟩
 subst Y;subst e2;have:=Sl.ofBlock (rows:=g++f) (s:=m.size) (c:=cc) N (fun r hr=>(PQ.1 hr).elim (aj r) (ak r)) (fun j u F=>by
  have aq:=(aJ.1 F).1;rw [Qj] at F aq;have e5:(g.flatten.toArray++f.flatten.toArray:Array Value)=(g.flatten++f.flatten).toArray:=by simp
  rw [e5];rw [Array.getElem?_append_left (by simpa using aq)];simpa using F) (by simpa using e3) e4
 simp only [PH] at this;exact h _ z X this
/-! ### Rows of the function's own that are made -/
theorem St.objArr {o:World}{p:Mem}{q:List Ent}{C:Mem}{L:List Ent}{w:World}{b e s m g:Nat}{i j:List Value}(h:St o p q C (.obj b (.cells ⟨i⟩ e (0,0))::L) w)(r:i.take (m*s)=j)(v:i.length=g*s)(t:m<=g)(z:g<=maxLen) :
  St o p q C (.arr (.slice (some ⟨b,0,none⟩) m g) e s m j::L) w:=by
 have A:w.heap[b]?=some (.cells ⟨i⟩ e (0,0)):=h.sep.e _ (PB ..);have u:=Qy.1 h.sep.d;have l:∀ k,(Ent.arr (.slice (some ⟨b,0,none⟩) m g) e s m j).own k->k=b:=fun k f=>by simp only [Ent.own,Value.ownBlock,Qc] at f;exact f.symm
 have B:m*s<=g*s:=Qp _ t;refine ⟨⟨h.sep.c,fun x a=>?_,Qy.2 ⟨fun y hy k f=>u.1 y hy k (l k f),u.2⟩,fun k ⟨x,a,f⟩=>?_⟩,h.ev,h.c0,h.cn,fun k ⟨x,a,f⟩=>?_⟩
 ·rcases PN.1 a with rfl | a
  ·exact ⟨by rw [<- r,PM];omega,.inr ⟨b,g,⟨i⟩,Z,PG _,A,t,z,by simpa using v,by simpa using r⟩⟩
  exact h.sep.e x (by simp [a])
 ·rcases PN.1 a with rfl | a
  ·exact h.sep.n k ⟨_,PB ..,l k f⟩
  exact h.sep.n k ⟨x,by simp [a],f⟩
 rcases PN.1 a with rfl | a
 ·exact h.ln k ⟨_,PB ..,l k f⟩
 exact h.ln k ⟨x,by simp [a],f⟩
theorem UW {e s m c:Nat}{cs f:List Value}(p:Nat.ble k 1=false)(q:o.dst=some d)(r:gOn ds fr o.guard=true)(t:∀ v,aT n ds ((d,[],v)::fr) d=true)
  (u:∀ a,JM (ev fr []) a->∀ w,(execOp a.eval o).run cx.P w=.ok (.value (.slice (some ⟨w.heap.size,0,none⟩) m c)) (w.alloc (.cells ⟨cs⟩ e))) (g:cs.take (m*s)=f) (y:cs.length=c*s) (z:m<=c) (A:c<=maxLen)
  (h:∀ b,D cx R its ((d,[],.slice (some ⟨b,0,none⟩) m c)::fr) C (.arr (.slice (some ⟨b,0,none⟩) m c) e s m f::L)):D cx R ((i,k,o)::its) fr C L :=
 TT (S:=fun v j l=>j=C/\∃ b,v=.slice (some ⟨b,0,none⟩) m c/\l=.arr (.slice (some ⟨b,0,none⟩) m c) e s m f::L) p q r t (fun a hs w _ B=>by
  unfold Oper.wp;rw [u a hs w];exact ⟨_,C,.arr (.slice (some ⟨w.heap.size,0,none⟩) m c) e s m f::L,Z,Mem.le.refl _,fun _ x g=>by simp [g],St.objArr (St.alloc B _) g y z A,Z,_,Z,Z⟩)
  (fun v j l _ ⟨E,b,F,G⟩=>by subst E;subst F;subst G;exact h b)
theorem Un {t e g:Nat}{j:Array (Nat × Operand)}{m f:TI}(c:List (List Value))(y:Z12 (Nat.ble k 1) false o.dst (some d) (gOn ds fr o.guard) true o.op (.buildSlice t g j) (cx.T.get t) (some m) m.k (.slice e) (cx.T.get e) (some f) (rowsO (ev fr []) j.toList 0) (some c) (c.all fun r=>Nat.beq r.length f.size) true (Nat.beq j.toList.length g) true (Nat.ble (g*f.size) 16777216) true (Nat.beq f.size 0) false)(z:∀ v,aT n ds ((d,[],v)::fr) d=true)(h:∀ b,D cx R its ((d,[],.slice (some ⟨b,0,none⟩) c.length c.length)::fr) C (.arr (.slice (some ⟨b,0,none⟩) c.length c.length) e f.size c.length c.flatten::L)):D cx R ((i,k,o)::its) fr C L:=by
 have ⟨A,B,E,F,G,H,I,p,J,K,q,s⟩:=y;have l:∀ r∈c,r.length=f.size:=fun r hr=>P5 (PT.1 J r hr);have u:=P5 K;rw [Rj] at q;have M:=(dT p l).2;have N:=aO l;have h0:0<f.size:=Rx (fun e=>by rw [e] at s;cases s);refine UW (cs:=c.flatten) A B E z (fun a hs w=>?_) (Qg om_) N (Py _) ?_ h
 ·have O:execOp a.eval o=(do Pure.pure (.value (<- Instr.buildSlice t g (j.map fun (i,x)=>(i,a.eval x)))):Sem Next):=by unfold execOp;rw [F]
  rw [O];have P:(j.map fun (i,x)=>(i,a.eval x))=(j.toList.map fun (i,x)=>(i,a.eval x)).toArray:=by apply Rb;simp
  rw [P];simp only [Sem.run_bind,ga cx.hT G H I (fun x v Q=>hs x v Q) p l u q w,Result.andThen_ok,Sem.run_pure]
 rw [M,u];have:g<=g*f.size:=RR _ h0;simp only [maxLen];omega
def kf (z:List Value):Nat->List Value
 | 0=>[]
 | m+1=>z++kf z m
theorem cT (z:List Value):∀ m,(kf z m).length=m*z.length
 | 0=>by simp [kf]
 | m+1=>by simp [kf,cT z m,Re];omega
theorem eS (z:List Value):∀ m,kf z m=(List.replicate m z).flatten
 | 0=>rfl
 | m+1=>by simp [kf,eS z m,QC]
theorem zq (z:List Value):∀ (m q:Nat),q<m*z.length->(kf z m)[q]?=z[q % z.length]?
 | 0,q,h=>by simp at h
 | m+1,q,h=>by
  simp only [kf];by_cases a:q<z.length
  ·rw [Qh a,Sn a]
  rw [PX om_,zq z m _ (by rw [Re] at h;omega)];congr 1;rw [Nat.mod_eq_sub_mod (by omega:z.length<=q)]
theorem Fv (z:List Value)(m:Nat):madeCells ⟨z⟩ (m*z.length)=⟨kf z m⟩:=by
 apply Rb;apply List.ext_getElem?;intro q;simp only [madeCells,Array.toList_map,Array.toList_range,PD,Rv];by_cases a:q<m*z.length
 ·rw [zq z m q a,Qd a];have c:0<z.length:=by
   rcases Qz z.length with h | h
   ·rw [h] at a;simp at a
   exact h
  have b:q % z.length<z.length:=P2 _ c;simp only [Q3];rw [al b];simp [b]
 rw [PJ aq,PJ (by rw [cT];omega)];rfl
theorem Um {t e:Nat}{x y:Operand}{p r:IntKind}{l c:Nat}{g f:TI}(B:Z9 (Nat.ble k 1) false o.dst (some d) (gOn ds fr o.guard) true o.op (.makeSlice t x y) (cx.T.get t) (some g) g.k (.slice e) (cx.T.get e) (some f) (ev fr [] x) (some (.int p l)) (ev fr [] y) (some (.int r c)))(E:l<=c)(Y:f.bytes*c<=281474976710656)(s:c<=maxLen)(F:∀ v,aT n ds ((d,[],v)::fr) d=true)(h:∀ b,D cx R its ((d,[],.slice (some ⟨b,0,none⟩) l c)::fr) C (.arr (.slice (some ⟨b,0,none⟩) l c) e f.size l (kf (f.zero.map Zv.val) l)::L)):D cx R ((i,k,o)::its) fr C L:=by
 have ⟨G,H,I,J,K,u,z,M,hy⟩:=B;have N:cx.P.underlying t=some (.slice e):=by
  obtain ⟨Z,s1,b1,z1,g1⟩:=g;simp only at u;subst u;exact cq cx.hT K
 obtain ⟨inf,O,Q,S,U,A⟩:=(dZ cx.hT z).info;have j:(f.zero.map Zv.val).length=f.size:=by
  have:=(dZ cx.hT z).zsize;rw [A] at this;simpa using this
 have V:∀ m q,kf (f.zero.map Zv.val) (m+q)=kf (f.zero.map Zv.val) m++kf (f.zero.map Zv.val) q:=by
  intro m q;induction m with
  | zero=>simp [kf]
  | succ m W=>rw [show m+1+q=(m+q)+1 by omega];simp [kf,W]
 refine UW (cs:=kf (f.zero.map Zv.val) c) G H I F (fun a hs w=>?_) ?_ (by rw [cT,j]) E s h
 ·have X:execOp a.eval o=(do Pure.pure (.value (<- Instr.makeSlice t (a.eval x) (a.eval y))):Sem Next):=by unfold execOp;rw [J]
  rw [X,hs _ _ M,hs _ _ hy];have hr:=run_make (P:=cx.P) w t e inf f.zv N O U p r (l:Int) (c:Int) om_ om_ (by rw [S,<- Qe];omega) (by simp only [maxLen] at s;omega);simp only [Rk] at hr;rw [Q,<- j,A,Fv] at hr;simp only [Sem.run_bind,hr,Result.andThen_ok,Sem.run_pure]
 obtain ⟨q,rfl⟩:∃ q,c=l+q:=⟨c-l,by omega⟩;rw [V];exact List.take_left' (by rw [cT,j])
/-! ### Arrays behind pointers -/
theorem rz {P:Program}{t e b c:Nat}(d:P.underlying t=some (.array b e)){f:IntKind}{m:Int}(g:0<=m)(h:m<b)(a:Addr){w:World}(i:(sizeOf e).run P w=.ok c w) :
  (Instr.indexAt t (.pointer (some a)) (.int f m)).run P w=.ok (.pointer (some (a.add (m.toNat*c)))) w:=by
 simp [Instr.indexAt,asIntOf,run_underlying d,Instr.sureAddr,i,g,h]
theorem Ty (c:Nat){t e f b l:Nat}{x y:Operand}{r:IntKind}{m:Int}{j p:TI}(s:Z9 (Nat.ble k 1) true o.dst (some d) o.op (.indexAddr t x y) (gOf ds fr o.guard) (some g) (ev fr g x) (some (.pointer (some ⟨b,l,none⟩))) (ev fr g y) (some (.int r m)) (cx.T.get t) (some j) j.k (.arr f e) (cx.T.get e) (some p))(u:GT ds fr g->0<=m/\m<f/\c=l+m.toNat*p.size)(v:Z2 (aT n ds ((d,g,.pointer (some ⟨b,c,none⟩))::fr) d) true (wfG ds fr g) true)(h:D cx R its ((d,g,.pointer (some ⟨b,c,none⟩))::fr) C L):D cx R ((i,k,o)::its) fr C L:=by
 have ⟨z,A,B,E,F,hy,G,q,H⟩:=s;have ⟨I,J⟩:=v;have K:cx.P.underlying t=some (.array f e):=by
  obtain ⟨S,U,b1,V,W⟩:=j;simp only at q;subst q;exact mj cx.hT G
 refine D.run _ z A E (fun M a hs w=>?_) I J h;obtain ⟨N,O,rfl⟩:=u M;have Q:execOp a.eval o=(do Pure.pure (.value (<- Instr.indexAt t (a.eval x) (a.eval y))):Sem Next):=by unfold execOp;rw [B]
 rw [Q,hs _ _ F,hs _ _ hy];simp only [Sem.run_bind,rz K N O _ (dC cx.hT H w),Result.andThen_ok,Sem.run_pure,Addr.add_lit]
theorem UP {t e f:Nat}{x y:Operand}{H:IntKind}{m:Int}{p:Value}{q:List Value}{j b:TI}(I:Z9 (Nat.ble k 1) true o.dst (some d) o.op (.indexAddr t x y) (gOf ds fr o.guard) (some g) (ev fr g x) (some p) (ev fr g y) (some (.int H m)) (cx.T.get t) (some j) j.k (.arr f e) (cx.T.get e) (some b))(J:GT ds fr g->PtrTo C p q)(r:GT ds fr g->0<=m/\m<f)(s:∀ v,aT n ds ((d,g,v)::fr) d=true)(u:wfG ds fr g=true)(h:∀ z,(GT ds fr g->PtrTo C z ((q.drop (m.toNat*b.size)).take b.size))->D cx R its ((d,g,z)::fr) C L):D cx R ((i,k,o)::its) fr C L:=by
 have ⟨A,B,K,E,M,hy,N,F,O⟩:=I;have Q:cx.P.underlying t=some (.array f e):=by
  obtain ⟨X,Y,b1,z1,g1⟩:=j;simp only at F;subst F;exact mj cx.hT N
 by_cases c:GT ds fr g
 ·obtain ⟨S,U,V⟩:=(J c).part (m.toNat*b.size) b.size;refine TU A B E (s (.pointer (some (S.add (m.toNat*b.size))))) u (fun _ a G aa ab w hw=>?_) (h _ (fun _=>V));have W:execOp a.eval o=(do Pure.pure (.value (<- Instr.indexAt t (a.eval x) (a.eval y))):Sem Next):=by unfold execOp;rw [K]
  unfold Oper.quietAt;rw [W,G _ _ M,G _ _ hy,U];simp only [Sem.run_bind,rz Q (r c).1 (r c).2 _ (dC cx.hT O w),Result.andThen_ok,Sem.run_pure];exact ⟨Z,Z⟩
 exact TU A B E (s undef) u (fun l=>absurd l c) (h _ (fun l=>absurd l c))
/-! ### Bytes to a string -/
theorem CS (s:List UInt8):∀ a:ByteArray,(s.map fun b=>(b.toNat:Int)).foldl (fun r n=>r.push (UInt8.ofNat n.toNat)) a=a++⟨s.toArray⟩:=by
 induction s with
 | nil =>
  intro a;apply ByteArray.ext;simp []
 | cons b s c =>
  intro a;simp only [Qa,Ss];rw [c];have e:UInt8.ofNat ((b.toNat:Int)).toNat=b:=by simp
  rw [e];apply ByteArray.ext;simp [ByteArray.data_push]
theorem UH {f g e:Nat}{x:Operand}{p:Value}{s:List UInt8}{l m q:TI}(z:Sl C 1 p (s.map fun b=>[.int .u8 b.toNat]))(Q:Z11 k 2 o.dst (some d) o.op (.convert f g x) (gOn ds fr o.guard) true (ev fr [] x) (some p) (cx.T.get f) (some l) l.k (.slice e) (cx.T.get g) (some m) m.k .str (cx.T.get e) (some q) q.k (.int .u8))(U:∀ v,aT n ds ((d,[],v)::fr) d=true)(h:D cx R its ((d,[],.string ⟨s.toArray⟩)::fr) C L):D cx R ((i,k,o)::its) fr C L :=
 have ⟨V,W,X,Y,hx,aa,B,ab,E,ac,F⟩:=Q;TT (S:=fun v G H=>v=.string ⟨s.toArray⟩/\G=C/\H=L) (by subst V;rfl) W Y U (fun a ad w _ I=>by
  have ae:cx.P.underlying f=some (.slice e):=by
   obtain ⟨J,K,b1,M,N⟩:=l;simp only at B;subst B;exact cq cx.hT aa
  have af:cx.P.underlying g=some .string:=by
   obtain ⟨J,K,b1,M,N⟩:=m;simp only at E;subst E;exact oy cx.hT ab
  have ag:cx.P.underlying e=some (.int .u8):=by
   obtain ⟨J,K,b1,M,N⟩:=q;simp only at F;subst F;exact oz cx.hT ac
  have ah:=z;obtain ⟨A,c,rfl,aj,ak,al,am⟩:=ah;have ai:(execOp a.eval o).run cx.P w=.ok (.value (.string ⟨s.toArray⟩)) w:=by
   have r:execOp a.eval o=(do Pure.pure (.value (<- convert f g (a.eval x))):Sem Next):=by unfold execOp;rw [X]
   rw [r,ad _ _ hx];simp only [Sem.run_bind,run_convert_bytes_string w f g e _ _ _ ae ag af];cases t:s with
   | nil =>
    subst t;cases A with
    | none=>simp [Conv.bytesToString];rfl
    | some a0 =>
     have u:(loadCells a0 0).run cx.P w=.ok (([]:List Int).map (Value.int .u8)).toArray w:=by simp [loadCells,loadCellsFrom]
     have y:=run_bytesToString (P:=cx.P) w a0 0 c [] u;simp only [Rz,P6,y,Result.andThen_ok];rfl
   | cons b bs =>
    obtain ⟨an,a0,rfl, -,O⟩:=Sl.flat z om_ (by rw [t];simp);rw [gg] at O;have u:(loadCells a0 (s.map fun b=>[Value.int .u8 b.toNat]).length).run cx.P w=.ok ((s.map fun b=>(b.toNat:Int)).map (Value.int .u8)).toArray w:=by
     have:=jW (P:=cx.P) (w:=w) (a:=a0) (cs:=s.map fun b=>Value.int .u8 b.toNat) (fun j v hj=>(O j v hj).cell I.sep);simpa [Function.comp_def] using this
    have y:=run_bytesToString (P:=cx.P) w a0 _ c _ u;rw [<- t];simp only [y,Result.andThen_ok,CS,Sem.run_pure];congr 3
  unfold Oper.wp;rw [ai];exact ⟨_,C,L,Z,Mem.le.refl _,fun _ _ h=>h,I,Z,Z,Z⟩)
  (fun v G H _ ⟨r,e2,e3⟩=>by subst r;subst e2;subst e3;exact h)
end
/-! ### Results that lie in a cell -/
section
variable {F:Fx} {k:List KI} {fr:Fr} {C:Mem} {L:List Ent}
theorem fj {w:World}{b t:Nat}{a:List Value}{e:TypeId}{f:Nat × Nat}{c:TI}{v:Value}(g:F.cx.T.get t=some c)(h:w.heap[b]?=some (.cells ⟨a⟩ e f))(i:cH c (a.take c.size)=some v):(loadVar t ⟨b,0,none⟩).run F.cx.P w=.ok v w:=by
 refine eJ F.cx.hT g (cs:=a.take c.size) (fun j u d=>?_) i;rw [Addr.add_lit,cell_of_row w b (0+j) _ e f h];rw [Qm] at d;split at d
 ·simpa using d
 cases d
theorem TY {r b t:Nat}{f:List Value}{k:TypeId}{l:Nat × Nat}{c:TI}{v:Value}(m:Ent.obj b (.cells ⟨f⟩ k l)∈L)(n:Z4 F.fn.results (#[.cell r t]) (ev fr [] (.tmp r)) (some (.pointer (some ⟨b,0,none⟩))) (F.cx.T.get t) (some c) (cH c (f.take c.size)) (some v))(h:F.post v C [])(g:F.ends:=by exact ⟨fun _ _ _ h=>h,rfl⟩):G F [] .ret fr C L:=have ⟨o,hr,q,s⟩:=n;fun _ a w i j=>by
 refine g.kq ?_;have d:=bM i (fun p u=>by cases u) hr;simp only [Act.eval] at d;refine bodyPost_ret (v:=v) ?_ (i.defers.trans g.2) ⟨v,C,[],Z,St.dropAll j,h⟩;have x:=fj (F:=F) q (j.sep.e _ m) s;simp only [Qt] at d;simp [results,o,d,asAddr,x]
theorem Uz {r s b t:Nat}{j:List Value}{m:TypeId}{n:Nat × Nat}{c:TI}{u v:Value}(o:Ent.obj b (.cells ⟨j⟩ m n)∈L)(q:Z5 F.fn.results (#[.cell r t,.tmp s]) (ev fr [] (.tmp r)) (some (.pointer (some ⟨b,0,none⟩))) (ev fr [] (.tmp s)) (some u) (F.cx.T.get t) (some c) (cH c (j.take c.size)) (some v))(h:F.post (.tuple #[v,u]) C [])(k:F.ends:=by exact ⟨fun _ _ _ h=>h,rfl⟩):G F [] .ret fr C L:=have ⟨x,hr,hs,y,z⟩:=q;fun _ a w d l=>by
 refine k.kq ?_;have f:=bM d (fun p g=>by cases g) hr;have i:=bM d (fun p g=>by cases g) hs;simp only [Act.eval] at f i;refine bodyPost_ret (v:=.tuple #[v,u]) ?_ (d.defers.trans k.2) ⟨_,C,[],Z,St.dropAll l,h⟩;have A:=fj (F:=F) y (l.sep.e _ o) z;simp only [Qt] at f i;simp [results,x,f,i,asAddr,A]
end
end Go.Jog
namespace Go.Jog
open Go
theorem ef {a:Type}(f:a->Value):∀ l:List a,(l.map fun x=>[f x]).flatten=l.map f
 | []=>rfl
 | x::l=>by simp [ef f l]
def ah (s:List UInt8):Value:=.string ⟨s.toArray⟩
def cJ (c:UInt8):List UInt8->List (List UInt8)
 | []=>[[]]
 | b::s=>if b=c then []::cJ c s else match cJ c s with
  | []=>[[b]]
  | p::ps=>(b::p)::ps
theorem BV (c:UInt8):∀ s,cJ c s≠[]
 | []=>by simp [cJ]
 | b::s=>by
  simp only [cJ];split
  ·simp
  split <;> simp
theorem nk (c:UInt8):∀ s,c ∉ s->cJ c s=[s]
 | [],_=>rfl
 | b::s,h=>by
  have h1:b≠c:=fun e=>h (by simp [e]);have h2:=nk c s (fun e=>h (by simp [e]));simp [cJ,h1,h2]
theorem oH (c:UInt8):∀ (a post:List UInt8),c ∉ a->cJ c (a++c::post)=a::cJ c post
 | [],post,_=>by simp [cJ]
 | b::a,post,h=>by
  have h1:b≠c:=fun e=>h (by simp [e]);have h2:=oH c a post (fun e=>h (by simp [e]));simp [cJ,h1,h2]
theorem jV (c:UInt8):∀ s:List UInt8,(cJ c s).length=s.count c+1
 | []=>by simp [cJ]
 | b::s=>by
  have d:=jV c s;simp only [cJ];by_cases a:b=c
  ·subst a;simp [d]
  rw [aF a];have e:¬ (b == c)=true:=by simpa using a
  rw [List.count_cons_of_ne a];cases h:cJ c s with
  | nil=>exact absurd h (BV c s)
  | cons p f=>rw [h] at d;simpa using d
end Go.Jog
namespace Go.Jog
open Go
section
variable {α:Type} {enc:α->List Value} {s:Nat}
theorem bP (a:∀ x,(enc x).length=s)(l:List α):(l.map enc).flatten.length=l.length*s:=by
 have:=aO (s:=s) (rows:=l.map enc) (fun r hr=>by obtain ⟨x,_,rfl⟩:=PF.1 hr;exact a x);simpa using this
theorem cD (a:∀ x,(enc x).length=s):∀ (l:List α)(i:Nat),(l.map enc).flatten.take (i*s)=((l.take i).map enc).flatten/\(l.map enc).flatten.drop (i*s)=((l.drop i).map enc).flatten
 | [],i=>by simp
 | x::l,0=>by simp
 | x::l,i+1=>by
  obtain ⟨h1,h2⟩:=cD a l i;have e:(i+1)*s=s+i*s:=by rw [Re];omega
  have b:=a x;constructor
  ·rw [e,Qa,QI,List.take_append,b,Qg om_,show s+i*s-s=i*s by omega,h1];simp
  rw [e,Qa,QI,R5,b,Rf om_,show s+i*s-s=i*s by omega,h2];simp
theorem eA (a:∀ x,(enc x).length=s){l:List α}{i:Nat}{x:α}(h:l[i]?=some x):((l.map enc).flatten.drop (i*s)).take s=enc x:=by
 rw [(cD a l i).2];obtain ⟨h1,h2⟩:=aJ.1 h;rw [PW h1,h2,Qa,QI];rw [List.take_append,a,Qg (by rw [a];omega)];simp
theorem bK (a:∀ x,(enc x).length=s){l:List α}{i:Nat}(x:α)(h:i<l.length):aD (l.map enc).flatten (enc x) (i*s)=((l.set i x).map enc).flatten:=by
 unfold aD;rw [a,(cD a l i).1,show i*s+s=(i+1)*s by rw [Re];omega,(cD a l (i+1)).2];rw [List.set_eq_take_append_cons_drop,aL h];simp
end
/- An element's address in a slice that begins at a known place. -/
/- A whole array, or a part of it, as a slice. -/
section
variable {cx:Cx} {n:Nat} {ds:List (Option Nat)} {R:Rg n ds} {its:List It} {fr:Fr} {C:Mem} {L:List Ent} {i k d:Nat} {o:Oper} {g:GL} {v:Value}
theorem Uu (l:Nat)(h:Nat)(m:Nat){t e c f:Nat}{a:Addr}{x:Operand}{j p q:Option Operand}{s u y:Option Value}{r z:TI}(B:Z12 (Nat.ble k 1) true o.dst (some d) o.op (.slice t x j p q) (gOf ds fr o.guard) (some g) (ev fr g x) (some (.pointer (some a))) (E7 (ev fr g) j) (some s) (E7 (ev fr g) p) (some u) (E7 (ev fr g) q) (some y) (cx.T.get t) (some r) r.k (.arr c e) (cx.T.get e) (some z) z.size f)(E:GT ds fr g->SlB c c s u y l h m)(F:Z2 (aT n ds ((d,g,.slice (some (if m=l then a else a.add (l*f))) (h-l) (m-l))::fr) d) true (wfG ds fr g) true)(G:D cx R its ((d,g,.slice (some (if m=l then a else a.add (l*f))) (h-l) (m-l))::fr) C L):D cx R ((i,k,o)::its) fr C L:=by
 have ⟨H,I,J,K,b,M,N,O,Q,A,S,U⟩:=B;have ⟨V,W⟩:=F;have X:cx.P.underlying t=some (.array c e):=by
  obtain ⟨kk,s1,b1,z1,g1⟩:=r;simp only at A;subst A;exact mj cx.hT Q
 refine D.run _ H I K (fun Y a hs w=>?_) V W G;have Z:execOp a.eval o=(do Pure.pure (.value (<- Instr.sliceAt t (a.eval x) (j.map a.eval) (p.map a.eval) (q.map a.eval))):Sem Next):=by unfold execOp;rw [J]
 rw [Z,hs _ _ b,eU (fun x v b=>hs x v b) M,eU (fun x v b=>hs x v b) N,eU (fun x v b=>hs x v b) O];have h2:=dC cx.hT S w;rw [U] at h2;simp [Instr.sliceAt,Instr.sureAddr,run_underlying X,fx (E Y),h2]
end
section
variable {cx:Cx} {n:Nat} {ds:List (Option Nat)} {R:Rg n ds} {its:List It} {fr:Fr} {C:Mem} {L:List Ent} {i k d:Nat} {o:Oper} {g:GL} {v:Value}
theorem Ub {t e l:Nat}{m:Array (Nat × Operand)}{s g:TI}(c:List (List Value))(B:Z12 (Nat.ble k 1) false o.dst (some d) (gOn ds fr o.guard) true o.op (.buildSlice t l m) (cx.T.get t) (some s) s.k (.slice e) (cx.T.get e) (some g) (rowsO (ev fr []) m.toList 0) (some c) (c.all fun r=>Nat.beq r.length g.size) true (Nat.beq m.toList.length l) true (Nat.ble (l*g.size) 16777216) true (Nat.beq g.size 0) false)(E:∀ v,aT n ds ((d,[],v)::fr) d=true)(h:∀ b p,C.le p->Sl p g.size (.slice (some ⟨b,0,none⟩) c.length c.length) c->D cx R its ((d,[],.slice (some ⟨b,0,none⟩) c.length c.length)::fr) p L):D cx R ((i,k,o)::its) fr C L:=by
 have ⟨F,G,H,I,J,K,M,u,N,O,y,z⟩:=B;have q:∀ r∈c,r.length=g.size:=fun r hr=>P5 (PT.1 N r hr);have A:=P5 O;rw [Rj] at y;have P:=(dT u q).2;refine Vc (f:=fun b=>.slice (some ⟨b,0,none⟩) c.length c.length) (ob:=.cells ⟨c.flatten⟩ e) F G H E (fun a hs w=>?_) (fun b p Q S=>?_)
 ·have U:execOp a.eval o=(do Pure.pure (.value (<- Instr.buildSlice t l (m.map fun (i,x)=>(i,a.eval x)))):Sem Next):=by unfold execOp;rw [I]
  rw [U];have V:(m.map fun (i,x)=>(i,a.eval x))=(m.toList.map fun (i,x)=>(i,a.eval x)).toArray:=by apply Rb;simp
  rw [V];simp only [Sem.run_bind,ga cx.hT J K M (fun x v W=>hs x v W) u q A y w,Result.andThen_ok,Sem.run_pure]
 refine h b p Q (Sl.ofBlock S q (fun j v X=>by simpa using X) (Py _) ?_);rw [P,A];have h0:0<g.size:=Rx (fun e=>by rw [e] at z;cases z);have:l<=l*g.size:=RR _ h0;simp only [maxLen];omega
theorem Ul {e f:Nat}{x:Operand}{m b:IntKind}{p c:Int}{q j:TI}(r:Z8 (Nat.ble k 1) true o.dst (some d) o.op (.convert e f x) (gOf ds fr o.guard) (some g) (ev fr g x) (some (.int m p)) (cx.T.get e) (some q) (cx.T.get f) (some j) j.k (.int b))(s:b.wrap p=c)(t:Z2 (aT n ds ((d,g,.int b c)::fr) d) true (wfG ds fr g) true)(h:D cx R its ((d,g,.int b c)::fr) C L):D cx R ((i,k,o)::its) fr C L :=
 have ⟨u,v,y,z,A,B,E,l⟩:=r;have ⟨F,G⟩:=t;D.run _ u v z (fun _ a hs w=>by
  have H:execOp a.eval o=(do Pure.pure (.value (<- convert e f (a.eval x))):Sem Next):=by unfold execOp;rw [y]
  rw [H,hs _ _ A];obtain ⟨du,h1,h2⟩:=(dZ cx.hT B).und;obtain ⟨I,J,b1,K,M⟩:=j;simp only at l;subst l;subst s;simp [convert,run_underlying h1,run_underlying (oz cx.hT E),Conv.intToInt]) F G h
end
theorem Tu {F:Fx}{k:List KI}{a:Fr}{C:Mem}{L L':List Ent}{e:Exit}(b:L=L')(h:G F k e a C L'):G F k e a C L:=b ▸ h
/-! ### Equal neighbours -/
end Go.Jog
namespace Go.Jog
open Go Go.RowKit Go.WideShapes Go.ChangeShapes Go.Deep
variable {W:World}{v:Value}
def qS (W:World):Mem:=fun k=>W.heap[k]?
theorem Ep (W:World):Sep (qS W) [] W:=⟨fun _ _ h=>h,fun x a=>(by cases a),List.Pairwise.nil,fun k ⟨x,a,_⟩=>(by cases a)⟩
theorem Bu {a:Addr}(h:W.cell? a=some v):CCell (qS W) a v:=by
 unfold World.cell? at h;split at h
 ·rename_i c t fz b;split at h
  ·cases h
  rename_i hs;exact ⟨by simpa using hs,c,t,fz,b,h⟩
 cases h
theorem yx {P:Program}{f:FuncId}{a:List Value}(h:Gives P f a (qS W) v):Calls P f a.toArray W fun e b=>e=.returned v/\RowKit.Below W.heap.size W b :=
 (h.2 W (Ep W)).mono fun e b ⟨u,j,l,c,d,g,m⟩=>⟨by rw [c,g],d.ev.below (fun k ⟨x,i,_⟩=>by cases i)⟩
theorem FD {α:Type}{p:Nat->α->Prop}:∀ {n:Nat},(∀ i,i<n->∃ x,p i x)->∃ l:List α,l.length=n/\∀ i x,l[i]?=some x->p i x
 | 0,_=>⟨[],rfl,fun i x h=>by simp at h⟩
 | n+1,h=>by
  obtain ⟨l,h1,h2⟩:=FD (n:=n) (fun i a=>h i om_);obtain ⟨x,b⟩:=h n om_;refine ⟨l++[x],by simp [h1],fun i y hy=>?_⟩;by_cases a:i<n
  ·rw [Qh om_] at hy;exact h2 i y hy
  rw [PX om_] at hy;have:i-l.length=0:=by
   rcases Qz (i-l.length) with h0 | h0
   ·exact h0
   rw [PJ aq] at hy;cases hy
  rw [this] at hy;simp only [List.getElem?_cons_zero,Qc] at hy;subst hy;have c:i=n:=by omega
  subst c;exact b
section
variable {H:Type} {enc:TypeId × Value->H} {P:Program} {W:World} {spare:Nat->Bool} {held:Bool}
theorem Ei {d:Type}{t e:TypeId}{k:Nat}{C:Nat}{v:Value}{x:DataW H × List MemPlace}(f:d->List Value)(E:P.underlying t=some (.slice e))(F:P.cellsOf e=k)(S:k≠0)
  (G:∀ (n:Nat)(cs:List Value)(y:DataW H × List MemPlace),cs.length=k->DataW.trod enc P W 0 spare held n e cs=some y->∃ z:d,cs=f z)
  (h:DataW.trod enc P W 0 spare held C t [v]=some x):∃ l:List d,Sl (qS W) k v (l.map f):=by
 rcases open_slice E h with ⟨h1,_⟩ | ⟨a,len,I,m,n,D,T,s,_,J,hm,K,_,w⟩
 ·simp only [RY,SZ] at h1;subst h1;exact ⟨[],Sl.nil _ _⟩
 simp only [RY,SZ] at s;subst s;have U:len<=m:=by rw [K];split <;> omega
 rw [F] at w;obtain ⟨l,A,o⟩:=FD (α:=d) (n:=len) (p:=fun i z=>W.cells? 0 (a.add (i*k)) k=some (f z)) (fun i b=>by
  obtain ⟨L,h1,h2⟩:=w i om_;obtain ⟨_,h3,_⟩:=World.cells?_some h1;obtain ⟨z,rfl⟩:=G n L _ h3 h2;exact ⟨z,h1⟩)
 refine ⟨l,some a,I,by simp [A],by simp [A];exact J,hm,fun r hr=>?_,fun i r b=>?_⟩
 ·obtain ⟨z,c,rfl⟩:=PF.1 hr;obtain ⟨i,b⟩:=Rr c;exact (World.cells?_some (o i z b)).2.1
 rw [PD] at b;cases c:l[i]? with
 | none=>rw [c] at b;cases b
 | some z =>
  rw [c] at b;simp only [Q3,Qc] at b;subst b;obtain ⟨_,h4,h5⟩:=World.cells?_some (o i z c);have M:∀ j u,(f z)[j]?=some u->W.cell? ((a.add (i*k)).add j)=some u:=fun j u g=>by
   have N:j<k:=by rw [<- h4];exact (aJ.1 g).1
   rw [h5 j N];exact g
  have hs:a.spot=none:=by
   have h0:0<l.length:=by have:=(aJ.1 c).1;omega
   obtain ⟨q,O⟩:∃ q,l[0]?=some q:=⟨l[0],al h0⟩;obtain ⟨_,V,Q⟩:=World.cells?_some (o 0 q O);have B:=Q 0 om_;rw [al om_] at B;have R:=(Bu B).1;simpa [Addr.add] using R
  exact ⟨a,Z,hs,fun j u g=>by
   have:=Bu (M j u g)
   rwa [uJ a _ _ hs] at this⟩
theorem tI {f:Func}{s:ChangeSpec}{m y z A:Bool}{W e:World}{k:Array Value}{v:Value}{g h:List (DataW H)}{c pa pv:List MemPlace}
  (l:DataW.Whole enc P f.params.toList s.vars m W k.toList g h c)
  (n:∀ (b:Nat)(d:Nat->Bool)(B:Bool),DataW.TrodAll enc P e b d B f.resultTypes.toList (v.resultList f.resultTypes.size) (s.fn H (g++h)).results [])
  (o:∀ d:Nat->Bool,(∀ p∈c,d p.block=true)->DataW.TrodAll enc P e 0 d true f.params.toList k.toList (s.fn H (g++h)).args pa)
  (q:∀ d:Nat->Bool,(∀ p∈c,d p.block=true)->DataW.TrodVars enc P e d s.vars (s.fn H (g++h)).vars pv)
  (i:c=pa++pv) (u:RowKit.Below W.heap.size W e)
  (C:∀ (j:Nat)(t:TypeId)(r:Value),f.resultTypes[j]?=some t->(v.resultList f.resultTypes.size)[j]?=some r->Value.okWide P e .any 0 t r) :
  s.post enc P f m y z A W k v e:=by
 have w:∀ p∈c,p.block<W.heap.size:=fun p a=>l.lt p a;have hold:∀ p∈c,(fun b=>decide (b<W.heap.size)) p.block=true:=fun p a=>by simpa using w p a
 refine ⟨g,h,c,[],pa,pv,l,n _ _ _,o _ hold,q _ hold,World.keptBut_mono (fun p a=>⟨a, ?_⟩) (u.frame (·∈c)),fun _=>?_⟩
 ·rw [i,PQ] at a;exact Or.inr a
 obtain ⟨_,_,_,_,_,D,E⟩:=l;refine ⟨C,_,_,([]++pa)++pv,⟨[]++pa,pv,trodAll_append (o _ (fun _ _=>rfl)) (n _ _ _),q _ (fun _ _=>rfl),Z, ?_, ?_⟩, ?_⟩
 ·intro b off a;have x:MemPlace.cell b off∈c:=by rw [i];simpa using a
  rw [u.frozen (w _ x)];exact D b off x
 ·intro F;have:=E F;rw [i] at this;simpa using this
 intro p a _;rw [i];simpa using a
end
end Go.Jog
namespace Go.Jog
open Go
def yB (P:Program)(t:Nat):Bool:=match P.underlying t with
 | some (.array _ e)=>(match P.underlying e with | some d=>rD d | none=>false) && Nat.beq (P.cellsOf e) 1 && !(P.eqGuardType P.depth t) && (P.info? e).isSome
 | _=>false
def Pb (P:Program)(t:Nat)(xs:List Value):Bool:=match P.underlying t with
 | some (.array m e)=>Nat.beq xs.length m && xs.all (fun x=>rZ (P.underlying e) x)
 | _=>false
theorem iu {P:Program}{e:TypeId}{d:TypeDesc}(m:Nat)(w:World)(c:P.underlying e=some d)(f:rD d=true):∀ {xs ys X Y:List Value}{i:Nat}{b:Bool},xs.all (fun x=>rZ (P.underlying e) x)=true->jf xs ys=some b->X.drop i=xs->Y.drop i=ys ->
  (Op.eqItems (m+1) e 1 ⟨X⟩ ⟨Y⟩ (List.range' i xs.length)).run P w=.ok b w
 | [],ys,X,Y,i,b,_,a,_,_=>by
  cases ys with
  | nil=>simp [jf] at a;subst a;simp [Op.eqItems]
  | cons=>simp [jf] at a
 | x::xs,ys,X,Y,i,b,g,a,h,j=>by
  cases ys with
  | nil=>simp [jf] at a
  | cons y ys =>
   simp only [List.all_cons,PL] at g;simp only [jf] at a;split at a
   ·rename_i p q k l;cases a
    have n:X[i]?=some x:=by
     have:=congrArg (·[0]?) h;simpa using this
    have hy:Y[i]?=some y:=by
     have:=congrArg (·[0]?) j;simpa using this
    have o:X.drop (i+1)=xs:=by
     have:=congrArg (List.drop 1) h;simpa using this
    have r:Y.drop (i+1)=ys:=by
     have:=congrArg (List.drop 1) j;simpa using this
    have hr:=zV k m w g.1;have s:=iu m w c f g.2 l o r;simp only [PR,S7,Op.eqItems,QG,Sem.run_bind,iJ c f n w,iJ c f hy w,hr,Result.andThen_ok];cases p
    ·simp
    simpa using s
   cases a
theorem Cd {P:Program}{t:Nat}(a:yB P t=true){xs ys:List Value}(c:Pb P t xs=true){b:Bool}(i:jf xs ys=some b)(w:World):(Op.equalIn 10000 t (.agg ⟨xs⟩) (.agg ⟨ys⟩)).run P w=.ok b w:=by
 unfold yB at a;unfold Pb at c;cases f:P.underlying t with
 | none=>rw [f] at a;cases a
 | some D =>
  rw [f] at a c;cases D <;> try (cases a)
  rename_i n e;simp only [PL] at a c;obtain ⟨⟨⟨h1,h2⟩,h3⟩,h4⟩:=a;have j:=P5 h2;have k:=P5 c.1;cases h:P.info? e with
  | none=>rw [h] at h4;cases h4
  | some inf =>
   cases g:P.underlying e with
   | none=>rw [g] at h1;cases h1
   | some d =>
    rw [g] at h1;rw [run_equalIn_array w 9999 ⟨xs⟩ ⟨ys⟩ f h,j,<- k,SM];exact iu 9998 w g h1 c.2 i Z Z
end Go.Jog
namespace Go.Jog
open Go
inductive OT where
 | fin (π:List Nat)
 | cut (π:List Nat) (t:OT)
 | alt (i:Nat) (t:OT) (r:OT)
 | stop
section
variable {P:Program} {ops:Array Oper} {ι:Type} {cls:ι->World->Prop} {le:ι->ι->Prop} {md:Region.Mode}
def DT (P:Program)(ops:Array Oper)(cls:ι->World->Prop)(le:ι->ι->Prop)(kd:Nat->Nat)(Post:Act->ι->Prop):OT->Act->ι->Prop
 | .fin π=>DU P ops cls le kd Post π
 | .cut π t=>DU P ops cls le kd (DT P ops cls le kd Post t) π
 | .alt i t r=>fun a κ=>gn P ops cls le (kd i) i (DT P ops cls le kd Post t) a κ/\DT P ops cls le kd Post r a κ
 | .stop=>fun _ _=>True
def ja:OT->List Nat
 | .alt i _ r=>i::ja r
 | _=>[]
def Md:OT->Bool
 | .fin _ | .cut _ _=>true
 | _=>false
def gV:List Nat->Array Bool->Array Bool
 | [],listed=>listed
 | i::π,listed=>gV π (listed.setIfInBounds i true)
def ND (md:Region.Mode)(ops:Array Oper)(kd:Nat->Nat):List Nat->Array Bool->Bool
 | [],_=>true
 | i::π,listed=>(bif Nat.ble (kd i) 1 then (Region.ready md ops listed).contains i && I8 md ops kd listed i else (Region.ready md ops listed == [i])) && ND md ops kd π (listed.setIfInBounds i true)
def HS (md:Region.Mode)(ops:Array Oper)(kd:Nat->Nat):OT->Nat->Array Bool->Bool
 | .fin π,f,listed=>Nat.beq π.length f && (ND md ops kd π listed && (Region.ready md ops (gV π listed)).isEmpty)
 | .cut π t,f,listed=>Nat.blt π.length f && (ND md ops kd π listed && ((Region.ready md ops (gV π listed)).all (fun i=>(ja t).contains i) && (!(Region.ready md ops (gV π listed)).isEmpty && HS md ops kd t (f-π.length) (gV π listed))))
 | .alt i t r,f,listed=>(Nat.blt 0 f && (Md t && HS md ops kd t (f-1) (listed.setIfInBounds i true))) && HS md ops kd r f listed
 | .stop,_,_=>true
theorem fb (r:∀ a b c,le a b->le b c->le a c){k:Nat->Nat}{u K:Act->ι->Prop}(s:Region.noSelect ops=true){f:Nat} :
  ∀ (d:List Nat)(e:Array Bool)(a:Act)(κ:ι),Closed md ops e->ND md ops k d e=true->(∀ a κ,Closed md ops (gV d e)->K a κ->kO P md ops cls le k u f (gV d e) a κ) ->
   DU P ops cls le k K d a κ->kO P md ops cls le k u (d.length+f) e a κ
 | [],e,a,κ,l,_,n,h=>by
  rw [P6,QV];exact n a κ l h
 | i::d,e,a,κ,l,w,n,h=>by
  simp only [ND,PL] at w;obtain ⟨g,x⟩:=w;rw [PR,Nat.add_right_comm];by_cases p:k i<=1
  ·have t:Nat.ble (k i) 1=true:=by rw [Rj];exact p
   rw [t] at g;simp only [Q9,PL,SH] at g;obtain ⟨hr,y⟩:=g;simp only [DU] at h;unfold gn at h;cases q:ops[i]? with
   | none=>simp only [q] at h
   | some o =>
    simp only [q,p,Rp] at h;obtain ⟨v,hy,A⟩:=h;refine nh (F:=ops.size) r q p (fun j o cs b=>Region.noSelect_spec s j o cs b) (d.length+f) e a κ l (fun j I m B C=>?_) hr hy
     (fb r s d _ _ κ (l.set hr) x n A)
    simp only [I8,q,PT,PS] at y;have:=y j (Rt.1 m).1;simp only [m,Ro,Q0,B,false_or,C,Qr,PL,Rj] at this;rcases this with h1 | h1
    ·exact .inr h1
    exact .inl h1
  have t:Nat.ble (k i) 1=false:=by
   cases z:Nat.ble (k i) 1 with
   | false=>rfl
   | true=>exact absurd (by rw [Rj] at z;exact z) p
  rw [t] at g;simp only [cond_false,Q0] at g;have D:i∈Region.ready md ops e:=by rw [g];simp
  refine ⟨fun h0=>(by rw [h0] at g;cases g),fun j m=>?_⟩;rw [g] at m;obtain rfl:j=i:=by simpa using m
  exact jp (fun E G H=>fb r s d _ E G (l.set D) x n H) h
theorem fS (p:∀ a b c,le a b->le b c->le a c){q:Nat->Nat}{z:Act->ι->Prop}(s:Region.noSelect ops=true) :
  ∀ (t:OT)(f:Nat)(d:Array Bool)(a:Act)(κ:ι),Closed md ops d->HS md ops q t f d=true->DT P ops cls le q z t a κ ->
   (match t with
    | .fin _ | .cut _ _=>kO P md ops cls le q z f d a κ
    | _=>∀ i∈ja t,i∈Region.ready md ops d->(∃ n,f=n+1/\gn P ops cls le (q i) i (kO P md ops cls le q z n (d.setIfInBounds i true)) a κ))
 | .fin g,f,d,a,κ,o,k,h=>by
  simp only [HS,PL,R6] at k;obtain ⟨A,u,v⟩:=k;have:=P5 A;have h2:=fb (f:=0) p s g d a κ o u (fun a κ _ B=>⟨v,B⟩) h;rw [Ru,this] at h2;exact h2
 | .cut g t,f,d,a,κ,o,k,h=>by
  simp only [HS,PL,PT] at k;obtain ⟨A,u,v,C,F⟩:=k;rw [S6] at A;have G:Region.ready md ops (gV g d)≠[]:=fun e=>by rw [e] at C;cases C
  have h2:=fb (f:=f-g.length) p s g d a κ o u (fun a κ H B=>by
   have l:=fS p s t (f-g.length) (gV g d) a κ H F B;obtain ⟨n,I⟩:∃ n,f-g.length=n+1:=⟨f-g.length-1,by omega⟩;rw [I] at l ⊢;refine ⟨fun h0=>absurd h0 G,fun i m=>?_⟩;have w:=v i m;rw [SH] at w;cases t with
   | fin x=>simp [ja] at w
   | cut x y=>simp [ja] at w
   | stop=>simp [ja] at w
   | alt j y r' =>
    obtain ⟨J,Q,hs⟩:=l i w m;obtain rfl:n=J:=by omega
    exact hs) h
  rw [show g.length+(f-g.length)=f by omega] at h2;exact h2
 | .alt j t r,f,d,a,κ,o,k,h=>by
  simp only [HS,PL] at k;obtain ⟨⟨K,D,u⟩,v⟩:=k;rw [S6] at K;intro i m hr;simp only [ja,PN] at m;by_cases E:i=j
  ·subst E;refine ⟨f-1,by omega,jp (fun L M N=>?_) h.1⟩;have l:=fS p s t (f-1) _ L M (o.set hr) u N;cases t with
   | fin x=>exact l
   | cut x y=>exact l
   | stop=>cases D
   | alt O y r'=>cases D
  have h2:=m.resolve_left E;have l:=fS p s r f d a κ o v h.2;cases r with
  | fin x=>simp [ja] at h2
  | cut x y=>simp [ja] at h2
  | stop=>simp [ja] at h2
  | alt O y r'=>exact l i h2 hr
 | .stop,_,_,_,_,_,_,_=>by
  intro i m;simp [ja] at m
theorem qL (W:Cw P)(n:W.nd ops)(d:∀ κ,le κ κ)(o:∀ a b c,le a b->le b c->le a c){e:Nat->Nat}{f:Act->ι->Prop}{p:Nat}{Q:Exit->Act->World->Prop}{a:Act}{w:World}{κ:ι}
  (q:P.follows .mixedOrders=true) (g:cls κ { w with drawn:=w.drawn+1 }) (t:OT) (k:Md t=true)
  (l:(Region.noSelect ops && HS .any ops e t ops.size (Array.replicate ops.size false))=true) (h:DT P ops cls le e f t a κ)
  (m:∀ a κ w,f a κ->cls κ w->Q .normal a w):W.wp (Code.region p ops true) Q a w:=by
 simp only [PL] at l;obtain ⟨hs,s⟩:=l;refine W.any q n ?_;have h0:Closed .any ops (Array.replicate ops.size false):=fun j x _ u=>by
  rcases P4 j ops.size with h | h <;> simp [h] at u
 have:=fS o hs t ops.size _ a κ h0 s h;cases t with
 | fin v=>exact jn d m _ _ _ _ _ g this
 | cut v t=>exact jn d m _ _ _ _ _ g this
 | stop=>cases k
 | alt i t r=>cases k
end
/-! ### In the logic -/
section
variable {cx:Cx} {n:Nat} {ds:List (Option Nat)} {fr:Fr} {C:Mem} {L:List Ent}
def RgT (P:Program)(R:Rg n ds)(t:OT):Rg n ds:=⟨R.b,R.ops,R.kd,DT P R.ops R.b.cls kle R.kd R.Post t,R.hy,R.dd⟩
def DN (cx:Cx)(R:Rg n ds)(l:List Oper)(ov:List (Nat × Nat)):OT->Fr->Mem->List Ent->Prop
 | .fin π=>D cx R (iV l ov π)
 | .cut π t=>D cx (RgT cx.P R t) (iV l ov π)
 | _=>fun _ _ _=>True
def DA (cx:Cx)(R:Rg n ds)(l:List Oper)(ov:List (Nat × Nat)):OT->Fr->Mem->List Ent->Prop
 | .alt i (.fin π) r=>fun fr C L=>D cx R (iV l ov (i::π)) fr C L/\DA cx R l ov r fr C L
 | .alt i (.cut π t) r=>fun fr C L=>D cx (RgT cx.P R t) (iV l ov (i::π)) fr C L/\DA cx R l ov r fr C L
 | .stop=>fun _ _ _=>True
 | _=>fun _ _ _=>False
def I2 (m:Nat):OT->Bool
 | .fin π=>π.all (fun i=>Nat.blt i m)
 | .cut π t=>π.all (fun i=>Nat.blt i m) && I2 m t
 | .alt i t r=>Nat.blt i m && (I2 m t && I2 m r)
 | .stop=>true
theorem ua {R:Rg n ds}{l:List Oper}{a:List (Nat × Nat)}(d:∀ i,i<l.length->R.kd i=ovr a i (gu (pj l i))/\R.ops[i]?=some (pj l i)){b:List Nat}(h:b.all (fun i=>Nat.blt i l.length)=true) :
  ∀ x∈iV l a b,R.kd x.1=x.2.1/\R.ops[x.1]?=some x.2.2:=fun x e=>by
 obtain ⟨h1,h2,h3⟩:=iU e;have c:=PT.1 h x.1 h1;rw [S6] at c;have:=d x.1 c;exact ⟨this.1.trans h2.symm,by rw [this.2,h3]⟩
theorem uL {R:Rg n ds}{l:List Oper}{g:List (Nat × Nat)}(d:∀ i,i<l.length->R.kd i=ovr g i (gu (pj l i))/\R.ops[i]?=some (pj l i))(e:R.b.C0.le C){a:Act}(f:FrOk n ds R.dd fr a) :
  ∀ (t:OT),I2 l.length t=true->DA cx R l g t fr C L->DT cx.P R.ops R.b.cls kle R.kd R.Post t a (C,L)
 | .alt i (.fin j) r,c,h=>by
  simp only [I2,PL] at c;have h1:=h.1 e (ua d (by simp only [List.all_cons,PL];exact ⟨c.1,c.2.1⟩)) a f;rw [eV] at h1;exact ⟨h1,uL d e f r c.2.2 h.2⟩
 | .alt i (.cut j t) r,c,h=>by
  simp only [I2,PL] at c;have h1:=h.1 e (ua (R:=RgT cx.P R t) d (by simp only [List.all_cons,PL];exact ⟨c.1,c.2.1.1⟩)) a f;rw [eV] at h1;exact ⟨h1,uL d e f r c.2.2 h.2⟩
 | .stop,_,_=>trivial
 | .fin _,_,h=>h.elim
 | .cut _ _,_,h=>h.elim
 | .alt _ (.alt _ _ _) _,_,h=>h.elim
 | .alt _ .stop _,_,h=>h.elim
theorem TP {R:Rg n ds}{l:List Oper}{a:List (Nat × Nat)}{t:OT}(b:∀ i,i<l.length->R.kd i=ovr a i (gu (pj l i))/\R.ops[i]?=some (pj l i))(c:I2 l.length t=true)(h:DA cx R l a t fr C L):D cx (RgT cx.P R t) [] fr C L :=
 fun h0 _ _ d=>uL b h0 d t c h
end
section
variable {F:Fx} {k:List KI} {fr:Fr} {C:Mem} {L:List Ent}
theorem TX {z:Nat}{l:List Oper}(t:OT)(f:List (Nat × Nat))(A:Z2 (fr.all (fun x=>x.2.1.isEmpty)) true (Md t) true)(j:((Region.noSelect l.toArray && HS .any l.toArray (fun i=>ovr f i (gu (pj l i))) t l.toArray.size (Array.replicate l.toArray.size false)) && I2 l.length t)=true)(h:∀ R:Rg F.n (l.map (·.dst)),C.le R.b.C0->(∀ fr C L,fr.all (fun x=>x.2.1.isEmpty)=true->G F (jX 64 k) .normal fr C L->D F.cx R [] fr C L) ->
   (∀ i,i<l.length->R.kd i=ovr f i (gu (pj l i))/\R.ops[i]?=some (pj l i))->DN F.cx R l f t fr C L)(B:F.W.nd l.toArray:=by first | exact trivial | exact rfl) :
  G F (.code (.region z l.toArray true)::k) .normal fr C L:=have ⟨c,o⟩:=A;fun h0 a w d e=>by
 simp only [Kq];rw [PL] at j
 let kd:=fun i=>ovr f i (gu (pj l i))
 let b:Bs:=⟨F.b.w0,C,F.b.L0⟩
 let Post:Act->Mem × List Ent->Prop:=fun a κ=>∀ w,b.cls κ w->Kq F k .normal a w
 let R:Rg F.n (l.map (·.dst)):=⟨b,l.toArray,kd,Post,fun tmps=>jm l tmps,F.dd⟩
 have E:∀ κ w,b.cls κ w->F.b.cls κ w:=fun κ w H=>St.unbase h0 e.cn H;have q:∀ i,i<l.length->R.kd i=ovr f i (gu (pj l i))/\R.ops[i]?=some (pj l i):=fun i m=>⟨rfl,by
  show (l.toArray)[i]?=_;rw [QT,iS m]⟩
 have u:=h R (Mem.le.refl _) (fun fr O L c I J _ a d w e=>TW 64 I (h0.trans J) a w ⟨d.size,d.defers,fun s g v y=>by
  have hm:=PT.1 c _ (Fr.get_mem y);simp only [R6] at hm;subst hm;exact ⟨fun _=>(d.ent s [] v y).1 (fun p c=>by cases c),fun K=>absurd (fun p c=>by cases c) K⟩⟩ (E _ _ e)) q
 have hT:DT F.cx.P l.toArray b.cls kle kd Post t a (C,L):=by
  cases t with
  | fin M =>
   have h1:=u (Mem.le.refl _) (ua q j.2) a (d.enter _ c);rw [eV] at h1;exact h1
  | cut M t =>
   have m:=j.2;simp only [I2,PL] at m;have h1:=u (Mem.le.refl _) (ua (R:=RgT F.cx.P R t) q m.1) a (d.enter _ c);rw [eV] at h1;exact h1
  | stop=>cases o
  | alt i t r=>cases o
 exact qL F.W B (cls:=b.cls) (le:=kle) kle.refl kle.trans F.cx.mixed (St.rebase (St.drew e)) t o j.1 hT (fun a κ w N e=>N w e)
theorem Vl {e:List (Option Nat)}{R:Rg F.n e}{l:List Oper}{b:List (Nat × Nat)}{t:OT}{c:Fr}{a:Mem}{d:List Ent}(_:∀ fr C L,fr.all (fun x=>x.2.1.isEmpty)=true->G F k .normal fr C L->D F.cx R [] fr C L)(fr:Nat->Nat->Fr)(L:Nat->Nat->List Ent)
  (f:(∀ b1 b2,G F k .normal (fr b1 b2) a (L b1 b2))->DN F.cx R l b t c a d) (h:∀ b1 b2,G F k .normal (fr b1 b2) a (L b1 b2)):DN F.cx R l b t c a d:=f h
end
end Go.Jog
namespace Go.Jog
open Go Go.MapKept
section
variable {κ β:Type} [DecidableEq κ]
def dU:List (κ × β)->κ->Option β
 | [],_=>none
 | (k',v)::m,k=>if k'=k then some v else dU m k
def iv:List (κ × β)->κ->β->List (κ × β)
 | [],k,v=>[(k,v)]
 | (k',v')::m,k,v=>if k'=k then (k,v)::m else (k',v')::iv m k v
theorem AN {a:Type}(f:β->a):∀ (m:List (κ × β))(k:κ),dU (m.map fun p=>(p.1,f p.2)) k=(dU m k).map f
 | [],_=>rfl
 | (b,v)::m,k=>by
  simp only [Qa,dU];split
  ·rfl
  exact AN f m k
def jZ:List (κ × β)->κ->Option (Nat × β)
 | [],_=>none
 | (k',v)::m,k=>if k'=k then some (0,v) else (jZ m k).map fun p=>(p.1+1,p.2)
theorem pm:∀ (m:List (κ × β))(k:κ),(jZ m k).map (·.2)=dU m k
 | [],_=>rfl
 | (a,v)::m,k=>by
  simp only [jZ,dU];split
  ·rfl
  rw [<- pm m k];cases jZ m k <;> rfl
end
structure KeyT (d:TypeDesc)(κ:Type)[DecidableEq κ] where
 enc:κ->Value
 isKey:∀ a,IsKey d (enc a)
 same:∀ a b,Instr.sameNow d (enc a) (enc b)=some (decide (a=b))
def bG {κ:Type}(enc:κ->Value):List (κ × Value)->Nat->List MapEntry
 | [],_=>[]
 | (k,v)::m,i=>⟨enc k,v,i⟩::bG enc m (i+1)
def aU {κ:Type}(enc:κ->Value)(m:List (κ × Value)):Obj:=.map ⟨bG enc m 0⟩ m.length
section
variable {d:TypeDesc} {κ:Type} [DecidableEq κ] (K:KeyT d κ)
theorem ib (k:κ):∀ (m:List (κ × Value))(i j:Nat),Instr.findNow d (K.enc k) (bG K.enc m i) j=some ((jZ m k).map fun p=>(j+p.1,p.2))
 | [],i,j=>rfl
 | (a,v)::m,i,j=>by
  simp only [bG,Instr.findNow,K.same];by_cases h:k=a
  ·subst h;simp [jZ]
  have b:¬ a=k:=fun e=>h e.symm;simp only [h,decide_false,ib k m (i+1) (j+1),jZ,aF b];cases jZ m k with
  | none=>rfl
  | some p=>simp;omega
theorem ns {a:Type}(b:a->Value):∀ (m:List (a × Value))(i:Nat),(bG b m i).length=m.length
 | [],_=>rfl
 | _::m,i=>by simp [bG,ns b m]
theorem rQ {k:κ}{v:Value}:∀ {m:List (κ × Value)}{i:Nat},jZ m k=none->bG K.enc m i++[⟨K.enc k,v,i+m.length⟩]=bG K.enc (iv m k v) i/\(iv m k v).length=m.length+1
 | [],i,_=>⟨rfl,rfl⟩
 | (d,e)::m,i,h=>by
  simp only [jZ] at h;split at h
  ·cases h
  rename_i a;have b:jZ m k=none:=by
   cases c:jZ m k with
   | none=>rfl
   | some p=>rw [c] at h;cases h
  obtain ⟨h1,h2⟩:=rQ (i:=i+1) (v:=v) b;simp only [iv,aF a,bG,Rh,PR,h2];refine ⟨?_,trivial⟩;rw [<- h1];congr 3;congr 1;omega
theorem rP {k:κ}{v:Value}:∀ {m:List (κ × Value)}{i q:Nat}{u:Value},jZ m k=some (q,u)->(bG K.enc m i).modify q (fun e=>{ e with key:=K.enc k,val:=v })=bG K.enc (iv m k v) i/\(iv m k v).length=m.length/\((bG K.enc m i)[q]?).map (·.key)=some (K.enc k)
 | [],_,_,_,h=>by cases h
 | (c,d)::m,i,q,u,h=>by
  simp only [jZ] at h;split at h
  ·rename_i e;subst e;cases h
   simp [bG,iv]
  rename_i b;cases a:jZ m k with
  | none=>rw [a] at h;cases h
  | some p =>
   obtain ⟨f,g⟩:=p;rw [a] at h;cases h
   obtain ⟨h1,h2,h3⟩:=rP (i:=i+1) (v:=v) a;simp only [iv,aF b,bG,PR,h2,List.modify_succ_cons,h1];exact ⟨trivial,trivial,by simpa using h3⟩
end
theorem gH {T:Tab}{P:Program}(f:nK P T=true){t k e:Nat}{a:TI}(h:T.get t=some a)(c:a.k=.map k e):P.underlying t=some (.map k e):=by
 obtain ⟨i,s,b,z,g⟩:=a;simp only at c;subst c;obtain ⟨d,h1,h2⟩:=Kw f h;cases d <;> simp [tkB] at h2
 rw [h1,h2.1,h2.2]
section
variable {cx:Cx} {n:Nat} {ds:List (Option Nat)} {R:Rg n ds} {its:List It} {fr:Fr} {C:Mem} {L:List Ent} {i k d:Nat} {o:Oper} {g:GL} {v:Value}
variable {kd:TypeDesc} {κ:Type} [DecidableEq κ] (K:KeyT kd κ)
theorem D.makeMap {t:Nat}(c:Nat.ble k 1=false)(e:o.dst=some d)(g:gOn ds fr o.guard=true)(j:o.op=.makeMap t none)(l:∀ v,aT n ds ((d,[],v)::fr) d=true)
  (h:∀ b,D cx R its ((d,[],.map (some b))::fr) C (.obj b (aU K.enc [])::L)):D cx R ((i,k,o)::its) fr C L :=
 UG (f:=fun b=>.map (some b)) (ob:=aU K.enc []) c e g l (fun a _ w=>by
  have m:execOp a.eval o=(do Pure.pure (.value (<- Instr.makeMap t none)):Sem Next):=by unfold execOp;rw [j];rfl
  rw [m];rfl) h
def lB (z:Value)(ok:Bool):Option Value->Value
 | some u=>bif ok then .tuple #[u,.bool true] else u
 | none=>bif ok then .tuple #[z,.bool false] else z
theorem Cb {P:Program}{T:Tab}(c:nK P T=true){t d e:Nat}{f g:TI}{a:Bool}(i:T.get t=some f)(j:f.k=.map d e)(h:P.underlying d=some kd)(l:T.get e=some g){w:World}{b:Nat}{m:List (κ × Value)}(n:w.heap[b]?=some (aU K.enc m))(y:κ) :
  (Instr.lookup t (.map (some b)) (K.enc y) a).run P w=.ok (lB g.zv a (dU m y)) w:=by
 have o:=gH c i j;have q:=ib K y m 0 0;have h1:(getObj b).run P w=.ok (.map ⟨bG K.enc m 0⟩ m.length) w:=Go.MapKept.run_getObj_map n;have h2:=run_findKey (P:=P) (w:=w) h q;rw [<- pm];unfold Instr.lookup;simp only [Sem.run_bind,run_underlying o,Result.andThen_ok,h1,Sem.run_pure,run_checkKey h (K.isKey y)];rw [h2];cases jZ m y with
 | none=>cases a <;> simp [lB,sT c l w]
 | some p=>cases a <;> simp [lB]
theorem UF {b t j l:Nat}{x y:Operand}{c:Bool}{m:List (κ × Value)}{f:κ}{p q:TI}(s:Ent.obj b (aU K.enc m)∈L)(r:k=1)(u:o.dst=some d)(z:o.op=.lookup t x y c)(A:gOf ds fr o.guard=some g)(B:ev fr g x=some (.map (some b)))(E:ev fr g y=some (K.enc f))
  (F:cx.T.get t=some p) (G:p.k=.map j l) (H:cx.P.underlying j=some kd) (I:cx.T.get l=some q) (J:lB q.zv c (dU m f)=v) (M:aT n ds ((d,g,v)::fr) d=true) (N:wfG ds fr g=true)
  (h:D cx R its ((d,g,v)::fr) C L):D cx R ((i,k,o)::its) fr C L :=
 TU (by subst r;rfl) u A M N (fun _ a hs W O w Q=>by
  have S:w.heap[b]?=some (aU K.enc m):=Q.sep.e _ ((O r).2 _ s);have U:(execOp a.eval o).run cx.P w=.ok (.value v) w:=by
   have V:execOp a.eval o=(do Pure.pure (.value (<- Instr.lookup t (a.eval x) (a.eval y) c)):Sem Next):=by unfold execOp;rw [z]
   rw [V,hs _ _ B,hs _ _ E,<- J];simp only [Sem.run_bind,Cb K cx.hT F G H I S f,Result.andThen_ok,Sem.run_pure]
  unfold Oper.quietAt;rw [U];exact ⟨Z,Z⟩) h
theorem D.mapUpdate {t l F j b:Nat}{x y z:Operand}{m:List (κ × Value)}{c:κ}{n:TI}(G:k=3)(H:gOn ds fr o.guard=true)(I:o.dst=none)(J:o.op=.mapUpdate t x y z)
  (M:ev fr [] x=some (.map (some b))) (N:ev fr [] y=some (K.enc c)) (O:ev fr [] z=some v) (Q:L[j]?=some (.obj b (aU K.enc m)))
  (U:cx.T.get t=some n) (V:n.k=.map l F) (r:cx.P.underlying l=some kd)
  (h:D cx R its fr C (.obj b (aU K.enc (iv m c v))::L.eraseIdx j)):D cx R ((i,k,o)::its) fr C L :=
 UD (S:=fun s L'=>s=C/\L'=.obj b (aU K.enc (iv m c v))::L.eraseIdx j) (by subst G;rfl) H (fun a hs w _ W=>by
  have A:=St.perm W (ak Q);have f:w.heap[b]?=some (aU K.enc m):=A.sep.e _ (PB ..);have X:=gH cx.hT U V;have Y:=ib K c m 0 0;have h1:(getObj b).run cx.P w=.ok (.map ⟨bG K.enc m 0⟩ m.length) w:=Go.MapKept.run_getObj_map f;have h2:=run_findKey (P:=cx.P) (w:=w) r Y;have aa:(Instr.mapUpdate t (.map (some b)) (K.enc c) v).run cx.P w=.ok () { w with heap:=w.heap.setIfInBounds b (aU K.enc (iv m c v)) }:=by
   unfold Instr.mapUpdate;simp only [Sem.run_bind,run_underlying X,Result.andThen_ok,h1,run_checkKey r (K.isKey c)];rw [h2];cases B:jZ m c with
   | none =>
    obtain ⟨h3,h4⟩:=rQ K (v:=v) (i:=0) B;simp only [Option.map_none,Result.andThen_ok];rw [Go.MapKept.run_setObj_map (P:=cx.P) _ f];congr 2;simp only [aU,h4,<- h3,QV];congr 2;apply Rb;simp
   | some p =>
    obtain ⟨q,u⟩:=p;obtain ⟨h3,h4,h5⟩:=rP K (v:=v) (i:=0) B;have hq:(((⟨bG K.enc m 0⟩:Array MapEntry)[0+q]?).map (·.key)).getD (K.enc c)=K.enc c:=by
     rw [QV];show (((bG K.enc m 0).toArray[q]?).map (·.key)).getD (K.enc c)=K.enc c;rw [QT,h5];rfl
    simp only [Q3,Result.andThen_ok,Sem.run_bind];rw [hq,run_keyThatStays (d:=kd) (K.isKey c)];simp only [Result.andThen_ok];rw [Go.MapKept.run_setObj_map (P:=cx.P) _ f];congr 2;simp only [aU,h4,<- h3,QV];congr 2;apply Rb;simp
  have ab:(execOp a.eval o).run cx.P w=.ok .skip { w with heap:=w.heap.setIfInBounds b (aU K.enc (iv m c v)) }:=by
   have g:execOp a.eval o=(do Instr.mapUpdate t (a.eval x) (a.eval y) (a.eval z);Pure.pure .skip:Sem Next):=by unfold execOp;rw [J]
   rw [g,hs _ _ M,hs _ _ N,hs _ _ O];simp only [Sem.run_bind,aa,Result.andThen_ok,Sem.run_pure]
  unfold Oper.wp;rw [ab];have E:=heap_set (o':=aU K.enc (iv m c v)) f;refine ⟨C,.obj b (aU K.enc (iv m c v))::L.eraseIdx j, ?_,Mem.le.refl _,fun h2=>by omega,St.put A E.1 E.2 ap Z Z Z (Py _),Z,Z⟩;rw [I];rfl)
  (fun s L' _ ⟨g,e2⟩=>by subst g;subst e2;exact h)
end
theorem D9 (a b:List UInt8):((⟨a.toArray⟩:ByteArray) == ⟨b.toArray⟩)=decide (a=b):=by
 by_cases h:a=b
 ·subst h;simp [(bytes_beq _ _).2 rfl]
 have:¬ ((⟨a.toArray⟩:ByteArray) == ⟨b.toArray⟩)=true:=fun e=>h (by
  have:=(bytes_beq _ _).1 e;have h2:=congrArg (fun x:ByteArray=>x.data.toList) this;simpa using h2)
 simp [h,Bool.eq_false_iff.2 this]
def keyS:KeyT .string (List UInt8) where
 enc s:=.string ⟨s.toArray⟩
 isKey _:=trivial
 same a b:=by simp only [Instr.sameNow,D9]
end Go.Jog
namespace Go.Jog
open Go
variable {C C0:Mem}{L L0:List Ent}{b:Nat}{ob:Obj}{w w0:World}
def Mem.unset (C:Mem)(b:Nat):Mem:=fun k=>if k=b then none else C k
theorem Mem.unset_le (C:Mem)(b:Nat):(C.unset b).le C:=fun k o h=>by
 unfold Mem.unset at h;split at h
 ·cases h
 exact h
theorem Mem.le_unset {D:Mem}(h:C.le D)(c:C b=none):C.le (D.unset b):=fun k o a=>by
 unfold Mem.unset;split
 ·rename_i e;subst e;rw [c] at a;cases a
 exact h k o a
theorem St.aside (h:St w0 C0 L0 C (.obj b ob::L) w):St w (C.set b ob) L (C.set b ob) L w :=
 (St.freeze h).2 |> fun s=>St.start s.sep
theorem St.back {f:Mem}{g:List Ent}{i:World}(h:St w0 C0 L0 C (.obj b ob::L) w)(k:St w (C.set b ob) L f g i):St w0 C0 L0 (f.unset b) (.obj b ob::g) i:=by
 have j:C b=none:=h.sep.n b ⟨_,PB ..,rfl⟩;have l:C.le f:=(Mem.le_set j).trans k.c0;have m:St w C L (f.unset b) g i:=⟨⟨fun q o a=>k.sep.c q o (Mem.unset_le _ _ q o a),k.sep.e,k.sep.d,fun q a=>by
   have:=k.sep.n q a;unfold Mem.unset;split
   ·rfl
   ·exact this⟩,k.ev,Mem.le_unset l j,fun q o a=>by
   have p:q≠b:=fun e=>by subst e;simp [Mem.unset] at a
   rcases k.cn q o (Mem.unset_le _ _ q o a) with h1 | h1
   ·unfold Mem.set at h1;rw [aF p] at h1;exact .inl h1
   exact .inr h1,k.ln⟩
 have h2:St w0 C0 L0 C (L++[.obj b ob]) w:=St.perm h (Qw (l₁:=[Ent.obj b ob]) (l₂:=L));exact St.perm (St.call h2 m) (Qw (l₁:=g) (l₂:=[Ent.obj b ob]))
end Go.Jog
namespace Go.Jog
structure Arc3 where
 i:Nat
 lo:Nat
 up:Nat
 deriving DecidableEq,Inhabited
def JU:Nat->List Arc3->Nat->Prop
 | u,[],v=>u=v
 | u,a::p,v=>a.lo=u/\JU a.up p v
def In (A p:List Arc3):Prop:=∀ a∈p,a∈A
def Ps (A:List Arc3)(k u v:Nat):Prop:=∃ p,In A p/\p.length=k/\JU u p v
end Go.Jog
namespace Go.Jog
def dAt (d:List Int)(u:Nat):Int:=d.getD u (-1)
/-! ### Relaxing -/
def fin (d:List Int):Nat:=d.countP (fun x=>decide (0<=x))
structure MZ (A:List Arc3)(to n:Nat)(d:List Int):Prop where
 len:d.length=n
 neg:∀ u,u<n->-1<=dAt d u
 small:∀ u,u<n->dAt d u<fin d
 walk:∀ u,u<n->0<=dAt d u->Ps A (dAt d u).toNat u to
 zero:dAt d to=0
def MY (d:List Int)(a:Arc3):Prop:=0<=dAt d a.up->0<=dAt d a.lo/\dAt d a.lo<=dAt d a.up+1
/-! ### The first smallest cycle -/
def nums (p:List Arc3):List Nat:=p.map (·.i)
def OI (x y:List Nat):Prop:=∃ c b b' s s',x=c++b::s/\y=c++b'::s'/\b<b'
def above (A:List Arc3)(i:Nat):List Arc3:=A.filter fun a=>decide (i<a.i)
structure Greedy (A:List Arc3)(from_ to m:Nat)(p:List Arc3)(at_:Nat):Prop where
 inA:In A p
 chain:JU from_ p at_
 ahead:∀ r,In A r->JU from_ r to->r.length=m->(∃ s,r=p++s)∨OI (nums p) (nums r)
end Go.Jog
namespace Go.Jog
def Ord (A:List Arc3)(o:List Nat):Prop:=∀ pre u post,o=pre++u::post->∀ a∈A,a.up=u->a.lo∈pre
def Topo (A:List Arc3)(n:Nat)(o:List Nat):Prop:=o.length=n/\o.Nodup/\(∀ u∈o,u<n)/\Ord A o
/-! ### Taking the least free place, again and again -/
def cnt (A:List Arc3)(dn:List Nat)(u:Nat):Nat:=A.countP fun a=>decide (a.up=u) && !(dn.contains a.lo)
structure Kahn (A:List Arc3)(n:Nat)(dn av:List Nat):Prop where
 nodup:dn.Nodup
 below:∀ u∈dn,u<n
 ord:Ord A dn
 avnd:av.Nodup
 av:∀ u,u∈av ↔ u<n/\u ∉ dn/\cnt A dn u=0
 least:∀ o,Topo A n o->(∃ s,o=dn++s)∨OI dn o
end Go.Jog
namespace Go.Jog
def addW (o:Nat)(self:Bool)(x:Nat):Nat:=max (if self=true then max x 1 else x) (if 0<o then min 8 (o+1) else 0)
def rowT (f:Nat->Nat->Nat)(c v:Nat):List Arc3->Nat->Nat
 | [],x=>x
 | a::l,x=>rowT f c v l (if a.up=v then addW (f c a.lo) (decide (c=a.lo)) x else x)
def tab (A:List Arc3):Nat->Nat->Nat->Nat
 | 0,_,_=>0
 | k+1,c,v=>rowT (tab A k) c v A (tab A k c v)
end Go.Jog
namespace Go.Jog
variable {a b:List Nat}{i:Nat}{l:List Nat}{x:Nat}
abbrev BP:Nat:=10000
def bJ:List Nat->Nat
 | []=>0
 | x::l=>x+BP*bJ l
def DigP (l:List Nat):Prop:=∀ x∈l,x<BP
def BL (l:List Nat):Prop:=DigP l/\l.getLast?≠some 0
theorem gG:∀ (a b:List Nat),bJ (a++b)=bJ a+BP ^ a.length*bJ b
 | [],b=>by simp [bJ]
 | x::a,b=>by
  simp only [Rh,bJ,gG a b,PR,QL];rw [QJ,<- RN,Qk (BP ^ a.length) BP,R9]
theorem ou (a:List Nat)(x:Nat):bJ (a++[x])=bJ a+BP ^ a.length*x:=by
 rw [gG];simp [bJ]
theorem mg:∀ {l:List Nat},DigP l->bJ l<BP ^ l.length
 | [],_=>by simp [bJ]
 | x::l,h=>by
  have h1:=h x ap;have h2:=mg (l:=l) (fun y hy=>h y (by simp [hy]));simp only [bJ,PR,QL];have h3:BP*(bJ l+1)<=BP*BP ^ l.length:=QW _ h2;rw [Qk (BP ^ l.length) BP];rw [QJ] at h3;omega
theorem iC (h:l[i]?=some x):bJ (l.take (i+1))=bJ (l.take i)+BP ^ i*x:=by
 have a:=(aJ.1 h).1;rw [P0,h];simp only [QM];rw [ou,PM,QD om_]
theorem DigP.take {l:List Nat}(h:DigP l)(i:Nat):DigP (l.take i):=fun x a=>h x (QR a)
theorem DigP.snoc (h:DigP l)(a:x<BP):DigP (l++[x]):=fun y hy=>by
 rcases PQ.1 hy with hy | hy
 ·exact h y hy
 rw [PU.1 hy];exact a
def Db (l:List Nat):Nat->Nat
 | 0=>0
 | k+1=>if l[k]?=some 0 then Db l k else k+1
def wP (l:List Nat):List Nat:=l.take (Db l l.length)
theorem pX (l:List Nat):∀ k,k<=l.length->(l.take (Db l k)).getLast?≠some 0/\bJ (l.take (Db l k))=bJ (l.take k)
 | 0,_=>by simp [Db]
 | k+1,b=>by
  rw [Db];obtain ⟨x,a⟩:∃ x,l[k]?=some x:=⟨l[k],al om_⟩;split
  ·rename_i h;obtain ⟨h1,h2⟩:=pX l k om_;refine ⟨h1, ?_⟩;rw [h2,iC h];simp
  rename_i h;refine ⟨?_,Z⟩;rw [P0,a];simp only [QM,List.getLast?_append,List.getLast?_singleton];intro e;rw [a] at h;simp at e;exact h (by rw [e])
theorem ig (l:List Nat):bJ (wP l)=bJ l:=by
 have:=(pX l l.length (Py _)).2;rw [PO] at this;exact this
theorem lV (h:DigP l):BL (wP l):=⟨h.take _,(pX l l.length (Py _)).1⟩
theorem uE (h:BL l)(b:0<l.length):BP ^ (l.length-1)<=bJ l:=by
 obtain ⟨x,a⟩:∃ x,l[l.length-1]?=some x:=⟨l[l.length-1]'om_,al om_⟩;have h1:=iC a;rw [show l.length-1+1=l.length by omega,PO] at h1;have c:x≠0:=fun e=>h.2 (by rw [RH,a,e]);rw [h1];have:BP ^ (l.length-1)*1<=BP ^ (l.length-1)*x:=QW _ om_;omega
theorem Bv (h:BL l):bJ l=0 ↔ l=[]:=by
 constructor
 ·intro e;apply P1;intro a;have:=uE h (Qi.2 a);rw [e] at this;have b:0<BP ^ (l.length-1):=RU dc_;omega
 rintro rfl;rfl
theorem FH (c:DigP a)(d:BL b)(h:a.length<b.length):bJ a<bJ b:=by
 have h1:=mg c;have h2:=uE d om_;have h3:BP ^ a.length<=BP ^ (b.length-1):=PZ dc_ om_;omega
theorem KN {y:Nat}(e:DigP a)(l:a.length=b.length)(c:a[i]?=some x)(d:b[i]?=some y)(f:x<y)(g:a.drop (i+1)=b.drop (i+1)):bJ a<bJ b:=by
 have h:bJ a=bJ (a.take (i+1))+BP ^ (i+1)*bJ (a.drop (i+1)):=by
  have j:=(aJ.1 c).1
  conv=>lhs;rw [<- Qs (i+1) a]
  rw [gG,PM,QD om_]
 have k:bJ b=bJ (b.take (i+1))+BP ^ (i+1)*bJ (b.drop (i+1)):=by
  have j:=(aJ.1 d).1
  conv=>lhs;rw [<- Qs (i+1) b]
  rw [gG,PM,QD om_]
 rw [h,k,g,iC c,iC d];have h1:=mg (e.take i);have h2:(a.take i).length<=i:=by rw [PM];omega
 have h3:BP ^ (a.take i).length<=BP ^ i:=PZ dc_ h2;have h4:BP ^ i*(x+1)<=BP ^ i*y:=QW _ f;rw [QJ] at h4;omega
/-! ### Decimal texts -/
def eO (c:UInt8):Bool:=decide (48<=c.toNat/\c.toNat<=57)
def Bh (a:Nat)(c:UInt8):Nat:=10*a+(c.toNat-48)
def bU (s:List UInt8):Nat:=s.foldl Bh 0
def uU (s:List UInt8):Prop:=(∀ c∈s,eO c=true)/\s≠[]/\(s.head?=some 48->s.length=1)
theorem jJ:∀ (s:List UInt8)(a:Nat),s.foldl Bh a=a*10 ^ s.length+bU s
 | [],a=>by simp [bU]
 | c::s,a=>by
  have h1:=jJ s (Bh a c);have h2:=jJ s (Bh 0 c);simp only [bU,Ss] at h1 h2 ⊢;rw [h1,h2];simp only [Bh,PR,QL,Re];simp only [Nat.mul_zero,Nat.zero_mul,QV];rw [Qk 10 a,RN,Qk 10,R9]
theorem dK (c:UInt8)(s:List UInt8):bU (c::s)=(c.toNat-48)*10 ^ s.length+bU s:=by
 show s.foldl Bh (Bh 0 c)=_;rw [jJ];simp [Bh]
theorem dm (a b:List UInt8):bU (a++b)=bU a*10 ^ b.length+bU b:=by
 show (a++b).foldl Bh 0=_;rw [List.foldl_append,jJ];rfl
theorem dS:∀ {s:List UInt8},(∀ c∈s,eO c=true)->bU s<10 ^ s.length
 | [],_=>by simp [bU]
 | c::s,h=>by
  have h1:=dS (s:=s) (fun d a=>h d (by simp [a]));have h2:=h c ap;simp only [eO,PI] at h2;rw [dK,PR,QL];have h3:(c.toNat-48)*10 ^ s.length<=9*10 ^ s.length:=Qp _ om_;omega
theorem oa {s:List UInt8}(h:uU s)(a:1<s.length):10 ^ (s.length-1)<=bU s:=by
 obtain ⟨h1,h2,h3⟩:=h
 match s,h2 with
 | c::s,_ =>
  have h4:=h1 c ap;simp only [eO,PI] at h4;have h5:c≠48:=fun e=>by
   have:=h3 (by simp [e]);omega
  have b:c.toNat≠48:=fun e=>h5 (SN.1 (by rw [e];rfl));rw [dK];simp only [PR,RG];have:1*10 ^ s.length<=(c.toNat-48)*10 ^ s.length:=Qp _ om_;omega
theorem yJ:∀ {a b:List UInt8},(∀ c∈a,eO c=true)->(∀ c∈b,eO c=true)->a.length=b.length->bU a=bU b->a=b
 | [],[],_,_,_,_=>rfl
 | [],_::_,_,_,h,_=>by simp at h
 | _::_,[],_,_,h,_=>by simp at h
 | c::a,d::b,f,g,k,i=>by
  have j:a.length=b.length:=by simpa using k
  have h1:=dS (s:=a) (fun x e=>f x (by simp [e]));have h2:=dS (s:=b) (fun x e=>g x (by simp [e]));have l:=f c ap;have m:=g d ap;simp only [eO,PI] at l m;rw [dK,dK,j] at i;rw [j] at h1;have n:c.toNat-48=d.toNat-48:=by
   have o:(bU a+10 ^ b.length*(c.toNat-48)) / 10 ^ b.length=c.toNat-48:=by
    rw [So _ _ (RU dc_),RS h1,QV]
   have p:(bU b+10 ^ b.length*(d.toNat-48)) / 10 ^ b.length=d.toNat-48:=by
    rw [So _ _ (RU dc_),RS h2,QV]
   rw [<- o,<- p,Qk,RV,i,Qk (10 ^ b.length),RV (bU b)]
  rw [n] at i;have q:c=d:=SN.1 om_;rw [q,yJ (fun x e=>f x (by simp [e])) (fun x e=>g x (by simp [e])) j om_]
theorem qj {a b:List UInt8}(c:uU a)(d:uU b)(h:bU a=bU b):a=b:=by
 refine yJ c.1 d.1 ?_ h;have e:=Qi.2 c.2.1;have f:=Qi.2 d.2.1;rcases Nat.lt_trichotomy a.length b.length with h1 | h1 | h1
 ·have h2:=oa d om_;have h3:=dS c.1;have h4:10 ^ a.length<=10 ^ (b.length-1):=PZ dc_ om_;omega
 ·exact h1
 have h2:=oa c om_;have h3:=dS d.1;have h4:10 ^ b.length<=10 ^ (a.length-1):=PZ dc_ om_;omega
end Go.Jog
namespace Go.Jog
variable {e lo:Nat}{s:List UInt8}
theorem ub {a b:List UInt8}(h:a≠[]):(a++b).head?=a.head?:=by
 cases a with
 | nil=>exact absurd rfl h
 | cons=>rfl
def gP (l:List Nat)(i:Nat):Nat:=l.getD i 0
theorem F5 {l:List Nat}(h:DigP l)(i:Nat):gP l i<BP:=by
 unfold gP;rw [ay];cases a:l[i]? with
 | none=>decide
 | some x=>exact h x (Px a)
theorem Kj (j:Nat):10 ^ (4*j)=BP ^ j:=by rw [Nat.pow_mul]
def gC (s:List UInt8)(lo hi:Nat):List UInt8:=(s.take hi).drop lo
theorem D2 {a:List Nat}{j:Nat}(d:e+4*j=s.length)(b:a.length=j)(f:lo<=e)(h:bJ a=bU (s.drop e)) :
  bJ (a++[bU (gC s lo e)])=bU (s.drop lo):=by
 rw [ou,b,h];have c:s.drop lo=gC s lo e++s.drop e:=by
  unfold gC;have:s.drop lo=(s.take e++s.drop e).drop lo:=by rw [Qs]
  rw [this,List.drop_append_of_le_length (by rw [PM];omega)]
 rw [c,dm,RB,show s.length-e=4*j by omega,Kj,Qk,RV]
theorem GB (a:∀ c∈s,eO c=true)(h:e<=lo+4):bU (gC s lo e)<BP:=by
 have h1:∀ c∈gC s lo e,eO c=true:=fun c b=>a c (QR (Sm b));have h2:=dS h1;have h3:(gC s lo e).length<=4:=by
  unfold gC;rw [RB,PM];omega
 have h4:10 ^ (gC s lo e).length<=10 ^ 4:=PZ dc_ h3;have h5:(10:Nat) ^ 4=BP:=rfl;omega
def mb:Nat->Nat->List UInt8
 | 0,_=>[]
 | k+1,n=>mb k (n / 10)++[UInt8.ofNat (48+n % 10)]
theorem ul {d:Nat}(h:d<10):(UInt8.ofNat (48+d)).toNat=48+d:=by rw [UInt8.toNat_ofNat'];omega
theorem kw:∀ (k n:Nat),n<10 ^ k->(mb k n).length=k/\(∀ c∈mb k n,eO c=true)/\bU (mb k n)=n
 | 0,n,h=>by
  have:n=0:=by simpa using h
  subst this;exact ⟨Z,by simp [mb],Z⟩
 | k+1,n,h=>by
  obtain ⟨h1,h2,h3⟩:=kw k (n / 10) (by rw [QL] at h;exact (Rn dc_).2 h);have b:=ul (P2 n (show 0<10 by decide));refine ⟨by simp [mb,h1],fun c a=>?_, ?_⟩
  ·simp only [mb,PQ,PU] at a;rcases a with a | rfl
   ·exact h2 c a
   have:=P2 n (show 0<10 by decide);simp only [eO,b,PI];omega
  simp only [mb];rw [dm,h3,dK,b];simp [bU];omega
def bk (n:Nat):List UInt8:=if n<10 then [UInt8.ofNat (48+n)] else bk (n / 10)++[UInt8.ofNat (48+n % 10)]
 termination_by n
 decreasing_by omega
theorem bA (n:Nat):uU (bk n)/\bU (bk n)=n:=by
 induction n using Nat.strongRecOn with
 | ind n f =>
  rw [bk];split
  ·rename_i h;have b:=ul h;refine ⟨⟨fun c a=>?_,by simp,fun _=>rfl⟩, ?_⟩
   ·rw [PU.1 a];simp only [eO,b,PI];omega
   rw [dK,b];simp [bU]
  rename_i h;obtain ⟨⟨h1,h2,h3⟩,h4⟩:=f (n / 10) om_;have b:=ul (P2 n (show 0<10 by decide));refine ⟨⟨fun c a=>?_,by simp,fun e=>?_⟩, ?_⟩
  ·rcases PQ.1 a with a | a
   ·exact h1 c a
   rw [PU.1 a];have:=P2 n (show 0<10 by decide);simp only [eO,b,PI];omega
  ·exfalso;rw [ub h2] at e;have h5:=h3 e
   match hs:bk (n / 10),h2 with
   | [c],_ =>
    rw [hs] at e h4;simp at e;subst e;have:n / 10=0:=by rw [<- h4];rfl
    omega
   | c::d::s,_=>rw [hs] at h5;simp at h5
  rw [dm,h4,dK,b];simp [bU];omega
theorem oc (h:uU s):s=bk (bU s):=qj h (bA _).1 (bA _).2.symm
theorem F2 {p:List Nat}{i x:Nat}(j:DigP p)(f:p[i]?=some x)(h:uU s)(k:bU s=bJ (p.drop (i+1)))(l:0<bU s) :
  uU (s++mb 4 x)/\bU (s++mb 4 x)=bJ (p.drop i)/\0<bU (s++mb 4 x):=by
 have m:=j x (Px f);obtain ⟨h1,h2,h3⟩:=kw 4 x m;have g:=aJ.1 f;have e:bJ (p.drop i)=x+BP*bJ (p.drop (i+1)):=by rw [PW g.1,g.2];rfl
 have n:bU (s++mb 4 x)=bJ (p.drop i):=by
  rw [dm,h1,h3,k,e,RV,Qk]
 refine ⟨⟨fun c a=>?_, ?_,fun b=>?_⟩,n, ?_⟩
 ·rcases PQ.1 a with a | a
  ·exact h.1 c a
  exact h2 c a
 ·intro e;exact h.2.1 (SD.1 e).1
 ·exfalso;rw [ub h.2.1] at b;have h5:=h.2.2 b
  match hs:s,h.2.1 with
  | [c],_ =>
   simp at b;subst b;have:bU ([48]:List UInt8)=0:=rfl;omega
  | c::d::s,_=>simp at h5
 rw [dm];have:0<bU s*10 ^ (mb 4 x).length:=R2 l (RU dc_);omega
end Go.Jog
namespace Go.Jog
def iD:List Int->Int
 | []=>0
 | x::l=>x+10000*iD l
theorem zA:∀ l:List Nat,iD (l.map fun (x:Nat)=>(x:Int))=(bJ l:Nat)
 | []=>rfl
 | x::l=>by
  simp only [Qa,iD,bJ,zA l];show (x:Int)+10000*(bJ l:Nat)=((x+10000*bJ l:Nat):Int);omega
theorem ow:∀ (a b:List Int),iD (a++b)=iD a+(10000:Int) ^ a.length*iD b
 | [],b=>by simp [iD]
 | x::a,b=>by
  simp only [Rh,iD,ow a b,PR,Int.pow_succ];rw [SE,<- Int.mul_assoc,Int.mul_comm ((10000:Int) ^ a.length) 10000,Int.add_assoc]
theorem vc (a:List Int)(x:Int):iD (a++[x])=iD a+(10000:Int) ^ a.length*x:=by
 rw [ow];simp [iD]
theorem DP {l:List Int}{i:Nat}{x:Int}(h:l[i]?=some x):iD (l.take (i+1))=iD (l.take i)+(10000:Int) ^ i*x:=by
 have a:=(aJ.1 h).1;rw [P0,h];simp only [QM];rw [vc,PM,QD om_]
theorem yV (o:Int):0<=o % 10000/\o % 10000<10000/\o=o % 10000+10000*((o-o % 10000) / 10000):=by
 refine ⟨SP _ dc_,Int.emod_lt_of_pos _ dc_, ?_⟩;omega
theorem Ic (o:Int):(if Int.tmod o 10000<0 then Int.tmod o 10000+10000 else Int.tmod o 10000)=o % 10000:=by
 have h1:=SP o (show (10000:Int)≠0 by decide);have h2:=Int.emod_lt_of_pos o (show (0:Int)<10000 by decide);rcases Int.le_total 0 o with h | h
 ·rw [Int.tmod_eq_emod_of_nonneg h,aF om_]
 rw [Int.tmod_eq_emod];split <;> rename_i hh <;> omega
end Go.Jog
namespace Go.Jog
theorem Gk {t Q x:Nat}(a:0<Q):(x+BP*t) / Q=BP*(t / Q)+(x+BP*(t % Q)) / Q/\(x+BP*t) % Q=(x+BP*(t % Q)) % Q:=by
 have h1:=Sa t Q;have e:x+BP*t=Q*(BP*(t / Q))+(x+BP*(t % Q)):=by
  conv=>lhs;rw [<- h1,QJ]
  rw [S5];omega
 rw [e,Nat.mul_add_div a,Nat.mul_add_mod];exact ⟨Z,Z⟩
theorem wK {t Q x:Nat}(a:0<Q)(b:x<BP):(x+BP*(t % Q)) / Q<BP:=by
 rw [Rn a];have h1:=P2 t a;have h2:BP*(t % Q+1)<=BP*Q:=QW _ h1;rw [QJ] at h2;omega
theorem Mr {r Q a b:Nat}(c:0<Q)(d:a<=r / Q)(e:r / Q<=b)(_f:a<b) :
  (r<Q*((a+b+1) / 2)->a<=r / Q/\r / Q<=(a+b+1) / 2-1)/\(¬ r<Q*((a+b+1) / 2)->(a+b+1) / 2<=r / Q/\r / Q<=b):=by
 constructor
 ·intro hr;have:=(Rn c).2 (by rw [Qk];exact hr);omega
 intro hr;have:=(Nat.le_div_iff_mul_le c).2 (by rw [Qk];exact Nat.le_of_not_lt hr);omega
theorem On (a b:Nat)(_c:0<b):Nat.gcd a b=Nat.gcd b (a % b):=by
 rw [RI a b,S1 b a,RI]
end Go.Jog
