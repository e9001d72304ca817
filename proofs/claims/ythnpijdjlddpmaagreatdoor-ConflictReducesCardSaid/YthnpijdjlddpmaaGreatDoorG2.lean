/- Laws that the proofs of this seat share, part 2. -/
import Derived.Test.YthnpijdjlddpmaaGreatDoorG1
import Derived.OpenShut
import Derived.ChangeSame
import Derived.ChangeVars
import Derived.Deep.Slices
import Derived.Deep.DeepHandedRow
import Derived.LaidLaws
import Derived.WalkKit
import Derived.ProofKit
import Derived.Shelf.Vars
import Derived.ChangeKeysEq
import Derived.MapKept
import Derived.Laws.Bits64b
namespace Go.Jog
open Go
section
variable {cx:Cx} {n:Nat} {ds:List (Option Nat)} {R:Rg n ds} {its:List It} {fr:Fr} {C:Mem} {L:List Ent} {i k d:Nat} {o:Oper} {g:GL} {v:Value}
theorem Sl.flat {C:Mem}{s:Nat}{A:Option Addr}{d c:Nat}{b:List (List Value)}(k:Sl C s (.slice A d c) b)(l:0<s)(m:b≠[]) :
  d=b.length/\∃ a,A=some a/\a.spot=none/\∀ (q:Nat)(u:Value),b.flatten[q]?=some u->CCell C (a.add q) u:=by
 obtain ⟨y,z,h1,h2,h3,h4,h5⟩:=k;cases h1
 refine ⟨Z, ?_⟩;cases b with
 | nil=>exact absurd rfl m
 | cons r rs =>
  obtain ⟨n,o,p,_⟩:=h5 0 r am;subst o;refine ⟨n,Z,p,fun q u e=>?_⟩;have t:q<(r::rs).length*s:=by rw [<- bl h4];exact (aD.1 e).1
  have f:q / s<(r::rs).length:=Uc (by rw [RF];exact t);have g:(r::rs)[q / s]?=some (r::rs)[q / s]:=aj f;have v:q % s<((r::rs)[q / s]).length:=by rw [h4 _ (RP f)];exact Ry _ l
  have h:=aj v;have i:=getElem?_flatten_rows h4 g h;have j:q / s*s+q % s=q:=by rw [RF];exact TT q s
  rw [j,e] at i;obtain ⟨B,w,D,x⟩:=h5 _ _ g;cases w
  have:=x _ _ h;rw [j] at this;rw [Ss i];exact this
theorem qT {P:Program}{a:Act}{o:Oper}{t:Nat}{x y:Operand}(c:o.op=.call ⟨.builtin .append,#[x,y],#[t,t]⟩){r:Value}{w b:World}(h:(Builtin.append_ #[t,t] o.type #[a.eval x,a.eval y]).run P w=.ok r b) :
  (execOp a.eval o).run P w=.ok (.value r) b:=by
 have d:execOp a.eval o=(do let dd <- resolve a.eval ⟨.builtin .append,#[x,y],#[t,t]⟩ o.type;invoke dd.target dd.args:Sem Next):=by unfold execOp;rw [c]
 rw [d];simp only [resolve,invoke,builtin,Sem.run_bind,Sem.run_pure,Result.andThen_ok,SY,Rs,S4,h]
theorem Wv {t e n0 l:Nat}{x y:Operand}{O m:TI}{p:Value}{A:Option Addr}{g f:List (List Value)}(hk:k=3)(hd:o.dst=some d)(hg:gOn ds fr o.guard=true)
  (aa:o.op=.call ⟨.builtin .append,#[x,y],#[t,t]⟩) (ht:cx.T.get t=some O) (ab:O.k=.slice e) (he:cx.T.get e=some m) (ac:Nat.beq m.size 0=false)
  (hx:ev fr [] x=some (.slice A n0 l)) (hy:ev fr [] y=some p) (Q:Sl C m.size (.slice A n0 l) g) (ae:Sl C m.size p f) (ar:f=[]∨l<g.length+f.length)
  (U:g.length+f.length<=maxLen) (af:(g.length+f.length)*m.bytes<=140737488355328) (hp:∀ v,aQ n ds ((d,[],v)::fr) d=true)
  (h:∀ z C',C.le C'->Sl C' m.size z (g++f)->D cx R its ((d,[],z)::fr) C' L):D cx R ((i,k,o)::its) fr C L:=by
 have G:cx.P.underlying t=some (.slice e):=by
  obtain ⟨kk,s1,b1,z1,g1⟩:=O;simp only at ab;subst ab;exact cD cx.hT ht
 obtain ⟨inf,H,I,ag,hz,aL⟩:=(eo cx.hT he).info;have ah:0<m.size:=SP (fun e=>by rw [e] at ac;cases ac);have au:=Q;obtain ⟨A1,c1,av,ai,aM,aj,aw⟩:=au;cases av
 have ax:=ae;obtain ⟨B,c,V,aN,aO,ak,aP⟩:=ax;have al:Nat.ble k 1=false:=by subst hk;rfl
 by_cases J:f=[]
 ·subst J;refine Vk (S:=fun z C' L'=>z=.slice A g.length l/\C'=C/\L'=L) al hd hg hp (fun a F w _ K=>?_) (fun z C' L' W ⟨X,Y,e3⟩=>?_)
  ·have hr:(Builtin.append_ #[t,t] o.type #[a.eval x,a.eval y]).run cx.P w=.ok (.slice A g.length l) w:=by
    rw [F _ _ hx,F _ _ hy,V];have an:(Builtin.firstCells m.size 0 (.slice B 0 c)).run cx.P w=.ok #[] w:=by
     cases B <;> simp [Builtin.firstCells,loadCells,loadCellsFrom]
    simp only [Q7];cases A with
    | none=>simp [Builtin.append_,run_underlying G,sizeOf,typeInfo,H,I,Builtin.lenOf,an,ai]
    | some a0=>simp [Builtin.append_,run_underlying G,sizeOf,typeInfo,H,I,Builtin.lenOf,an,ai,storeCells]
   unfold Oper.wp;rw [qT aa hr];exact ⟨_,C,L,Z,Mem.le.refl _,fun h2=>by omega,K,Z,Z,Z⟩
  subst X;subst Y;subst e3;exact h _ C' W (by simpa using Q)
 have ay:l<g.length+f.length:=ar.resolve_left J;obtain ⟨-,b0,hB, -,az⟩:=Sl.flat (V ▸ ae) ah J;subst hB;have aR:0<f.length:=RD.2 J;have aA:=bl ak;have aB:=bl aj;refine Wj (S:=fun z b ob=>∃ (cc:Nat)(rest:Array Value),z=.slice (some ⟨b,0,none⟩) (g.length+f.length) cc/\ob=.cells (g.flatten.toArray++f.flatten.toArray++rest) e (0,0)/\g.length+f.length<=cc/\cc<=maxLen) al hd hg hp
  (fun a F w _ L1 w1 K=>?_) (fun z b ob C' W M ⟨cc,rest,X,Y,e3,e4⟩=>?_)
 ·have ao:∀ (j:Nat)(u:Value),f.flatten[j]?=some u->w.cell? (b0.add j)=some u:=fun j u E=>(az j u E).cell K.sep;have ap:f.flatten.length=f.length*inf.size:=by rw [aA,I]
  have aC:g.flatten.length=g.length*inf.size:=by rw [aB,I]
  refine ⟨.slice (some ⟨w.heap.size,0,none⟩) (g.length+f.length) (grownCap w (g.length+f.length) l e),_,w.drew.alloc (.cells (g.flatten.toArray++f.flatten.toArray++Builtin.zeroCells m.zv.cells (grownCap w (g.length+f.length) l e-(g.length+f.length))) e), ?_, ?_,grownCap w (g.length+f.length) l e,Builtin.zeroCells m.zv.cells (grownCap w (g.length+f.length) l e-(g.length+f.length)),Z,Z,grownCap_ge w _ _ e,grownCap_le_maxLen w _ _ e U⟩
  ·refine qT aa ?_;rw [F _ _ hx,F _ _ hy,V];cases N:A with
   | none =>
    subst N;have aE:g=[]:=by
     cases g with
     | nil=>rfl
     | cons r rs=>obtain ⟨ad,N,_⟩:=aw 0 r am;cases N
    subst aE;have aF:l<f.length:=by simpa using ay
    have hf:=run_firstCells_some (P:=cx.P) w.drew inf.size f.length b0 f.length c f.flatten ap (by simpa using ao);have hn:f.length≠0:=by omega
    have aG:¬ (9223372036854775807<(f.length:Int)):=by simp only [maxLen,Q7] at U;omega
    have aH:¬ (281474976710656<Builtin.nextslicecap f.length l*inf.bytes):=by
     have M:=af;simp only [Q7,Sd,<- ag] at M;have:=growslice_fits (need:=f.length) (bytes:=inf.bytes) (old:=l) aF M;omega
    have aI:¬ (f.length<=l):=by omega
    simp [Builtin.append_,run_underlying G,sizeOf,typeInfo,zeroValue,H,hz,Builtin.lenOf,aI,aG,aH,Question.forced,run_firstCells_none,hf,newRow,grownCap]
   | some a0 =>
    subst N;have hold:∀ (j:Nat)(u:Value),g.flatten[j]?=some u->w.cell? (a0.add j)=some u:=fun j u E=>by
     cases hr:g with
     | nil=>subst hr;simp at E
     | cons r rs =>
      obtain ⟨-,a1,aJ, -,aK⟩:=Sl.flat Q ah (by rw [hr];simp);cases aJ
      exact (aK j u E).cell K.sep
    exact run_append_grow (P:=cx.P) w t o.type e inf m.zv G H hz a0 g.length l g.flatten aC hold b0 f.length c f.flatten ap ao om_ (by simp only [maxLen] at U;omega) (by rw [ag];exact growslice_fits om_ af)
  exact ⟨Z,Z,Z,by simp,fun q hq=>heap_alloc_old w.drew _ hq,heap_alloc_new w.drew _,Tl _⟩
 subst X;subst Y;have:=Sl.ofBlock (rows:=g++f) (s:=m.size) (c:=cc) M (fun r hr=>(Q6.1 hr).elim (aj r) (ak r)) (fun j u E=>by
  have aq:=(aD.1 E).1;rw [Rz] at E aq;have e5:(g.flatten.toArray++f.flatten.toArray:Array Value)=(g.flatten++f.flatten).toArray:=by simp
  rw [e5];rw [Array.getElem?_append_left (by simpa using aq)];simpa using E) (by simpa using e3) e4
 simp only [QV] at this;exact h _ C' W this
/-! ### Rows of the function's own that are made -/
theorem St.objArr {o:World}{p:Mem}{q:List Ent}{C:Mem}{L:List Ent}{w:World}{b e s m g:Nat}{i j:List Value}(h:St o p q C (.obj b (.cells ⟨i⟩ e (0,0))::L) w)(r:i.take (m*s)=j)(v:i.length=g*s)(t:m<=g)(z:g<=maxLen) :
  St o p q C (.arr (.slice (some ⟨b,0,none⟩) m g) e s m j::L) w:=by
 have A:w.heap[b]?=some (.cells ⟨i⟩ e (0,0)):=h.sep.e _ (Qb ..);have u:=RX.1 h.sep.d;have l:∀ k,(Ent.arr (.slice (some ⟨b,0,none⟩) m g) e s m j).own k->k=b:=fun k f=>by simp only [Ent.own,Value.ownBlock,Rt] at f;exact f.symm
 have B:m*s<=g*s:=RQ _ t;refine ⟨⟨h.sep.c,fun x a=>?_,RX.2 ⟨fun y hy k f=>u.1 y hy k (l k f),u.2⟩,fun k ⟨x,a,f⟩=>?_⟩,h.ev,h.c0,h.cn,fun k ⟨x,a,f⟩=>?_⟩
 ·rcases Q3.1 a with rfl | a
  ·exact ⟨by rw [<- r,Q5];omega,.inr ⟨b,g,⟨i⟩,Z,QT _,A,t,z,by simpa using v,by simpa using r⟩⟩
  exact h.sep.e x (by simp [a])
 ·rcases Q3.1 a with rfl | a
  ·exact h.sep.n k ⟨_,Qb ..,l k f⟩
  exact h.sep.n k ⟨x,by simp [a],f⟩
 rcases Q3.1 a with rfl | a
 ·exact h.ln k ⟨_,Qb ..,l k f⟩
 exact h.ln k ⟨x,by simp [a],f⟩
theorem Wi {e s m c:Nat}{cs f:List Value}(l:Nat.ble k 1=false)(p:o.dst=some d)(q:gOn ds fr o.guard=true)(r:∀ v,aQ n ds ((d,[],v)::fr) d=true)
  (t:∀ a,Iz (ev fr []) a->∀ w,(execOp a.eval o).run cx.P w=.ok (.value (.slice (some ⟨w.heap.size,0,none⟩) m c)) (w.alloc (.cells ⟨cs⟩ e))) (g:cs.take (m*s)=f) (u:cs.length=c*s) (y:m<=c) (z:c<=maxLen)
  (h:∀ b,D cx R its ((d,[],.slice (some ⟨b,0,none⟩) m c)::fr) C (.arr (.slice (some ⟨b,0,none⟩) m c) e s m f::L)):D cx R ((i,k,o)::its) fr C L :=
 Vk (S:=fun v C' j=>C'=C/\∃ b,v=.slice (some ⟨b,0,none⟩) m c/\j=.arr (.slice (some ⟨b,0,none⟩) m c) e s m f::L) l p q r (fun a hs w _ A=>by
  unfold Oper.wp;rw [t a hs w];exact ⟨_,C,.arr (.slice (some ⟨w.heap.size,0,none⟩) m c) e s m f::L,Z,Mem.le.refl _,fun _ x g=>by simp [g],St.objArr (St.alloc A _) g u y z,Z,_,Z,Z⟩)
  (fun v C' j _ ⟨B,b,E,F⟩=>by subst B;subst E;subst F;exact h b)
theorem VA {t e g:Nat}{j:Array (Nat × Operand)}{m f:TI}(c:List (List Value))(y:Z12 (Nat.ble k 1) false o.dst (some d) (gOn ds fr o.guard) true o.op (.buildSlice t g j) (cx.T.get t) (some m) m.k (.slice e) (cx.T.get e) (some f) (rowsO (ev fr []) j.toList 0) (some c) (c.all fun r=>Nat.beq r.length f.size) true (Nat.beq j.toList.length g) true (Nat.ble (g*f.size) 16777216) true (Nat.beq f.size 0) false)(z:∀ v,aQ n ds ((d,[],v)::fr) d=true)(h:∀ b,D cx R its ((d,[],.slice (some ⟨b,0,none⟩) c.length c.length)::fr) C (.arr (.slice (some ⟨b,0,none⟩) c.length c.length) e f.size c.length c.flatten::L)):D cx R ((i,k,o)::its) fr C L:=by
 have ⟨A,B,E,F,G,H,I,p,J,K,q,s⟩:=y;have l:∀ r∈c,r.length=f.size:=fun r hr=>Rp (Q4.1 J r hr);have u:=Rp K;rw [SE] at q;have M:=(dp p l).2;have N:=bl l;have h0:0<f.size:=SP (fun e=>by rw [e] at s;cases s);refine Wi (cs:=c.flatten) A B E z (fun a hs w=>?_) (Re om_) N (QO _) ?_ h
 ·have O:execOp a.eval o=(do Pure.pure (.value (<- Instr.buildSlice t g (j.map fun (i,x)=>(i,a.eval x)))):Sem Next):=by unfold execOp;rw [F]
  rw [O];have P:(j.map fun (i,x)=>(i,a.eval x))=(j.toList.map fun (i,x)=>(i,a.eval x)).toArray:=by apply Sz;simp
  rw [P];simp only [Sem.run_bind,eU cx.hT G H I (fun x v Q=>hs x v Q) p l u q w,Result.andThen_ok,Sem.run_pure]
 rw [M,u];have:g<=g*f.size:=S2 _ h0;simp only [maxLen];omega
def kl (z:List Value):Nat->List Value
 | 0=>[]
 | m+1=>z++kl z m
theorem cV (z:List Value):∀ m,(kl z m).length=m*z.length
 | 0=>by simp [kl]
 | m+1=>by simp [kl,cV z m,SJ];omega
theorem ek (z:List Value):∀ m,kl z m=(List.replicate m z).flatten
 | 0=>rfl
 | m+1=>by simp [kl,ek z m,Se]
theorem zP (z:List Value):∀ (m q:Nat),q<m*z.length->(kl z m)[q]?=z[q % z.length]?
 | 0,q,h=>by simp at h
 | m+1,q,h=>by
  simp only [kl];by_cases a:q<z.length
  ·rw [RI a,Ti a]
  rw [Ro om_,zP z m _ (by rw [SJ] at h;omega)];congr 1;rw [Nat.mod_eq_sub_mod (by omega:z.length<=q)]
theorem GD (z:List Value)(m:Nat):madeCells ⟨z⟩ (m*z.length)=⟨kl z m⟩:=by
 apply Sz;apply List.ext_getElem?;intro q;simp only [madeCells,Array.toList_map,Array.toList_range,QU,SM];by_cases a:q<m*z.length
 ·rw [zP z m q a,Rw a];have c:0<z.length:=by
   rcases Sh z.length with h | h
   ·rw [h] at a;simp at a
   exact h
  have b:q % z.length<z.length:=Ry _ c;simp only [Su];rw [aj b];simp [b]
 rw [QY ap,QY (by rw [cV];omega)];rfl
theorem Vy {t e:Nat}{x y:Operand}{p r:IntKind}{l c:Nat}{g f:TI}(B:Z9 (Nat.ble k 1) false o.dst (some d) (gOn ds fr o.guard) true o.op (.makeSlice t x y) (cx.T.get t) (some g) g.k (.slice e) (cx.T.get e) (some f) (ev fr [] x) (some (.int p l)) (ev fr [] y) (some (.int r c)))(E:l<=c)(Y:f.bytes*c<=281474976710656)(s:c<=maxLen)(F:∀ v,aQ n ds ((d,[],v)::fr) d=true)(h:∀ b,D cx R its ((d,[],.slice (some ⟨b,0,none⟩) l c)::fr) C (.arr (.slice (some ⟨b,0,none⟩) l c) e f.size l (kl (f.zero.map Zv.val) l)::L)):D cx R ((i,k,o)::its) fr C L:=by
 have ⟨G,H,I,J,K,u,z,M,hy⟩:=B;have N:cx.P.underlying t=some (.slice e):=by
  obtain ⟨Z,s1,b1,z1,g1⟩:=g;simp only at u;subst u;exact cD cx.hT K
 obtain ⟨inf,O,Q,S,U,A⟩:=(eo cx.hT z).info;have j:(f.zero.map Zv.val).length=f.size:=by
  have:=(eo cx.hT z).zsize;rw [A] at this;simpa using this
 have V:∀ m q,kl (f.zero.map Zv.val) (m+q)=kl (f.zero.map Zv.val) m++kl (f.zero.map Zv.val) q:=by
  intro m q;induction m with
  | zero=>simp [kl]
  | succ m W=>rw [show m+1+q=(m+q)+1 by omega];simp [kl,W]
 refine Wi (cs:=kl (f.zero.map Zv.val) c) G H I F (fun a hs w=>?_) ?_ (by rw [cV,j]) E s h
 ·have X:execOp a.eval o=(do Pure.pure (.value (<- Instr.makeSlice t (a.eval x) (a.eval y))):Sem Next):=by unfold execOp;rw [J]
  rw [X,hs _ _ M,hs _ _ hy];have hr:=run_make (P:=cx.P) w t e inf f.zv N O U p r (l:Int) (c:Int) om_ om_ (by rw [S,<- RN];omega) (by simp only [maxLen] at s;omega);simp only [Sx] at hr;rw [Q,<- j,A,GD] at hr;simp only [Sem.run_bind,hr,Result.andThen_ok,Sem.run_pure]
 obtain ⟨q,rfl⟩:∃ q,c=l+q:=⟨c-l,by omega⟩;rw [V];exact List.take_left' (by rw [cV,j])
/-! ### Arrays behind pointers -/
theorem rQ {P:Program}{t e b c:Nat}(d:P.underlying t=some (.array b e)){f:IntKind}{m:Int}(g:0<=m)(h:m<b)(a:Addr){w:World}(i:(sizeOf e).run P w=.ok c w) :
  (Instr.indexAt t (.pointer (some a)) (.int f m)).run P w=.ok (.pointer (some (a.add (m.toNat*c)))) w:=by
 simp [Instr.indexAt,asIntOf,run_underlying d,Instr.sureAddr,i,g,h]
theorem UV (c:Nat){t e f b l:Nat}{x y:Operand}{r:IntKind}{m:Int}{j p:TI}(s:Z9 (Nat.ble k 1) true o.dst (some d) o.op (.indexAddr t x y) (gOf ds fr o.guard) (some g) (ev fr g x) (some (.pointer (some ⟨b,l,none⟩))) (ev fr g y) (some (.int r m)) (cx.T.get t) (some j) j.k (.arr f e) (cx.T.get e) (some p))(u:GT ds fr g->0<=m/\m<f/\c=l+m.toNat*p.size)(v:Z2 (aQ n ds ((d,g,.pointer (some ⟨b,c,none⟩))::fr) d) true (wfG ds fr g) true)(h:D cx R its ((d,g,.pointer (some ⟨b,c,none⟩))::fr) C L):D cx R ((i,k,o)::its) fr C L:=by
 have ⟨z,A,B,E,F,hy,G,q,H⟩:=s;have ⟨I,J⟩:=v;have K:cx.P.underlying t=some (.array f e):=by
  obtain ⟨S,U,V,W,X⟩:=j;simp only at q;subst q;exact oK cx.hT G
 refine D.run _ z A E (fun M a hs w=>?_) I J h;obtain ⟨N,O,rfl⟩:=u M;have Q:execOp a.eval o=(do Pure.pure (.value (<- Instr.indexAt t (a.eval x) (a.eval y))):Sem Next):=by unfold execOp;rw [B]
 rw [Q,hs _ _ F,hs _ _ hy];simp only [Sem.run_bind,rQ K N O _ (eC cx.hT H w),Result.andThen_ok,Sem.run_pure,Addr.add_lit]
theorem V5 {t e f:Nat}{x y:Operand}{H:IntKind}{m:Int}{p:Value}{q:List Value}{j b:TI}(I:Z9 (Nat.ble k 1) true o.dst (some d) o.op (.indexAddr t x y) (gOf ds fr o.guard) (some g) (ev fr g x) (some p) (ev fr g y) (some (.int H m)) (cx.T.get t) (some j) j.k (.arr f e) (cx.T.get e) (some b))(J:GT ds fr g->PtrTo C p q)(r:GT ds fr g->0<=m/\m<f)(s:∀ v,aQ n ds ((d,g,v)::fr) d=true)(u:wfG ds fr g=true)(h:∀ z,(GT ds fr g->PtrTo C z ((q.drop (m.toNat*b.size)).take b.size))->D cx R its ((d,g,z)::fr) C L):D cx R ((i,k,o)::its) fr C L:=by
 have ⟨A,B,K,E,M,hy,N,F,O⟩:=I;have Q:cx.P.underlying t=some (.array f e):=by
  obtain ⟨X,Y,b1,z1,g1⟩:=j;simp only at F;subst F;exact oK cx.hT N
 by_cases c:GT ds fr g
 ·obtain ⟨S,U,V⟩:=(J c).part (m.toNat*b.size) b.size;refine Vl A B E (s (.pointer (some (S.add (m.toNat*b.size))))) u (fun _ a G aa ab w hw=>?_) (h _ (fun _=>V));have W:execOp a.eval o=(do Pure.pure (.value (<- Instr.indexAt t (a.eval x) (a.eval y))):Sem Next):=by unfold execOp;rw [K]
  unfold Oper.quietAt;rw [W,G _ _ M,G _ _ hy,U];simp only [Sem.run_bind,rQ Q (r c).1 (r c).2 _ (eC cx.hT O w),Result.andThen_ok,Sem.run_pure];exact ⟨Z,Z⟩
 exact Vl A B E (s undef) u (fun l=>absurd l c) (h _ (fun l=>absurd l c))
/-! ### Bytes to a string -/
theorem DZ (s:List UInt8):∀ a:ByteArray,(s.map fun b=>(b.toNat:Int)).foldl (fun r n=>r.push (UInt8.ofNat n.toNat)) a=a++⟨s.toArray⟩:=by
 induction s with
 | nil =>
  intro a;apply ByteArray.ext;simp []
 | cons b s c =>
  intro a;simp only [Rs,Sn];rw [c];have e:UInt8.ofNat ((b.toNat:Int)).toNat=b:=by simp
  rw [e];apply ByteArray.ext;simp [ByteArray.data_push]
theorem VY {g l e:Nat}{x:Operand}{p:Value}{s:List UInt8}{m q r:TI}(B:Sl C 1 p (s.map fun b=>[.int .u8 b.toNat]))(U:Z11 k 2 o.dst (some d) o.op (.convert g l x) (gOn ds fr o.guard) true (ev fr [] x) (some p) (cx.T.get g) (some m) m.k (.slice e) (cx.T.get l) (some q) q.k .str (cx.T.get e) (some r) r.k (.int .u8))(V:∀ v,aQ n ds ((d,[],v)::fr) d=true)(h:D cx R its ((d,[],.string ⟨s.toArray⟩)::fr) C L):D cx R ((i,k,o)::its) fr C L :=
 have ⟨W,X,Y,hg,hx,aa,E,ab,F,ac,G⟩:=U;Vk (S:=fun v C' H=>v=.string ⟨s.toArray⟩/\C'=C/\H=L) (by subst W;rfl) X hg V (fun a ad w _ I=>by
  have ae:cx.P.underlying g=some (.slice e):=by
   obtain ⟨J,K,M,N,O⟩:=m;simp only at E;subst E;exact cD cx.hT aa
  have af:cx.P.underlying l=some .string:=by
   obtain ⟨J,K,M,N,O⟩:=q;simp only at F;subst F;exact oI cx.hT ab
  have ag:cx.P.underlying e=some (.int .u8):=by
   obtain ⟨J,K,M,N,O⟩:=r;simp only at G;subst G;exact oJ cx.hT ac
  have ah:=B;obtain ⟨A,c,rfl,aj,ak,al,am⟩:=ah;have ai:(execOp a.eval o).run cx.P w=.ok (.value (.string ⟨s.toArray⟩)) w:=by
   have t:execOp a.eval o=(do Pure.pure (.value (<- convert g l (a.eval x))):Sem Next):=by unfold execOp;rw [Y]
   rw [t,ad _ _ hx];simp only [Sem.run_bind,run_convert_bytes_string w g l e _ _ _ ae ag af];cases u:s with
   | nil =>
    subst u;cases A with
    | none=>simp [Conv.bytesToString];rfl
    | some f =>
     have y:(loadCells f 0).run cx.P w=.ok (([]:List Int).map (Value.int .u8)).toArray w:=by simp [loadCells,loadCellsFrom]
     have z:=run_bytesToString (P:=cx.P) w f 0 c [] y;simp only [S4,Q7,z,Result.andThen_ok];rfl
   | cons b bs =>
    obtain ⟨an,f,rfl, -,Q⟩:=Sl.flat B om_ (by rw [u];simp);rw [gl] at Q;have y:(loadCells f (s.map fun b=>[Value.int .u8 b.toNat]).length).run cx.P w=.ok ((s.map fun b=>(b.toNat:Int)).map (Value.int .u8)).toArray w:=by
     have:=kv (P:=cx.P) (w:=w) (a:=f) (cs:=s.map fun b=>Value.int .u8 b.toNat) (fun j v hj=>(Q j v hj).cell I.sep);simpa [Function.comp_def] using this
    have z:=run_bytesToString (P:=cx.P) w f _ c _ y;rw [<- u];simp only [z,Result.andThen_ok,DZ,Sem.run_pure];congr 3
  unfold Oper.wp;rw [ai];exact ⟨_,C,L,Z,Mem.le.refl _,fun _ _ h=>h,I,Z,Z,Z⟩)
  (fun v C' H _ ⟨t,e2,e3⟩=>by subst t;subst e2;subst e3;exact h)
end
/-! ### Results that lie in a cell -/
section
variable {F:Fx} {k:List KI} {fr:Fr} {C:Mem} {L:List Ent}
theorem eT {w:World}{b t:Nat}{a:List Value}{e:TypeId}{f:Nat × Nat}{c:TI}{v:Value}(g:F.cx.T.get t=some c)(h:w.heap[b]?=some (.cells ⟨a⟩ e f))(i:cA c (a.take c.size)=some v):(loadVar t ⟨b,0,none⟩).run F.cx.P w=.ok v w:=by
 refine eO F.cx.hT g (cs:=a.take c.size) (fun j u d=>?_) i;rw [Addr.add_lit,cell_of_row w b (0+j) _ e f h];rw [Rx] at d;split at d
 ·simpa using d
 cases d
theorem Vm {r b t:Nat}{f:List Value}{k:TypeId}{l:Nat × Nat}{c:TI}{v:Value}(m:Ent.obj b (.cells ⟨f⟩ k l)∈L)(n:Z4 F.fn.results (#[.cell r t]) (ev fr [] (.tmp r)) (some (.pointer (some ⟨b,0,none⟩))) (F.cx.T.get t) (some c) (cA c (f.take c.size)) (some v))(h:F.post v C [])(g:F.ends:=by exact ⟨fun _ _ _ h=>h,rfl⟩):G F [] .ret fr C L:=have ⟨o,hr,q,s⟩:=n;fun _ a w i j=>by
 refine g.kq ?_;have d:=bI i (fun p u=>by cases u) hr;simp only [Act.eval] at d;refine bodyPost_ret (v:=v) ?_ (i.defers.trans g.2) ⟨v,C,[],Z,St.dropAll j,h⟩;have x:=eT (F:=F) q (j.sep.e _ m) s;simp only [RV] at d;simp [results,o,d,asAddr,x]
theorem VF {r s b t:Nat}{j:List Value}{m:TypeId}{n:Nat × Nat}{c:TI}{u v:Value}(o:Ent.obj b (.cells ⟨j⟩ m n)∈L)(q:Z5 F.fn.results (#[.cell r t,.tmp s]) (ev fr [] (.tmp r)) (some (.pointer (some ⟨b,0,none⟩))) (ev fr [] (.tmp s)) (some u) (F.cx.T.get t) (some c) (cA c (j.take c.size)) (some v))(h:F.post (.tuple #[v,u]) C [])(k:F.ends:=by exact ⟨fun _ _ _ h=>h,rfl⟩):G F [] .ret fr C L:=have ⟨x,hr,hs,y,z⟩:=q;fun _ a w d l=>by
 refine k.kq ?_;have f:=bI d (fun p g=>by cases g) hr;have i:=bI d (fun p g=>by cases g) hs;simp only [Act.eval] at f i;refine bodyPost_ret (v:=.tuple #[v,u]) ?_ (d.defers.trans k.2) ⟨_,C,[],Z,St.dropAll l,h⟩;have A:=eT (F:=F) y (l.sep.e _ o) z;simp only [RV] at f i;simp [results,x,f,i,asAddr,A]
end
end Go.Jog
namespace Go.Jog
open Go
theorem eA {a:Type}(f:a->Value):∀ l:List a,(l.map fun x=>[f x]).flatten=l.map f
 | []=>rfl
 | x::l=>by simp [eA f l]
def ai (s:List UInt8):Value:=.string ⟨s.toArray⟩
def cP (c:UInt8):List UInt8->List (List UInt8)
 | []=>[[]]
 | b::s=>if b=c then []::cP c s else match cP c s with
  | []=>[[b]]
  | p::ps=>(b::p)::ps
theorem CW (c:UInt8):∀ s,cP c s≠[]
 | []=>by simp [cP]
 | b::s=>by
  simp only [cP];split
  ·simp
  split <;> simp
theorem nu (c:UInt8):∀ s,c ∉ s->cP c s=[s]
 | [],_=>rfl
 | b::s,h=>by
  have h1:b≠c:=fun e=>h (by simp [e]);have h2:=nu c s (fun e=>h (by simp [e]));simp [cP,h1,h2]
theorem oS (c:UInt8):∀ (a post:List UInt8),c ∉ a->cP c (a++c::post)=a::cP c post
 | [],post,_=>by simp [cP]
 | b::a,post,h=>by
  have h1:b≠c:=fun e=>h (by simp [e]);have h2:=oS c a post (fun e=>h (by simp [e]));simp [cP,h1,h2]
theorem ku (c:UInt8):∀ s:List UInt8,(cP c s).length=s.count c+1
 | []=>by simp [cP]
 | b::s=>by
  have d:=ku c s;simp only [cP];by_cases a:b=c
  ·subst a;simp [d]
  rw [az a];have e:¬ (b == c)=true:=by simpa using a
  rw [List.count_cons_of_ne a];cases h:cP c s with
  | nil=>exact absurd h (CW c s)
  | cons p f=>rw [h] at d;simpa using d
end Go.Jog
namespace Go.Jog
open Go
section
variable {α:Type} {enc:α->List Value} {s:Nat}
theorem bS (a:∀ x,(enc x).length=s)(l:List α):(l.map enc).flatten.length=l.length*s:=by
 have:=bl (s:=s) (rows:=l.map enc) (fun r hr=>by obtain ⟨x,_,rfl⟩:=QX.1 hr;exact a x);simpa using this
theorem cI (a:∀ x,(enc x).length=s):∀ (l:List α)(i:Nat),(l.map enc).flatten.take (i*s)=((l.take i).map enc).flatten/\(l.map enc).flatten.drop (i*s)=((l.drop i).map enc).flatten
 | [],i=>by simp
 | x::l,0=>by simp
 | x::l,i+1=>by
  obtain ⟨h1,h2⟩:=cI a l i;have e:(i+1)*s=s+i*s:=by rw [SJ];omega
  have b:=a x;constructor
  ·rw [e,Rs,So,List.take_append,b,Re om_,show s+i*s-s=i*s by omega,h1];simp
  rw [e,Rs,So,TJ,b,Sf om_,show s+i*s-s=i*s by omega,h2];simp
theorem eE (a:∀ x,(enc x).length=s){l:List α}{i:Nat}{x:α}(h:l[i]?=some x):((l.map enc).flatten.drop (i*s)).take s=enc x:=by
 rw [(cI a l i).2];obtain ⟨h1,h2⟩:=aD.1 h;rw [Rh h1,h2,Rs,So];rw [List.take_append,a,Re (by rw [a];omega)];simp
theorem bN (a:∀ x,(enc x).length=s){l:List α}{i:Nat}(x:α)(h:i<l.length):aE (l.map enc).flatten (enc x) (i*s)=((l.set i x).map enc).flatten:=by
 unfold aE;rw [a,(cI a l i).1,show i*s+s=(i+1)*s by rw [SJ];omega,(cI a l (i+1)).2];rw [List.set_eq_take_append_cons_drop,aW h];simp
end
/- An element's address in a slice that begins at a known place. -/
/- A whole array, or a part of it, as a slice. -/
section
variable {cx:Cx} {n:Nat} {ds:List (Option Nat)} {R:Rg n ds} {its:List It} {fr:Fr} {C:Mem} {L:List Ent} {i k d:Nat} {o:Oper} {g:GL} {v:Value}
theorem Wg (l:Nat)(h:Nat)(m:Nat){t e c f:Nat}{a:Addr}{x:Operand}{j p q:Option Operand}{s u y:Option Value}{r z:TI}(B:Z12 (Nat.ble k 1) true o.dst (some d) o.op (.slice t x j p q) (gOf ds fr o.guard) (some g) (ev fr g x) (some (.pointer (some a))) (Gg (ev fr g) j) (some s) (Gg (ev fr g) p) (some u) (Gg (ev fr g) q) (some y) (cx.T.get t) (some r) r.k (.arr c e) (cx.T.get e) (some z) z.size f)(E:GT ds fr g->SlB c c s u y l h m)(F:Z2 (aQ n ds ((d,g,.slice (some (if m=l then a else a.add (l*f))) (h-l) (m-l))::fr) d) true (wfG ds fr g) true)(G:D cx R its ((d,g,.slice (some (if m=l then a else a.add (l*f))) (h-l) (m-l))::fr) C L):D cx R ((i,k,o)::its) fr C L:=by
 have ⟨H,I,J,K,b,M,N,O,Q,A,S,U⟩:=B;have ⟨V,W⟩:=F;have X:cx.P.underlying t=some (.array c e):=by
  obtain ⟨kk,s1,b1,z1,g1⟩:=r;simp only at A;subst A;exact oK cx.hT Q
 refine D.run _ H I K (fun Y a hs w=>?_) V W G;have Z:execOp a.eval o=(do Pure.pure (.value (<- Instr.sliceAt t (a.eval x) (j.map a.eval) (p.map a.eval) (q.map a.eval))):Sem Next):=by unfold execOp;rw [J]
 rw [Z,hs _ _ b,fa (fun x v b=>hs x v b) M,fa (fun x v b=>hs x v b) N,fa (fun x v b=>hs x v b) O];have h2:=eC cx.hT S w;rw [U] at h2;simp [Instr.sliceAt,Instr.sureAddr,run_underlying X,fG (E Y),h2]
end
section
variable {cx:Cx} {n:Nat} {ds:List (Option Nat)} {R:Rg n ds} {its:List It} {fr:Fr} {C:Mem} {L:List Ent} {i k d:Nat} {o:Oper} {g:GL} {v:Value}
theorem Vg {t e l:Nat}{m:Array (Nat × Operand)}{q g:TI}(c:List (List Value))(A:Z12 (Nat.ble k 1) false o.dst (some d) (gOn ds fr o.guard) true o.op (.buildSlice t l m) (cx.T.get t) (some q) q.k (.slice e) (cx.T.get e) (some g) (rowsO (ev fr []) m.toList 0) (some c) (c.all fun r=>Nat.beq r.length g.size) true (Nat.beq m.toList.length l) true (Nat.ble (l*g.size) 16777216) true (Nat.beq g.size 0) false)(B:∀ v,aQ n ds ((d,[],v)::fr) d=true)(h:∀ b C',C.le C'->Sl C' g.size (.slice (some ⟨b,0,none⟩) c.length c.length) c->D cx R its ((d,[],.slice (some ⟨b,0,none⟩) c.length c.length)::fr) C' L):D cx R ((i,k,o)::its) fr C L:=by
 have ⟨E,F,G,H,I,J,K,s,M,N,u,y⟩:=A;have p:∀ r∈c,r.length=g.size:=fun r hr=>Rp (Q4.1 M r hr);have z:=Rp N;rw [SE] at u;have O:=(dp s p).2;refine Wq (f:=fun b=>.slice (some ⟨b,0,none⟩) c.length c.length) (ob:=.cells ⟨c.flatten⟩ e) E F G B (fun a hs w=>?_) (fun b C' P Q=>?_)
 ·have S:execOp a.eval o=(do Pure.pure (.value (<- Instr.buildSlice t l (m.map fun (i,x)=>(i,a.eval x)))):Sem Next):=by unfold execOp;rw [H]
  rw [S];have U:(m.map fun (i,x)=>(i,a.eval x))=(m.toList.map fun (i,x)=>(i,a.eval x)).toArray:=by apply Sz;simp
  rw [U];simp only [Sem.run_bind,eU cx.hT I J K (fun x v V=>hs x v V) s p z u w,Result.andThen_ok,Sem.run_pure]
 refine h b C' P (Sl.ofBlock Q p (fun j v W=>by simpa using W) (QO _) ?_);rw [O,z];have h0:0<g.size:=SP (fun e=>by rw [e] at y;cases y);have:l<=l*g.size:=S2 _ h0;simp only [maxLen];omega
theorem VC {e f:Nat}{x:Operand}{m b:IntKind}{p c:Int}{q j:TI}(r:Z8 (Nat.ble k 1) true o.dst (some d) o.op (.convert e f x) (gOf ds fr o.guard) (some g) (ev fr g x) (some (.int m p)) (cx.T.get e) (some q) (cx.T.get f) (some j) j.k (.int b))(s:b.wrap p=c)(t:Z2 (aQ n ds ((d,g,.int b c)::fr) d) true (wfG ds fr g) true)(h:D cx R its ((d,g,.int b c)::fr) C L):D cx R ((i,k,o)::its) fr C L :=
 have ⟨u,v,y,z,A,B,E,l⟩:=r;have ⟨F,G⟩:=t;D.run _ u v z (fun _ a hs w=>by
  have H:execOp a.eval o=(do Pure.pure (.value (<- convert e f (a.eval x))):Sem Next):=by unfold execOp;rw [y]
  rw [H,hs _ _ A];obtain ⟨du,h1,h2⟩:=(eo cx.hT B).und;obtain ⟨I,J,K,M,N⟩:=j;simp only at l;subst l;subst s;simp [convert,run_underlying h1,run_underlying (oJ cx.hT E),Conv.intToInt]) F G h
end
theorem UN {F:Fx}{k:List KI}{a:Fr}{C:Mem}{L L':List Ent}{e:Exit}(b:L=L')(h:G F k e a C L'):G F k e a C L:=b ▸ h
/-! ### Equal neighbours -/
end Go.Jog
namespace Go.Jog
open Go Go.RowKit Go.WideShapes Go.ChangeShapes Go.Deep
variable {W:World}{v:Value}
def rt (W:World):Mem:=fun k=>W.heap[k]?
theorem Fs (W:World):Sep (rt W) [] W:=⟨fun _ _ h=>h,fun x a=>(by cases a),List.Pairwise.nil,fun k ⟨x,a,_⟩=>(by cases a)⟩
theorem Ck {a:Addr}(h:W.cell? a=some v):CCell (rt W) a v:=by
 unfold World.cell? at h;split at h
 ·rename_i c t fz b;split at h
  ·cases h
  rename_i hs;exact ⟨by simpa using hs,c,t,fz,b,h⟩
 cases h
theorem yL {P:Program}{f:FuncId}{a:List Value}(h:Gives P f a (rt W) v):Calls P f a.toArray W fun e b=>e=.returned v/\RowKit.Below W.heap.size W b :=
 (h.2 W (Fs W)).mono fun e b ⟨u,C',j,c,d,g,l⟩=>⟨by rw [c,g],d.ev.below (fun k ⟨x,i,_⟩=>by cases i)⟩
theorem GM {α:Type}{p:Nat->α->Prop}:∀ {n:Nat},(∀ i,i<n->∃ x,p i x)->∃ l:List α,l.length=n/\∀ i x,l[i]?=some x->p i x
 | 0,_=>⟨[],rfl,fun i x h=>by simp at h⟩
 | n+1,h=>by
  obtain ⟨l,h1,h2⟩:=GM (n:=n) (fun i a=>h i om_);obtain ⟨x,b⟩:=h n om_;refine ⟨l++[x],by simp [h1],fun i y hy=>?_⟩;by_cases a:i<n
  ·rw [RI om_] at hy;exact h2 i y hy
  rw [Ro om_] at hy;have:i-l.length=0:=by
   rcases Sh (i-l.length) with h0 | h0
   ·exact h0
   rw [QY ap] at hy;cases hy
  rw [this] at hy;simp only [List.getElem?_cons_zero,Rt] at hy;subst hy;have c:i=n:=by omega
  subst c;exact b
section
variable {H:Type} {enc:TypeId × Value->H} {P:Program} {W:World} {spare:Nat->Bool} {held:Bool}
theorem Fj {d:Type}{t e:TypeId}{k:Nat}{C:Nat}{v:Value}{x:DataW H × List MemPlace}(f:d->List Value)(E:P.underlying t=some (.slice e))(F:P.cellsOf e=k)(S:k≠0)
  (G:∀ (n:Nat)(cs:List Value)(y:DataW H × List MemPlace),cs.length=k->DataW.trod enc P W 0 spare held n e cs=some y->∃ z:d,cs=f z)
  (h:DataW.trod enc P W 0 spare held C t [v]=some x):∃ l:List d,Sl (rt W) k v (l.map f):=by
 rcases open_slice E h with ⟨h1,_⟩ | ⟨a,len,I,m,n,D,T,s,_,J,hm,K,_,w⟩
 ·simp only [S9,Ul] at h1;subst h1;exact ⟨[],Sl.nil _ _⟩
 simp only [S9,Ul] at s;subst s;have U:len<=m:=by rw [K];split <;> omega
 rw [F] at w;obtain ⟨l,A,o⟩:=GM (α:=d) (n:=len) (p:=fun i z=>W.cells? 0 (a.add (i*k)) k=some (f z)) (fun i b=>by
  obtain ⟨L,h1,h2⟩:=w i om_;obtain ⟨_,h3,_⟩:=World.cells?_some h1;obtain ⟨z,rfl⟩:=G n L _ h3 h2;exact ⟨z,h1⟩)
 refine ⟨l,some a,I,by simp [A],by simp [A];exact J,hm,fun r hr=>?_,fun i r b=>?_⟩
 ·obtain ⟨z,c,rfl⟩:=QX.1 hr;obtain ⟨i,b⟩:=Sg c;exact (World.cells?_some (o i z b)).2.1
 rw [QU] at b;cases c:l[i]? with
 | none=>rw [c] at b;cases b
 | some z =>
  rw [c] at b;simp only [Su,Rt] at b;subst b;obtain ⟨_,h4,h5⟩:=World.cells?_some (o i z c);have M:∀ j u,(f z)[j]?=some u->W.cell? ((a.add (i*k)).add j)=some u:=fun j u g=>by
   have N:j<k:=by rw [<- h4];exact (aD.1 g).1
   rw [h5 j N];exact g
  have hs:a.spot=none:=by
   have h0:0<l.length:=by have:=(aD.1 c).1;omega
   obtain ⟨q,O⟩:∃ q,l[0]?=some q:=⟨l[0],aj h0⟩;obtain ⟨_,V,Q⟩:=World.cells?_some (o 0 q O);have B:=Q 0 om_;rw [aj om_] at B;have R:=(Ck B).1;simpa [Addr.add] using R
  exact ⟨a,Z,hs,fun j u g=>by
   have:=Ck (M j u g)
   rwa [vi a _ _ hs] at this⟩
theorem uf {f:Func}{s:ChangeSpec}{m y z A:Bool}{W e:World}{k:Array Value}{v:Value}{g h:List (DataW H)}{c pa pv:List MemPlace}
  (l:DataW.Whole enc P f.params.toList s.vars m W k.toList g h c)
  (n:∀ (b:Nat)(d:Nat->Bool)(B:Bool),DataW.TrodAll enc P e b d B f.resultTypes.toList (v.resultList f.resultTypes.size) (s.fn H (g++h)).results [])
  (o:∀ d:Nat->Bool,(∀ p∈c,d p.block=true)->DataW.TrodAll enc P e 0 d true f.params.toList k.toList (s.fn H (g++h)).args pa)
  (q:∀ d:Nat->Bool,(∀ p∈c,d p.block=true)->DataW.TrodVars enc P e d s.vars (s.fn H (g++h)).vars pv)
  (i:c=pa++pv) (u:RowKit.Below W.heap.size W e)
  (C:∀ (j:Nat)(t:TypeId)(r:Value),f.resultTypes[j]?=some t->(v.resultList f.resultTypes.size)[j]?=some r->Value.okWide P e .any 0 t r) :
  s.post enc P f m y z A W k v e:=by
 have w:∀ p∈c,p.block<W.heap.size:=fun p a=>l.lt p a;have hold:∀ p∈c,(fun b=>decide (b<W.heap.size)) p.block=true:=fun p a=>by simpa using w p a
 refine ⟨g,h,c,[],pa,pv,l,n _ _ _,o _ hold,q _ hold,World.keptBut_mono (fun p a=>⟨a, ?_⟩) (u.frame (·∈c)),fun _=>?_⟩
 ·rw [i,Q6] at a;exact Or.inr a
 obtain ⟨_,_,_,_,_,D,E⟩:=l;refine ⟨C,_,_,([]++pa)++pv,⟨[]++pa,pv,trodAll_append (o _ (fun _ _=>rfl)) (n _ _ _),q _ (fun _ _=>rfl),Z, ?_, ?_⟩, ?_⟩
 ·intro b off a;have x:MemPlace.cell b off∈c:=by rw [i];simpa using a
  rw [u.frozen (w _ x)];exact D b off x
 ·intro F;have:=E F;rw [i] at this;simpa using this
 intro p a _;rw [i];simpa using a
end
end Go.Jog
namespace Go.Jog
open Go
def yP (P:Program)(t:Nat):Bool:=match P.underlying t with
 | some (.array _ e)=>(match P.underlying e with | some d=>rW d | none=>false) && Nat.beq (P.cellsOf e) 1 && !(P.eqGuardType P.depth t) && (P.info? e).isSome
 | _=>false
def Qy (P:Program)(t:Nat)(xs:List Value):Bool:=match P.underlying t with
 | some (.array m e)=>Nat.beq xs.length m && xs.all (fun x=>sz (P.underlying e) x)
 | _=>false
theorem iF {P:Program}{e:TypeId}{d:TypeDesc}(m:Nat)(w:World)(c:P.underlying e=some d)(f:rW d=true):∀ {xs ys X Y:List Value}{i:Nat}{b:Bool},xs.all (fun x=>sz (P.underlying e) x)=true->kg xs ys=some b->X.drop i=xs->Y.drop i=ys ->
  (Op.eqItems (m+1) e 1 ⟨X⟩ ⟨Y⟩ (List.range' i xs.length)).run P w=.ok b w
 | [],ys,X,Y,i,b,_,a,_,_=>by
  cases ys with
  | nil=>simp [kg] at a;subst a;simp [Op.eqItems]
  | cons=>simp [kg] at a
 | x::xs,ys,X,Y,i,b,g,a,h,j=>by
  cases ys with
  | nil=>simp [kg] at a
  | cons y ys =>
   simp only [List.all_cons,Q1] at g;simp only [kg] at a;split at a
   ·rename_i p q k l;cases a
    have n:X[i]?=some x:=by
     have:=congrArg (·[0]?) h;simpa using this
    have hy:Y[i]?=some y:=by
     have:=congrArg (·[0]?) j;simpa using this
    have o:X.drop (i+1)=xs:=by
     have:=congrArg (List.drop 1) h;simpa using this
    have r:Y.drop (i+1)=ys:=by
     have:=congrArg (List.drop 1) j;simpa using this
    have hr:=AO k m w g.1;have s:=iF m w c f g.2 l o r;simp only [Q8,Ur,Op.eqItems,SK,Sem.run_bind,iV c f n w,iV c f hy w,hr,Result.andThen_ok];cases p
    ·simp
    simpa using s
   cases a
theorem Dg {P:Program}{t:Nat}(a:yP P t=true){xs ys:List Value}(c:Qy P t xs=true){b:Bool}(i:kg xs ys=some b)(w:World):(Op.equalIn 10000 t (.agg ⟨xs⟩) (.agg ⟨ys⟩)).run P w=.ok b w:=by
 unfold yP at a;unfold Qy at c;cases f:P.underlying t with
 | none=>rw [f] at a;cases a
 | some D =>
  rw [f] at a c;cases D <;> try (cases a)
  rename_i n e;simp only [Q1] at a c;obtain ⟨⟨⟨h1,h2⟩,h3⟩,h4⟩:=a;have j:=Rp h2;have k:=Rp c.1;cases h:P.info? e with
  | none=>rw [h] at h4;cases h4
  | some inf =>
   cases g:P.underlying e with
   | none=>rw [g] at h1;cases h1
   | some d =>
    rw [g] at h1;rw [run_equalIn_array w 9999 ⟨xs⟩ ⟨ys⟩ f h,j,<- k,Ud];exact iF 9998 w g h1 c.2 i Z Z
end Go.Jog
namespace Go.Jog
open Go
inductive OT where
 | fin (π:List Nat)
 | cut (π:List Nat) (t:OT)
 | alt (i:Nat) (t:OT) (r:OT)
 | stop
section
variable {P:Program} {ops:Array Oper} {ι:Type} {cls:ι->World->Prop} {le:ι->ι->Prop} {md:Region.Mode}
def DT (P:Program)(ops:Array Oper)(cls:ι->World->Prop)(le:ι->ι->Prop)(kd:Nat->Nat)(Post:Act->ι->Prop):OT->Act->ι->Prop
 | .fin π=>DU P ops cls le kd Post π
 | .cut π t=>DU P ops cls le kd (DT P ops cls le kd Post t) π
 | .alt i t r=>fun a κ=>fT P ops cls le (kd i) i (DT P ops cls le kd Post t) a κ/\DT P ops cls le kd Post r a κ
 | .stop=>fun _ _=>True
def jm:OT->List Nat
 | .alt i _ r=>i::jm r
 | _=>[]
def Nt:OT->Bool
 | .fin _ | .cut _ _=>true
 | _=>false
def ie:List Nat->Array Bool->Array Bool
 | [],listed=>listed
 | i::π,listed=>ie π (listed.setIfInBounds i true)
def OS (md:Region.Mode)(ops:Array Oper)(kd:Nat->Nat):List Nat->Array Bool->Bool
 | [],_=>true
 | i::π,listed=>(bif Nat.ble (kd i) 1 then (Region.ready md ops listed).contains i && Ko md ops kd listed i else (Region.ready md ops listed == [i])) && OS md ops kd π (listed.setIfInBounds i true)
def I6 (md:Region.Mode)(ops:Array Oper)(kd:Nat->Nat):OT->Nat->Array Bool->Bool
 | .fin π,f,listed=>Nat.beq π.length f && (OS md ops kd π listed && (Region.ready md ops (ie π listed)).isEmpty)
 | .cut π t,f,listed=>Nat.blt π.length f && (OS md ops kd π listed && ((Region.ready md ops (ie π listed)).all (fun i=>(jm t).contains i) && (!(Region.ready md ops (ie π listed)).isEmpty && I6 md ops kd t (f-π.length) (ie π listed))))
 | .alt i t r,f,listed=>(Nat.blt 0 f && (Nt t && I6 md ops kd t (f-1) (listed.setIfInBounds i true))) && I6 md ops kd r f listed
 | .stop,_,_=>true
theorem fq (r:∀ a b c,le a b->le b c->le a c){k:Nat->Nat}{u K:Act->ι->Prop}(s:Region.noSelect ops=true){f:Nat} :
  ∀ (d:List Nat)(e:Array Bool)(a:Act)(κ:ι),Closed md ops e->OS md ops k d e=true->(∀ a κ,Closed md ops (ie d e)->K a κ->lf P md ops cls le k u f (ie d e) a κ) ->
   DU P ops cls le k K d a κ->lf P md ops cls le k u (d.length+f) e a κ
 | [],e,a,κ,l,_,n,h=>by
  rw [Q7,Sd];exact n a κ l h
 | i::d,e,a,κ,l,w,n,h=>by
  simp only [OS,Q1] at w;obtain ⟨g,x⟩:=w;rw [Q8,Nat.add_right_comm];by_cases p:k i<=1
  ·have t:Nat.ble (k i) 1=true:=by rw [SE];exact p
   rw [t] at g;simp only [SH,Q1,TE] at g;obtain ⟨hr,y⟩:=g;simp only [DU] at h;unfold fT at h;cases q:ops[i]? with
   | none=>simp only [q] at h
   | some o =>
    simp only [q,p,SL] at h;obtain ⟨v,hy,A⟩:=h;refine nn (F:=ops.size) r q p (fun j o cs b=>Region.noSelect_spec s j o cs b) (d.length+f) e a κ l (fun j I m B C=>?_) hr hy
     (fq r s d _ _ κ (l.set hr) x n A)
    simp only [Ko,q,Q4,Q9] at y;have:=y j (S6.1 m).1;simp only [m,Sm,Sr,B,false_or,C,RH,Q1,SE] at this;rcases this with h1 | h1
    ·exact .inr h1
    exact .inl h1
  have t:Nat.ble (k i) 1=false:=by
   cases z:Nat.ble (k i) 1 with
   | false=>rfl
   | true=>exact absurd (by rw [SE] at z;exact z) p
  rw [t] at g;simp only [cond_false,Sr] at g;have D:i∈Region.ready md ops e:=by rw [g];simp
  refine ⟨fun h0=>(by rw [h0] at g;cases g),fun j m=>?_⟩;rw [g] at m;obtain rfl:j=i:=by simpa using m
  exact gw (fun E G H=>fq r s d _ E G (l.set D) x n H) h
theorem fW (p:∀ a b c,le a b->le b c->le a c){q:Nat->Nat}{z:Act->ι->Prop}(s:Region.noSelect ops=true) :
  ∀ (t:OT)(f:Nat)(d:Array Bool)(a:Act)(κ:ι),Closed md ops d->I6 md ops q t f d=true->DT P ops cls le q z t a κ ->
   (match t with
    | .fin _ | .cut _ _=>lf P md ops cls le q z f d a κ
    | _=>∀ i∈jm t,i∈Region.ready md ops d->(∃ n,f=n+1/\fT P ops cls le (q i) i (lf P md ops cls le q z n (d.setIfInBounds i true)) a κ))
 | .fin g,f,d,a,κ,o,k,h=>by
  simp only [I6,Q1,Th] at k;obtain ⟨A,u,v⟩:=k;have:=Rp A;have h2:=fq (f:=0) p s g d a κ o u (fun a κ _ B=>⟨v,B⟩) h;rw [SU,this] at h2;exact h2
 | .cut g t,f,d,a,κ,o,k,h=>by
  simp only [I6,Q1,Q4] at k;obtain ⟨A,u,v,C,G⟩:=k;rw [TZ] at A;have H:Region.ready md ops (ie g d)≠[]:=fun e=>by rw [e] at C;cases C
  have h2:=fq (f:=f-g.length) p s g d a κ o u (fun a κ I B=>by
   have l:=fW p s t (f-g.length) (ie g d) a κ I G B;obtain ⟨n,J⟩:∃ n,f-g.length=n+1:=⟨f-g.length-1,by omega⟩;rw [J] at l ⊢;refine ⟨fun h0=>absurd h0 H,fun i m=>?_⟩;have w:=v i m;rw [TE] at w;cases t with
   | fin x=>simp [jm] at w
   | cut x y=>simp [jm] at w
   | stop=>simp [jm] at w
   | alt j y D =>
    obtain ⟨K,R,hs⟩:=l i w m;obtain rfl:n=K:=by omega
    exact hs) h
  rw [show g.length+(f-g.length)=f by omega] at h2;exact h2
 | .alt j t r,f,d,a,κ,o,k,h=>by
  simp only [I6,Q1] at k;obtain ⟨⟨L,E,u⟩,v⟩:=k;rw [TZ] at L;intro i m hr;simp only [jm,Q3] at m;by_cases F:i=j
  ·subst F;refine ⟨f-1,by omega,gw (fun M N O=>?_) h.1⟩;have l:=fW p s t (f-1) _ M N (o.set hr) u O;cases t with
   | fin x=>exact l
   | cut x y=>exact l
   | stop=>cases E
   | alt Q y D=>cases E
  have h2:=m.resolve_left F;have l:=fW p s r f d a κ o v h.2;cases r with
  | fin x=>simp [jm] at h2
  | cut x y=>simp [jm] at h2
  | stop=>simp [jm] at h2
  | alt Q y D=>exact l i h2 hr
 | .stop,_,_,_,_,_,_,_=>by
  intro i m;simp [jm] at m
theorem rh (W:Cw P)(n:W.nd ops)(d:∀ κ,le κ κ)(o:∀ a b c,le a b->le b c->le a c){e:Nat->Nat}{f:Act->ι->Prop}{p:Nat}{Q:Exit->Act->World->Prop}{a:Act}{w:World}{κ:ι}
  (q:P.follows .mixedOrders=true) (g:cls κ { w with drawn:=w.drawn+1 }) (t:OT) (k:Nt t=true)
  (l:(Region.noSelect ops && I6 .any ops e t ops.size (Array.replicate ops.size false))=true) (h:DT P ops cls le e f t a κ)
  (m:∀ a κ w,f a κ->cls κ w->Q .normal a w):W.wp (Code.region p ops true) Q a w:=by
 simp only [Q1] at l;obtain ⟨hs,s⟩:=l;refine W.any q n ?_;have h0:Closed .any ops (Array.replicate ops.size false):=fun j x _ u=>by
  rcases Rr j ops.size with h | h <;> simp [h] at u
 have:=fW o hs t ops.size _ a κ h0 s h;cases t with
 | fin v=>exact jv d m _ _ _ _ _ g this
 | cut v t=>exact jv d m _ _ _ _ _ g this
 | stop=>cases k
 | alt i t r=>cases k
end
/-! ### In the logic -/
section
variable {cx:Cx} {n:Nat} {ds:List (Option Nat)} {fr:Fr} {C:Mem} {L:List Ent}
def RgT (P:Program)(R:Rg n ds)(t:OT):Rg n ds:=⟨R.b,R.ops,R.kd,DT P R.ops R.b.cls kle R.kd R.Post t,R.hy,R.dd⟩
def DN (cx:Cx)(R:Rg n ds)(l:List Oper)(ov:List (Nat × Nat)):OT->Fr->Mem->List Ent->Prop
 | .fin π=>D cx R (gF l ov π)
 | .cut π t=>D cx (RgT cx.P R t) (gF l ov π)
 | _=>fun _ _ _=>True
def DA (cx:Cx)(R:Rg n ds)(l:List Oper)(ov:List (Nat × Nat)):OT->Fr->Mem->List Ent->Prop
 | .alt i (.fin π) r=>fun fr C L=>D cx R (gF l ov (i::π)) fr C L/\DA cx R l ov r fr C L
 | .alt i (.cut π t) r=>fun fr C L=>D cx (RgT cx.P R t) (gF l ov (i::π)) fr C L/\DA cx R l ov r fr C L
 | .stop=>fun _ _ _=>True
 | _=>fun _ _ _=>False
def Ki (m:Nat):OT->Bool
 | .fin π=>π.all (fun i=>Nat.blt i m)
 | .cut π t=>π.all (fun i=>Nat.blt i m) && Ki m t
 | .alt i t r=>Nat.blt i m && (Ki m t && Ki m r)
 | .stop=>true
theorem uz {R:Rg n ds}{l:List Oper}{a:List (Nat × Nat)}(d:∀ i,i<l.length->R.kd i=ovr a i (gb (kb l i))/\R.ops[i]?=some (kb l i)){b:List Nat}(h:b.all (fun i=>Nat.blt i l.length)=true) :
  ∀ x∈gF l a b,R.kd x.1=x.2.1/\R.ops[x.1]?=some x.2.2:=fun x e=>by
 obtain ⟨h1,h2,h3⟩:=gE e;have c:=Q4.1 h x.1 h1;rw [TZ] at c;have:=d x.1 c;exact ⟨this.1.trans h2.symm,by rw [this.2,h3]⟩
theorem vo {R:Rg n ds}{l:List Oper}{g:List (Nat × Nat)}(d:∀ i,i<l.length->R.kd i=ovr g i (gb (kb l i))/\R.ops[i]?=some (kb l i))(e:R.b.C0.le C){a:Act}(f:FrOk n ds R.dd fr a) :
  ∀ (t:OT),Ki l.length t=true->DA cx R l g t fr C L->DT cx.P R.ops R.b.cls kle R.kd R.Post t a (C,L)
 | .alt i (.fin j) r,c,h=>by
  simp only [Ki,Q1] at c;have h1:=h.1 e (uz d (by simp only [List.all_cons,Q1];exact ⟨c.1,c.2.1⟩)) a f;rw [dY] at h1;exact ⟨h1,vo d e f r c.2.2 h.2⟩
 | .alt i (.cut j t) r,c,h=>by
  simp only [Ki,Q1] at c;have h1:=h.1 e (uz (R:=RgT cx.P R t) d (by simp only [List.all_cons,Q1];exact ⟨c.1,c.2.1.1⟩)) a f;rw [dY] at h1;exact ⟨h1,vo d e f r c.2.2 h.2⟩
 | .stop,_,_=>trivial
 | .fin _,_,h=>h.elim
 | .cut _ _,_,h=>h.elim
 | .alt _ (.alt _ _ _) _,_,h=>h.elim
 | .alt _ .stop _,_,h=>h.elim
theorem Vd {R:Rg n ds}{l:List Oper}{a:List (Nat × Nat)}{t:OT}(b:∀ i,i<l.length->R.kd i=ovr a i (gb (kb l i))/\R.ops[i]?=some (kb l i))(c:Ki l.length t=true)(h:DA cx R l a t fr C L):D cx (RgT cx.P R t) [] fr C L :=
 fun h0 _ _ d=>vo b h0 d t c h
end
section
variable {F:Fx} {k:List KI} {fr:Fr} {C:Mem} {L:List Ent}
theorem Vp {z:Nat}{l:List Oper}(t:OT)(f:List (Nat × Nat))(c:fr.all (fun x=>x.2.1.isEmpty)=true)(o:Nt t=true)
  (j:((Region.noSelect l.toArray && I6 .any l.toArray (fun i=>ovr f i (gb (kb l i))) t l.toArray.size (Array.replicate l.toArray.size false)) && Ki l.length t)=true)
  (h:∀ R:Rg F.n (l.map (·.dst)),C.le R.b.C0->(∀ fr C L,fr.all (fun x=>x.2.1.isEmpty)=true->G F (iI 64 k) .normal fr C L->D F.cx R [] fr C L) ->
   (∀ i,i<l.length->R.kd i=ovr f i (gb (kb l i))/\R.ops[i]?=some (kb l i))->DN F.cx R l f t fr C L) (A:F.W.nd l.toArray:=by first | exact trivial | exact rfl) :
  G F (.code (.region z l.toArray true)::k) .normal fr C L:=fun h0 a w d e=>by
 simp only [Kq];rw [Q1] at j
 let kd:=fun i=>ovr f i (gb (kb l i))
 let b:Bs:=⟨F.b.w0,C,F.b.L0⟩
 let Post:Act->Mem × List Ent->Prop:=fun a κ=>∀ w,b.cls κ w->Kq F k .normal a w
 let R:Rg F.n (l.map (·.dst)):=⟨b,l.toArray,kd,Post,fun tmps=>el l tmps,F.dd⟩
 have B:∀ κ w,b.cls κ w->F.b.cls κ w:=fun κ w E=>St.unbase h0 e.cn E;have q:∀ i,i<l.length->R.kd i=ovr f i (gb (kb l i))/\R.ops[i]?=some (kb l i):=fun i m=>⟨rfl,by
  show (l.toArray)[i]?=_;rw [R4,fK m]⟩
 have u:=h R (Mem.le.refl _) (fun fr C' L c H I _ a d w e=>Vh 64 H (h0.trans I) a w ⟨d.size,d.defers,fun s g v y=>by
  have hm:=Q4.1 c _ (Fr.get_mem y);simp only [Th] at hm;subst hm;exact ⟨fun _=>(d.ent s [] v y).1 (fun p c=>by cases c),fun J=>absurd (fun p c=>by cases c) J⟩⟩ (B _ _ e)) q
 have hT:DT F.cx.P l.toArray b.cls kle kd Post t a (C,L):=by
  cases t with
  | fin K =>
   have h1:=u (Mem.le.refl _) (uz q j.2) a (d.enter _ c);rw [dY] at h1;exact h1
  | cut K t =>
   have m:=j.2;simp only [Ki,Q1] at m;have h1:=u (Mem.le.refl _) (uz (R:=RgT F.cx.P R t) q m.1) a (d.enter _ c);rw [dY] at h1;exact h1
  | stop=>cases o
  | alt i t r=>cases o
 exact rh F.W A (cls:=b.cls) (le:=kle) kle.refl kle.trans F.cx.mixed (St.rebase (St.drew e)) t o j.1 hT (fun a κ w M e=>M w e)
end
end Go.Jog
namespace Go.Jog
open Go Go.MapKept
section
variable {κ β:Type} [DecidableEq κ]
def dq:List (κ × β)->κ->Option β
 | [],_=>none
 | (k',v)::m,k=>if k'=k then some v else dq m k
def fU:List (κ × β)->κ->β->List (κ × β)
 | [],k,v=>[(k,v)]
 | (k',v')::m,k,v=>if k'=k then (k,v)::m else (k',v')::fU m k v
theorem kz:∀ {m:List (κ × β)}{k:κ}{v:β},dq (fU m k v) k=some v
 | [],k,v=>by simp [fU,dq]
 | (a,b)::m,k,v=>by
  simp only [fU];split
  ·simp [dq]
  rename_i h;simp only [dq,az h];exact kz
theorem jg:∀ {m:List (κ × β)}{k k2:κ}{v:β},k≠k2->dq (fU m k v) k2=dq m k2
 | [],k,k2,v,h=>by simp [fU,dq,h]
 | (a,b)::m,k,k2,v,h=>by
  simp only [fU];split
  ·rename_i e;subst e;simp [dq,h]
  simp only [dq,jg h]
theorem BE {a:Type}(f:β->a):∀ (m:List (κ × β))(k:κ),dq (m.map fun p=>(p.1,f p.2)) k=(dq m k).map f
 | [],_=>rfl
 | (b,v)::m,k=>by
  simp only [Rs,dq];split
  ·rfl
  exact BE f m k
def kw:List (κ × β)->κ->Option (Nat × β)
 | [],_=>none
 | (k',v)::m,k=>if k'=k then some (0,v) else (kw m k).map fun p=>(p.1+1,p.2)
theorem pJ:∀ (m:List (κ × β))(k:κ),(kw m k).map (·.2)=dq m k
 | [],_=>rfl
 | (a,v)::m,k=>by
  simp only [kw,dq];split
  ·rfl
  rw [<- pJ m k];cases kw m k <;> rfl
end
structure KeyT (d:TypeDesc)(κ:Type)[DecidableEq κ] where
 enc:κ->Value
 isKey:∀ a,IsKey d (enc a)
 same:∀ a b,Instr.sameNow d (enc a) (enc b)=some (decide (a=b))
def bG {κ:Type}(enc:κ->Value):List (κ × Value)->Nat->List MapEntry
 | [],_=>[]
 | (k,v)::m,i=>⟨enc k,v,i⟩::bG enc m (i+1)
def aR {κ:Type}(enc:κ->Value)(m:List (κ × Value)):Obj:=.map ⟨bG enc m 0⟩ m.length
section
variable {d:TypeDesc} {κ:Type} [DecidableEq κ] (K:KeyT d κ)
theorem ip (k:κ):∀ (m:List (κ × Value))(i j:Nat),Instr.findNow d (K.enc k) (bG K.enc m i) j=some ((kw m k).map fun p=>(j+p.1,p.2))
 | [],i,j=>rfl
 | (a,v)::m,i,j=>by
  simp only [bG,Instr.findNow,K.same];by_cases h:k=a
  ·subst h;simp [kw]
  have b:¬ a=k:=fun e=>h e.symm;simp only [h,decide_false,ip k m (i+1) (j+1),kw,az b];cases kw m k with
  | none=>rfl
  | some p=>simp;omega
theorem nC {a:Type}(b:a->Value):∀ (m:List (a × Value))(i:Nat),(bG b m i).length=m.length
 | [],_=>rfl
 | _::m,i=>by simp [bG,nC b m]
theorem sj {k:κ}{v:Value}:∀ {m:List (κ × Value)}{i:Nat},kw m k=none->bG K.enc m i++[⟨K.enc k,v,i+m.length⟩]=bG K.enc (fU m k v) i/\(fU m k v).length=m.length+1
 | [],i,_=>⟨rfl,rfl⟩
 | (d,e)::m,i,h=>by
  simp only [kw] at h;split at h
  ·cases h
  rename_i a;have b:kw m k=none:=by
   cases c:kw m k with
   | none=>rfl
   | some p=>rw [c] at h;cases h
  obtain ⟨h1,h2⟩:=sj (i:=i+1) (v:=v) b;simp only [fU,az a,bG,SD,Q8,h2];refine ⟨?_,trivial⟩;rw [<- h1];congr 3;congr 1;omega
theorem si {k:κ}{v:Value}:∀ {m:List (κ × Value)}{i q:Nat}{u:Value},kw m k=some (q,u)->(bG K.enc m i).modify q (fun e=>{ e with key:=K.enc k,val:=v })=bG K.enc (fU m k v) i/\(fU m k v).length=m.length/\((bG K.enc m i)[q]?).map (·.key)=some (K.enc k)
 | [],_,_,_,h=>by cases h
 | (c,d)::m,i,q,u,h=>by
  simp only [kw] at h;split at h
  ·rename_i e;subst e;cases h
   simp [bG,fU]
  rename_i b;cases a:kw m k with
  | none=>rw [a] at h;cases h
  | some p =>
   obtain ⟨f,g⟩:=p;rw [a] at h;cases h
   obtain ⟨h1,h2,h3⟩:=si (i:=i+1) (v:=v) a;simp only [fU,az b,bG,Q8,h2,List.modify_succ_cons,h1];exact ⟨trivial,trivial,by simpa using h3⟩
end
theorem gT {T:Tab}{P:Program}(f:oN P T=true){t k e:Nat}{a:TI}(h:T.get t=some a)(c:a.k=.map k e):P.underlying t=some (.map k e):=by
 obtain ⟨i,s,b,z,g⟩:=a;simp only at c;subst c;obtain ⟨d,h1,h2⟩:=LY f h;cases d <;> simp [tkB] at h2
 rw [h1,h2.1,h2.2]
section
variable {cx:Cx} {n:Nat} {ds:List (Option Nat)} {R:Rg n ds} {its:List It} {fr:Fr} {C:Mem} {L:List Ent} {i k d:Nat} {o:Oper} {g:GL} {v:Value}
variable {kd:TypeDesc} {κ:Type} [DecidableEq κ] (K:KeyT kd κ)
theorem D.makeMap {t:Nat}(c:Nat.ble k 1=false)(e:o.dst=some d)(g:gOn ds fr o.guard=true)(j:o.op=.makeMap t none)(l:∀ v,aQ n ds ((d,[],v)::fr) d=true)
  (h:∀ b,D cx R its ((d,[],.map (some b))::fr) C (.obj b (aR K.enc [])::L)):D cx R ((i,k,o)::its) fr C L :=
 VX (f:=fun b=>.map (some b)) (ob:=aR K.enc []) c e g l (fun a _ w=>by
  have m:execOp a.eval o=(do Pure.pure (.value (<- Instr.makeMap t none)):Sem Next):=by unfold execOp;rw [j];rfl
  rw [m];rfl) h
def kN (z:Value)(ok:Bool):Option Value->Value
 | some u=>bif ok then .tuple #[u,.bool true] else u
 | none=>bif ok then .tuple #[z,.bool false] else z
theorem De {P:Program}{T:Tab}(c:oN P T=true){t d e:Nat}{f g:TI}{a:Bool}(i:T.get t=some f)(j:f.k=.map d e)(h:P.underlying d=some kd)(l:T.get e=some g){w:World}{b:Nat}{m:List (κ × Value)}(n:w.heap[b]?=some (aR K.enc m))(y:κ) :
  (Instr.lookup t (.map (some b)) (K.enc y) a).run P w=.ok (kN g.zv a (dq m y)) w:=by
 have o:=gT c i j;have q:=ip K y m 0 0;have h1:(getObj b).run P w=.ok (.map ⟨bG K.enc m 0⟩ m.length) w:=Go.MapKept.run_getObj_map n;have h2:=run_findKey (P:=P) (w:=w) h q;rw [<- pJ];unfold Instr.lookup;simp only [Sem.run_bind,run_underlying o,Result.andThen_ok,h1,Sem.run_pure,run_checkKey h (K.isKey y)];rw [h2];cases kw m y with
 | none=>cases a <;> simp [kN,tC c l w]
 | some p=>cases a <;> simp [kN]
theorem VP {b t j l:Nat}{x y:Operand}{c:Bool}{m:List (κ × Value)}{f:κ}{p q:TI}(s:Ent.obj b (aR K.enc m)∈L)(r:k=1)(u:o.dst=some d)(z:o.op=.lookup t x y c)(A:gOf ds fr o.guard=some g)(B:ev fr g x=some (.map (some b)))(E:ev fr g y=some (K.enc f))
  (F:cx.T.get t=some p) (G:p.k=.map j l) (H:cx.P.underlying j=some kd) (I:cx.T.get l=some q) (J:kN q.zv c (dq m f)=v) (M:aQ n ds ((d,g,v)::fr) d=true) (N:wfG ds fr g=true)
  (h:D cx R its ((d,g,v)::fr) C L):D cx R ((i,k,o)::its) fr C L :=
 Vl (by subst r;rfl) u A M N (fun _ a hs W O w Q=>by
  have S:w.heap[b]?=some (aR K.enc m):=Q.sep.e _ ((O r).2 _ s);have U:(execOp a.eval o).run cx.P w=.ok (.value v) w:=by
   have V:execOp a.eval o=(do Pure.pure (.value (<- Instr.lookup t (a.eval x) (a.eval y) c)):Sem Next):=by unfold execOp;rw [z]
   rw [V,hs _ _ B,hs _ _ E,<- J];simp only [Sem.run_bind,De K cx.hT F G H I S f,Result.andThen_ok,Sem.run_pure]
  unfold Oper.quietAt;rw [U];exact ⟨Z,Z⟩) h
theorem D.mapUpdate {t l E j b:Nat}{x y z:Operand}{m:List (κ × Value)}{c:κ}{n:TI}(F:k=3)(G:gOn ds fr o.guard=true)(H:o.dst=none)(I:o.op=.mapUpdate t x y z)
  (J:ev fr [] x=some (.map (some b))) (M:ev fr [] y=some (K.enc c)) (N:ev fr [] z=some v) (O:L[j]?=some (.obj b (aR K.enc m)))
  (Q:cx.T.get t=some n) (U:n.k=.map l E) (r:cx.P.underlying l=some kd)
  (h:D cx R its fr C (.obj b (aR K.enc (fU m c v))::L.eraseIdx j)):D cx R ((i,k,o)::its) fr C L :=
 VU (S:=fun C' L'=>C'=C/\L'=.obj b (aR K.enc (fU m c v))::L.eraseIdx j) (by subst F;rfl) G (fun a hs w _ V=>by
  have s:=St.perm V (ak O);have f:w.heap[b]?=some (aR K.enc m):=s.sep.e _ (Qb ..);have W:=gT cx.hT Q U;have X:=ip K c m 0 0;have h1:(getObj b).run cx.P w=.ok (.map ⟨bG K.enc m 0⟩ m.length) w:=Go.MapKept.run_getObj_map f;have h2:=run_findKey (P:=cx.P) (w:=w) r X;have Y:(Instr.mapUpdate t (.map (some b)) (K.enc c) v).run cx.P w=.ok () { w with heap:=w.heap.setIfInBounds b (aR K.enc (fU m c v)) }:=by
   unfold Instr.mapUpdate;simp only [Sem.run_bind,run_underlying W,Result.andThen_ok,h1,run_checkKey r (K.isKey c)];rw [h2];cases A:kw m c with
   | none =>
    obtain ⟨h3,h4⟩:=sj K (v:=v) (i:=0) A;simp only [Option.map_none,Result.andThen_ok];rw [Go.MapKept.run_setObj_map (P:=cx.P) _ f];congr 2;simp only [aR,h4,<- h3,Sd];congr 2;apply Sz;simp
   | some p =>
    obtain ⟨q,u⟩:=p;obtain ⟨h3,h4,h5⟩:=si K (v:=v) (i:=0) A;have hq:(((⟨bG K.enc m 0⟩:Array MapEntry)[0+q]?).map (·.key)).getD (K.enc c)=K.enc c:=by
     rw [Sd];show (((bG K.enc m 0).toArray[q]?).map (·.key)).getD (K.enc c)=K.enc c;rw [R4,h5];rfl
    simp only [Su,Result.andThen_ok,Sem.run_bind];rw [hq,run_keyThatStays (d:=kd) (K.isKey c)];simp only [Result.andThen_ok];rw [Go.MapKept.run_setObj_map (P:=cx.P) _ f];congr 2;simp only [aR,h4,<- h3,Sd];congr 2;apply Sz;simp
  have aa:(execOp a.eval o).run cx.P w=.ok .skip { w with heap:=w.heap.setIfInBounds b (aR K.enc (fU m c v)) }:=by
   have g:execOp a.eval o=(do Instr.mapUpdate t (a.eval x) (a.eval y) (a.eval z);Pure.pure .skip:Sem Next):=by unfold execOp;rw [I]
   rw [g,hs _ _ J,hs _ _ M,hs _ _ N];simp only [Sem.run_bind,Y,Result.andThen_ok,Sem.run_pure]
  unfold Oper.wp;rw [aa];have B:=heap_set (o':=aR K.enc (fU m c v)) f;refine ⟨C,.obj b (aR K.enc (fU m c v))::L.eraseIdx j, ?_,Mem.le.refl _,fun h2=>by omega,St.put s B.1 B.2 am Z Z Z (QO _),Z,Z⟩;rw [H];rfl)
  (fun C' L' _ ⟨g,e2⟩=>by subst g;subst e2;exact h)
end
theorem Fa (a b:List UInt8):((⟨a.toArray⟩:ByteArray) == ⟨b.toArray⟩)=decide (a=b):=by
 by_cases h:a=b
 ·subst h;simp [(bytes_beq _ _).2 rfl]
 have:¬ ((⟨a.toArray⟩:ByteArray) == ⟨b.toArray⟩)=true:=fun e=>h (by
  have:=(bytes_beq _ _).1 e;have h2:=congrArg (fun x:ByteArray=>x.data.toList) this;simpa using h2)
 simp [h,Bool.eq_false_iff.2 this]
def keyS:KeyT .string (List UInt8) where
 enc s:=.string ⟨s.toArray⟩
 isKey _:=trivial
 same a b:=by simp only [Instr.sameNow,Fa]
end Go.Jog
namespace Go.Jog
open Go
variable {C C0:Mem}{L L0:List Ent}{b:Nat}{ob:Obj}{w w0:World}
def Mem.unset (C:Mem)(b:Nat):Mem:=fun k=>if k=b then none else C k
theorem Mem.unset_le (C:Mem)(b:Nat):(C.unset b).le C:=fun k o h=>by
 unfold Mem.unset at h;split at h
 ·cases h
 exact h
theorem Mem.le_unset {D:Mem}(h:C.le D)(c:C b=none):C.le (D.unset b):=fun k o a=>by
 unfold Mem.unset;split
 ·rename_i e;subst e;rw [c] at a;cases a
 exact h k o a
theorem St.aside (h:St w0 C0 L0 C (.obj b ob::L) w):St w (C.set b ob) L (C.set b ob) L w :=
 (St.freeze h).2 |> fun s=>St.start s.sep
theorem St.back {f:Mem}{g:List Ent}{i:World}(h:St w0 C0 L0 C (.obj b ob::L) w)(k:St w (C.set b ob) L f g i):St w0 C0 L0 (f.unset b) (.obj b ob::g) i:=by
 have j:C b=none:=h.sep.n b ⟨_,Qb ..,rfl⟩;have l:C.le f:=(Mem.le_set j).trans k.c0;have k2:St w C L (f.unset b) g i:=⟨⟨fun q o a=>k.sep.c q o (Mem.unset_le _ _ q o a),k.sep.e,k.sep.d,fun q a=>by
   have:=k.sep.n q a;unfold Mem.unset;split
   ·rfl
   ·exact this⟩,k.ev,Mem.le_unset l j,fun q o a=>by
   have m:q≠b:=fun e=>by subst e;simp [Mem.unset] at a
   rcases k.cn q o (Mem.unset_le _ _ q o a) with h1 | h1
   ·unfold Mem.set at h1;rw [az m] at h1;exact .inl h1
   exact .inr h1,k.ln⟩
 have h2:St w0 C0 L0 C (L++[.obj b ob]) w:=St.perm h (Rv (l₁:=[Ent.obj b ob]) (l₂:=L));exact St.perm (St.call h2 k2) (Rv (l₁:=g) (l₂:=[Ent.obj b ob]))
end Go.Jog
namespace Go.Jog
structure Arc3 where
 i:Nat
 lo:Nat
 up:Nat
 deriving DecidableEq,Inhabited
def Ln:Nat->List Arc3->Nat->Prop
 | u,[],v=>u=v
 | u,a::p,v=>a.lo=u/\Ln a.up p v
def In (A p:List Arc3):Prop:=∀ a∈p,a∈A
def QJ (A:List Arc3)(k u v:Nat):Prop:=∃ p,In A p/\p.length=k/\Ln u p v
end Go.Jog
namespace Go.Jog
def dAt (d:List Int)(u:Nat):Int:=d.getD u (-1)
/-! ### Relaxing -/
def fin (d:List Int):Nat:=d.countP (fun x=>decide (0<=x))
structure PR (A:List Arc3)(to n:Nat)(d:List Int):Prop where
 len:d.length=n
 neg:∀ u,u<n->-1<=dAt d u
 small:∀ u,u<n->dAt d u<fin d
 walk:∀ u,u<n->0<=dAt d u->QJ A (dAt d u).toNat u to
 zero:dAt d to=0
/-! ### The first smallest cycle -/
def nums (p:List Arc3):List Nat:=p.map (·.i)
def P1 (x y:List Nat):Prop:=∃ c b b' s s',x=c++b::s/\y=c++b'::s'/\b<b'
def above (A:List Arc3)(i:Nat):List Arc3:=A.filter fun a=>decide (i<a.i)
structure Greedy (A:List Arc3)(from_ to m:Nat)(p:List Arc3)(at_:Nat):Prop where
 inA:In A p
 chain:Ln from_ p at_
 ahead:∀ r,In A r->Ln from_ r to->r.length=m->(∃ s,r=p++s)∨P1 (nums p) (nums r)
end Go.Jog
namespace Go.Jog
def Ord (A:List Arc3)(o:List Nat):Prop:=∀ pre u post,o=pre++u::post->∀ a∈A,a.up=u->a.lo∈pre
def Topo (A:List Arc3)(n:Nat)(o:List Nat):Prop:=o.length=n/\o.Nodup/\(∀ u∈o,u<n)/\Ord A o
/-! ### Taking the GX free place, again and again -/
def cnt (A:List Arc3)(dn:List Nat)(u:Nat):Nat:=A.countP fun a=>decide (a.up=u) && !(dn.contains a.lo)
structure Kahn (A:List Arc3)(n:Nat)(dn av:List Nat):Prop where
 nodup:dn.Nodup
 below:∀ u∈dn,u<n
 ord:Ord A dn
 avnd:av.Nodup
 av:∀ u,u∈av ↔ u<n/\u ∉ dn/\cnt A dn u=0
 GX:∀ o,Topo A n o->(∃ s,o=dn++s)∨P1 dn o
end Go.Jog
namespace Go.Jog
def addW (o:Nat)(self:Bool)(x:Nat):Nat:=max (if self=true then max x 1 else x) (if 0<o then min 8 (o+1) else 0)
def rowT (f:Nat->Nat->Nat)(c v:Nat):List Arc3->Nat->Nat
 | [],x=>x
 | a::l,x=>rowT f c v l (if a.up=v then addW (f c a.lo) (decide (c=a.lo)) x else x)
def tab (A:List Arc3):Nat->Nat->Nat->Nat
 | 0,_,_=>0
 | k+1,c,v=>rowT (tab A k) c v A (tab A k c v)
end Go.Jog
namespace Go.Jog
open Go
def Lc (a b:Nat):Nat:=a &&& (18446744073709551616-(b+1))
section
variable {cx:Cx} {n:Nat} {ds:List (Option Nat)} {R:Rg n ds} {its:List It} {fr:Fr} {C:Mem} {L:List Ent} {i k d:Nat} {o:Oper} {g:GL}
theorem lJ {a:Nat}(b:a<18446744073709551616):(BitVec.ofInt 64 (a:Int)).toNat=a:=by
 rw [BitVec.ofInt_natCast,BitVec.toNat_ofNat];exact Ti om_
theorem VJ (a:Nat)(b:Nat){t c:Nat}{x y:Operand}{p q:Int}(f:Z8 (Nat.ble k 1) true o.dst (some d) o.op (.binOp .and t x y c) (gOf ds fr o.guard) (some g) (ev fr g x) (some (.int .u64 p)) (ev fr g y) (some (.int .u64 q)) p a q b)(j:a<18446744073709551616)(l:b<18446744073709551616)(m:Z2 (aQ n ds ((d,g,.int .u64 ((a &&& b:Nat):Int))::fr) d) true (wfG ds fr g) true)(h:D cx R its ((d,g,.int .u64 ((a &&& b:Nat):Int))::fr) C L):D cx R ((i,k,o)::its) fr C L :=
 have ⟨r,s,u,v,z,hy,B,E⟩:=f;have ⟨F,G⟩:=m;D.run _ r s v (fun _ A hs w=>by
  subst B E;rw [bR u (hs _ _ z) (hs _ _ hy) (fun _ _=>.inl am) (.inl am) w];have e:IntKind.u64.wrap ((BitVec.ofInt 64 (a:Int) &&& BitVec.ofInt 64 (b:Int)).toNat:Int)=((a &&& b:Nat):Int):=bits_and_u64_nat a b j l;simp [binOp,Op.intBits,IntKind.bits];exact e) F G h
theorem qO (a b:Nat)(c:a<18446744073709551616)(d:b<18446744073709551616):IntKind.u64.wrap ((BitVec.ofInt 64 (a:Int) &&& ~~~ BitVec.ofInt 64 (b:Int)).toNat:Int)=((Lc a b:Nat):Int):=by
 have f:Lc a b<2 ^ 64:=Nat.and_lt_two_pow _ om_;rw [BitVec.toNat_and,BitVec.toNat_not,lJ c,lJ d,IntKind.wrap_u64];have e:2 ^ 64-1-b=18446744073709551616-(b+1):=by omega
 rw [e];show ((Lc a b:Nat):Int) % _=_;omega
theorem WE (a b:Nat){t c:Nat}{x y:Operand}{p q:Int}(f:Nat.ble k 1=true)(j:o.dst=some d)(l:o.op=.binOp .andNot t x y c)(m:gOf ds fr o.guard=some g)(r:ev fr g x=some (.int .u64 p))(s:ev fr g y=some (.int .u64 q))
  (u:p=a) (v:q=b) (z:a<18446744073709551616) (B:b<18446744073709551616) (E:aQ n ds ((d,g,.int .u64 ((Lc a b:Nat):Int))::fr) d=true) (F:wfG ds fr g=true)
  (h:D cx R its ((d,g,.int .u64 ((Lc a b:Nat):Int))::fr) C L):D cx R ((i,k,o)::its) fr C L :=
 D.run _ f j m (fun _ A hs w=>by
  subst u v;rw [bR l (hs _ _ r) (hs _ _ s) (fun _ _=>.inl am) (.inl am) w];have e:=qO a b z B;simp [binOp,Op.intBits,IntKind.bits];exact e) E F h
theorem V4 (m:Nat){a c:IntKind}{t f:Nat}{x y:Operand}{q:Int}(j:Nat.ble k 1=true)(l:o.dst=some d)(p:o.op=.binOp .shl t x y f)(r:gOf ds fr o.guard=some g)(s:ev fr g x=some (.int a 1))(u:ev fr g y=some (.int c q))
  (b:a=.u64∨a=.i64) (v:q=m) (z:m<=62) (B:aQ n ds ((d,g,.int a ((2 ^ m:Nat):Int))::fr) d=true) (E:wfG ds fr g=true)
  (h:D cx R its ((d,g,.int a ((2 ^ m:Nat):Int))::fr) C L):D cx R ((i,k,o)::its) fr C L :=
 D.run _ j l r (fun _ A hs w=>by
  subst v;rw [bR p (hs _ _ s) (hs _ _ u) (fun _ _=>.inl am) (.inl am) w];have h0:¬ ((m:Int)<0):=by omega
  have F:a.bits=64:=by rcases b with rfl | rfl <;> rfl
  have G:Min.min m 64=m:=by omega
  have H:2 ^ m<=2 ^ 62:=Rn dc_ z;have e:a.wrap (1*2 ^ m)=((2 ^ m:Nat):Int):=by
   have I:(1:Int)*2 ^ m=((2 ^ m:Nat):Int):=by rw [Int.one_mul];norm_cast
   rw [I];have J:2 ^ m<=4611686018427387904:=H;generalize 2 ^ m=P at J;rcases b with rfl | rfl
   ·rw [IntKind.wrap_u64];omega
   exact wrap_i64 om_ om_
  simp only [binOp,Op.shift,h0,R7,Sx,F,G,Sem.run_pure,Result.andThen_ok];rw [e]) B E h
end
end Go.Jog
namespace Go.Jog
open Go
section
variable {cx:Cx} {n:Nat} {ds:List (Option Nat)} {R:Rg n ds} {its:List It} {fr:Fr} {C:Mem} {L:List Ent} {i k d:Nat} {o:Oper} {g:GL}
theorem Ib (a b:Nat)(c:a<9223372036854775808):a &&& b<9223372036854775808:=RJ Nat.and_le_left c
theorem Wm (a b:Nat){t c:Nat}{x y:Operand}{p q:Int}(f:Nat.ble k 1=true)(j:o.dst=some d)(l:o.op=.binOp .and t x y c)(m:gOf ds fr o.guard=some g)(r:ev fr g x=some (.int .i64 p))(s:ev fr g y=some (.int .i64 q))
  (u:p=a) (v:q=b) (z:a<9223372036854775808) (F:b<9223372036854775808) (B:aQ n ds ((d,g,.int .i64 ((a &&& b:Nat):Int))::fr) d=true) (E:wfG ds fr g=true)
  (h:D cx R its ((d,g,.int .i64 ((a &&& b:Nat):Int))::fr) C L):D cx R ((i,k,o)::its) fr C L :=
 D.run _ f j m (fun _ A hs w=>by
  subst u v;rw [bR l (hs _ _ r) (hs _ _ s) (fun _ _=>.inl am) (.inl am) w];have e:IntKind.i64.wrap ((BitVec.ofInt 64 (a:Int) &&& BitVec.ofInt 64 (b:Int)).toNat:Int)=((a &&& b:Nat):Int):=by
   rw [BitVec.toNat_and,lJ om_,lJ om_];have:=Ib a b z;exact wrap_i64 om_ om_
  simp [binOp,Op.intBits,IntKind.bits];exact e) B E h
theorem WS (a m:Nat){b:IntKind}{t c:Nat}{x y:Operand}{p q:Int}(f:Nat.ble k 1=true)(j:o.dst=some d)(l:o.op=.binOp .shr t x y c)(r:gOf ds fr o.guard=some g)(s:ev fr g x=some (.int .i64 p))(u:ev fr g y=some (.int b q))
  (v:p=a) (z:q=m) (H:m<=62) (B:aQ n ds ((d,g,.int .i64 ((a / 2 ^ m:Nat):Int))::fr) d=true) (E:wfG ds fr g=true)
  (h:D cx R its ((d,g,.int .i64 ((a / 2 ^ m:Nat):Int))::fr) C L):D cx R ((i,k,o)::its) fr C L :=
 D.run _ f j r (fun _ A hs w=>by
  subst v z;rw [bR l (hs _ _ s) (hs _ _ u) (fun _ _=>.inl am) (.inl am) w];have h0:¬ ((m:Int)<0):=by omega
  have F:Min.min m 64=m:=by omega
  have e:(a:Int).fdiv (2 ^ m)=((a / 2 ^ m:Nat):Int):=by
   have G:(2:Int) ^ m=((2 ^ m:Nat):Int):=by norm_cast
   rw [G,Int.fdiv_eq_ediv_of_nonneg _ (Tw _)];exact (TM _ _).symm
  simp only [binOp,Op.shift,h0,R7,Sx,IntKind.bits,F,Sem.run_pure,Result.andThen_ok];rw [e]) B E h
end
end Go.Jog
namespace Go.Jog
variable {a b:List Nat}{i:Nat}{l:List Nat}{x:Nat}
abbrev BP:Nat:=10000
def bM:List Nat->Nat
 | []=>0
 | x::l=>x+BP*bM l
def DigP (l:List Nat):Prop:=∀ x∈l,x<BP
def CO (l:List Nat):Prop:=DigP l/\l.getLast?≠some 0
theorem gS:∀ (a b:List Nat),bM (a++b)=bM a+BP ^ a.length*bM b
 | [],b=>by simp [bM]
 | x::a,b=>by
  simp only [SD,bM,gS a b,Q8,R8];rw [Sb,<- Te,RF (BP ^ a.length) BP,TP]
theorem oG (a:List Nat)(x:Nat):bM (a++[x])=bM a+BP ^ a.length*x:=by
 rw [gS];simp [bM]
theorem mI:∀ {l:List Nat},DigP l->bM l<BP ^ l.length
 | [],_=>by simp [bM]
 | x::l,h=>by
  have h1:=h x am;have h2:=mI (l:=l) (fun y hy=>h y (by simp [hy]));simp only [bM,Q8,R8];have h3:BP*(bM l+1)<=BP*BP ^ l.length:=Sk _ h2;rw [RF (BP ^ l.length) BP];rw [Sb] at h3;omega
theorem iO (h:l[i]?=some x):bM (l.take (i+1))=bM (l.take i)+BP ^ i*x:=by
 have a:=(aD.1 h).1;rw [Rm,h];simp only [R6];rw [oG,Q5,Sa om_]
theorem DigP.take {l:List Nat}(h:DigP l)(i:Nat):DigP (l.take i):=fun x a=>h x (RZ a)
theorem DigP.snoc (h:DigP l)(a:x<BP):DigP (l++[x]):=fun y hy=>by
 rcases Q6.1 hy with hy | hy
 ·exact h y hy
 rw [Rc.1 hy];exact a
def D8 (l:List Nat):Nat->Nat
 | 0=>0
 | k+1=>if l[k]?=some 0 then D8 l k else k+1
def xp (l:List Nat):List Nat:=l.take (D8 l l.length)
theorem qE (l:List Nat):∀ k,k<=l.length->(l.take (D8 l k)).getLast?≠some 0/\bM (l.take (D8 l k))=bM (l.take k)
 | 0,_=>by simp [D8]
 | k+1,b=>by
  rw [D8];obtain ⟨x,a⟩:∃ x,l[k]?=some x:=⟨l[k],aj om_⟩;split
  ·rename_i h;obtain ⟨h1,h2⟩:=qE l k om_;refine ⟨h1, ?_⟩;rw [h2,iO h];simp
  rename_i h;refine ⟨?_,Z⟩;rw [Rm,a];simp only [R6,List.getLast?_append,List.getLast?_singleton];intro e;rw [a] at h;simp at e;exact h (by rw [e])
theorem iu (l:List Nat):bM (xp l)=bM l:=by
 have:=(qE l l.length (QO _)).2;rw [Q2] at this;exact this
theorem mj (h:DigP l):CO (xp l):=⟨h.take _,(qE l l.length (QO _)).1⟩
theorem vc (h:CO l)(b:0<l.length):BP ^ (l.length-1)<=bM l:=by
 obtain ⟨x,a⟩:∃ x,l[l.length-1]?=some x:=⟨l[l.length-1]'om_,aj om_⟩;have h1:=iO a;rw [show l.length-1+1=l.length by omega,Q2] at h1;have c:x≠0:=fun e=>h.2 (by rw [S8,a,e]);rw [h1];have:BP ^ (l.length-1)*1<=BP ^ (l.length-1)*x:=Sk _ om_;omega
theorem Cl (h:CO l):bM l=0 ↔ l=[]:=by
 constructor
 ·intro e;apply Rq;intro a;have:=vc h (RD.2 a);rw [e] at this;have b:0<BP ^ (l.length-1):=Tm dc_;omega
 rintro rfl;rfl
theorem GQ (c:DigP a)(d:CO b)(h:a.length<b.length):bM a<bM b:=by
 have h1:=mI c;have h2:=vc d om_;have h3:BP ^ a.length<=BP ^ (b.length-1):=Rn dc_ om_;omega
theorem Ml {y:Nat}(e:DigP a)(l:a.length=b.length)(c:a[i]?=some x)(d:b[i]?=some y)(f:x<y)(g:a.drop (i+1)=b.drop (i+1)):bM a<bM b:=by
 have h:bM a=bM (a.take (i+1))+BP ^ (i+1)*bM (a.drop (i+1)):=by
  have j:=(aD.1 c).1
  conv=>lhs;rw [<- RW (i+1) a]
  rw [gS,Q5,Sa om_]
 have k:bM b=bM (b.take (i+1))+BP ^ (i+1)*bM (b.drop (i+1)):=by
  have j:=(aD.1 d).1
  conv=>lhs;rw [<- RW (i+1) b]
  rw [gS,Q5,Sa om_]
 rw [h,k,g,iO c,iO d];have h1:=mI (e.take i);have h2:(a.take i).length<=i:=by rw [Q5];omega
 have h3:BP ^ (a.take i).length<=BP ^ i:=Rn dc_ h2;have h4:BP ^ i*(x+1)<=BP ^ i*y:=Sk _ f;rw [Sb] at h4;omega
/-! ### Decimal texts -/
def eR (c:UInt8):Bool:=decide (48<=c.toNat/\c.toNat<=57)
def Ca (a:Nat)(c:UInt8):Nat:=10*a+(c.toNat-48)
def bX (s:List UInt8):Nat:=s.foldl Ca 0
def vB (s:List UInt8):Prop:=(∀ c∈s,eR c=true)/\s≠[]/\(s.head?=some 48->s.length=1)
theorem jR:∀ (s:List UInt8)(a:Nat),s.foldl Ca a=a*10 ^ s.length+bX s
 | [],a=>by simp [bX]
 | c::s,a=>by
  have h1:=jR s (Ca a c);have h2:=jR s (Ca 0 c);simp only [bX,Sn] at h1 h2 ⊢;rw [h1,h2];simp only [Ca,Q8,R8,SJ];simp only [Nat.mul_zero,Nat.zero_mul,Sd];rw [RF 10 a,Te,RF 10,TP]
theorem dF (c:UInt8)(s:List UInt8):bX (c::s)=(c.toNat-48)*10 ^ s.length+bX s:=by
 show s.foldl Ca (Ca 0 c)=_;rw [jR];simp [Ca]
theorem dh (a b:List UInt8):bX (a++b)=bX a*10 ^ b.length+bX b:=by
 show (a++b).foldl Ca 0=_;rw [List.foldl_append,jR];rfl
theorem dW:∀ {s:List UInt8},(∀ c∈s,eR c=true)->bX s<10 ^ s.length
 | [],_=>by simp [bX]
 | c::s,h=>by
  have h1:=dW (s:=s) (fun d a=>h d (by simp [a]));have h2:=h c am;simp only [eR,QZ] at h2;rw [dF,Q8,R8];have h3:(c.toNat-48)*10 ^ s.length<=9*10 ^ s.length:=RQ _ om_;omega
theorem ot {s:List UInt8}(h:vB s)(a:1<s.length):10 ^ (s.length-1)<=bX s:=by
 obtain ⟨h1,h2,h3⟩:=h
 match s,h2 with
 | c::s,_ =>
  have h4:=h1 c am;simp only [eR,QZ] at h4;have h5:c≠48:=fun e=>by
   have:=h3 (by simp [e]);omega
  have b:c.toNat≠48:=fun e=>h5 (Ue.1 (by rw [e];rfl));rw [dF];simp only [Q8,SQ];have:1*10 ^ s.length<=(c.toNat-48)*10 ^ s.length:=RQ _ om_;omega
theorem yZ:∀ {a b:List UInt8},(∀ c∈a,eR c=true)->(∀ c∈b,eR c=true)->a.length=b.length->bX a=bX b->a=b
 | [],[],_,_,_,_=>rfl
 | [],_::_,_,_,h,_=>by simp at h
 | _::_,[],_,_,h,_=>by simp at h
 | c::a,d::b,f,g,k,i=>by
  have j:a.length=b.length:=by simpa using k
  have h1:=dW (s:=a) (fun x e=>f x (by simp [e]));have h2:=dW (s:=b) (fun x e=>g x (by simp [e]));have l:=f c am;have m:=g d am;simp only [eR,QZ] at l m;rw [dF,dF,j] at i;rw [j] at h1;have n:c.toNat-48=d.toNat-48:=by
   have o:(bX a+10 ^ b.length*(c.toNat-48)) / 10 ^ b.length=c.toNat-48:=by
    rw [TN _ _ (Tm dc_),Tj h1,Sd]
   have p:(bX b+10 ^ b.length*(d.toNat-48)) / 10 ^ b.length=d.toNat-48:=by
    rw [TN _ _ (Tm dc_),Tj h2,Sd]
   rw [<- o,<- p,RF,Tn,i,RF (10 ^ b.length),Tn (bX b)]
  rw [n] at i;have q:c=d:=Ue.1 om_;rw [q,yZ (fun x e=>f x (by simp [e])) (fun x e=>g x (by simp [e])) j om_]
theorem qL {a b:List UInt8}(c:vB a)(d:vB b)(h:bX a=bX b):a=b:=by
 refine yZ c.1 d.1 ?_ h;have e:=RD.2 c.2.1;have f:=RD.2 d.2.1;rcases Nat.lt_trichotomy a.length b.length with h1 | h1 | h1
 ·have h2:=ot d om_;have h3:=dW c.1;have h4:10 ^ a.length<=10 ^ (b.length-1):=Rn dc_ om_;omega
 ·exact h1
 have h2:=ot c om_;have h3:=dW d.1;have h4:10 ^ b.length<=10 ^ (a.length-1):=Rn dc_ om_;omega
end Go.Jog
namespace Go.Jog
variable {e lo:Nat}{s:List UInt8}
theorem uA {a b:List UInt8}(h:a≠[]):(a++b).head?=a.head?:=by
 cases a with
 | nil=>exact absurd rfl h
 | cons=>rfl
def gP (l:List Nat)(i:Nat):Nat:=l.getD i 0
theorem Hf {l:List Nat}(h:DigP l)(i:Nat):gP l i<BP:=by
 unfold gP;rw [au];cases a:l[i]? with
 | none=>decide
 | some x=>exact h x (QQ a)
theorem LM (j:Nat):10 ^ (4*j)=BP ^ j:=by rw [Nat.pow_mul]
def gK (s:List UInt8)(lo hi:Nat):List UInt8:=(s.take hi).drop lo
theorem E2 {a:List Nat}{j:Nat}(d:e+4*j=s.length)(b:a.length=j)(f:lo<=e)(h:bM a=bX (s.drop e)) :
  bM (a++[bX (gK s lo e)])=bX (s.drop lo):=by
 rw [oG,b,h];have c:s.drop lo=gK s lo e++s.drop e:=by
  unfold gK;have:s.drop lo=(s.take e++s.drop e).drop lo:=by rw [RW]
  rw [this,List.drop_append_of_le_length (by rw [Q5];omega)]
 rw [c,dh,Sv,show s.length-e=4*j by omega,LM,RF,Tn]
theorem HI (a:∀ c∈s,eR c=true)(h:e<=lo+4):bX (gK s lo e)<BP:=by
 have h1:∀ c∈gK s lo e,eR c=true:=fun c b=>a c (RZ (TL b));have h2:=dW h1;have h3:(gK s lo e).length<=4:=by
  unfold gK;rw [Sv,Q5];omega
 have h4:10 ^ (gK s lo e).length<=10 ^ 4:=Rn dc_ h3;have h5:(10:Nat) ^ 4=BP:=rfl;omega
def mG:Nat->Nat->List UInt8
 | 0,_=>[]
 | k+1,n=>mG k (n / 10)++[UInt8.ofNat (48+n % 10)]
theorem uK {d:Nat}(h:d<10):(UInt8.ofNat (48+d)).toNat=48+d:=by rw [UInt8.toNat_ofNat'];omega
theorem kK:∀ (k n:Nat),n<10 ^ k->(mG k n).length=k/\(∀ c∈mG k n,eR c=true)/\bX (mG k n)=n
 | 0,n,h=>by
  have:n=0:=by simpa using h
  subst this;exact ⟨Z,by simp [mG],Z⟩
 | k+1,n,h=>by
  obtain ⟨h1,h2,h3⟩:=kK k (n / 10) (by rw [R8] at h;exact (SX dc_).2 h);have b:=uK (Ry n (show 0<10 by decide));refine ⟨by simp [mG,h1],fun c a=>?_, ?_⟩
  ·simp only [mG,Q6,Rc] at a;rcases a with a | rfl
   ·exact h2 c a
   have:=Ry n (show 0<10 by decide);simp only [eR,b,QZ];omega
  simp only [mG];rw [dh,h3,dF,b];simp [bX];omega
def bq (n:Nat):List UInt8:=if n<10 then [UInt8.ofNat (48+n)] else bq (n / 10)++[UInt8.ofNat (48+n % 10)]
 termination_by n
 decreasing_by omega
theorem bC (n:Nat):vB (bq n)/\bX (bq n)=n:=by
 induction n using Nat.strongRecOn with
 | ind n f =>
  rw [bq];split
  ·rename_i h;have b:=uK h;refine ⟨⟨fun c a=>?_,by simp,fun _=>rfl⟩, ?_⟩
   ·rw [Rc.1 a];simp only [eR,b,QZ];omega
   rw [dF,b];simp [bX]
  rename_i h;obtain ⟨⟨h1,h2,h3⟩,h4⟩:=f (n / 10) om_;have b:=uK (Ry n (show 0<10 by decide));refine ⟨⟨fun c a=>?_,by simp,fun e=>?_⟩, ?_⟩
  ·rcases Q6.1 a with a | a
   ·exact h1 c a
   rw [Rc.1 a];have:=Ry n (show 0<10 by decide);simp only [eR,b,QZ];omega
  ·exfalso;rw [uA h2] at e;have h5:=h3 e
   match hs:bq (n / 10),h2 with
   | [c],_ =>
    rw [hs] at e h4;simp at e;subst e;have:n / 10=0:=by rw [<- h4];rfl
    omega
   | c::d::s,_=>rw [hs] at h5;simp at h5
  rw [dh,h4,dF,b];simp [bX];omega
theorem ou (h:vB s):s=bq (bX s):=qL h (bC _).1 (bC _).2.symm
theorem Hc {p:List Nat}{i x:Nat}(j:DigP p)(f:p[i]?=some x)(h:vB s)(k:bX s=bM (p.drop (i+1)))(l:0<bX s) :
  vB (s++mG 4 x)/\bX (s++mG 4 x)=bM (p.drop i)/\0<bX (s++mG 4 x):=by
 have m:=j x (QQ f);obtain ⟨h1,h2,h3⟩:=kK 4 x m;have g:=aD.1 f;have e:bM (p.drop i)=x+BP*bM (p.drop (i+1)):=by rw [Rh g.1,g.2];rfl
 have n:bX (s++mG 4 x)=bM (p.drop i):=by
  rw [dh,h1,h3,k,e,Tn,RF]
 refine ⟨⟨fun c a=>?_, ?_,fun b=>?_⟩,n, ?_⟩
 ·rcases Q6.1 a with a | a
  ·exact h.1 c a
  exact h2 c a
 ·intro e;exact h.2.1 (T4.1 e).1
 ·exfalso;rw [uA h.2.1] at b;have h5:=h.2.2 b
  match hs:s,h.2.1 with
  | [c],_ =>
   simp at b;subst b;have:bX ([48]:List UInt8)=0:=rfl;omega
  | c::d::s,_=>simp at h5
 rw [dh];have:0<bX s*10 ^ (mG 4 x).length:=Tt l (Tm dc_);omega
end Go.Jog
namespace Go.Jog
def iP:List Int->Int
 | []=>0
 | x::l=>x+10000*iP l
theorem Aa:∀ l:List Nat,iP (l.map fun (x:Nat)=>(x:Int))=(bM l:Nat)
 | []=>rfl
 | x::l=>by
  simp only [Rs,iP,bM,Aa l];show (x:Int)+10000*(bM l:Nat)=((x+10000*bM l:Nat):Int);omega
theorem oH:∀ (a b:List Int),iP (a++b)=iP a+(10000:Int) ^ a.length*iP b
 | [],b=>by simp [iP]
 | x::a,b=>by
  simp only [SD,iP,oH a b,Q8,Int.pow_succ];rw [T5,<- Int.mul_assoc,Int.mul_comm ((10000:Int) ^ a.length) 10000,Int.add_assoc]
theorem vG (a:List Int)(x:Int):iP (a++[x])=iP a+(10000:Int) ^ a.length*x:=by
 rw [oH];simp [iP]
theorem ES {l:List Int}{i:Nat}{x:Int}(h:l[i]?=some x):iP (l.take (i+1))=iP (l.take i)+(10000:Int) ^ i*x:=by
 have a:=(aD.1 h).1;rw [Rm,h];simp only [R6];rw [vG,Q5,Sa om_]
theorem zo (o:Int):0<=o % 10000/\o % 10000<10000/\o=o % 10000+10000*((o-o % 10000) / 10000):=by
 refine ⟨Uf _ dc_,Int.emod_lt_of_pos _ dc_, ?_⟩;omega
theorem Jp (o:Int):(if Int.tmod o 10000<0 then Int.tmod o 10000+10000 else Int.tmod o 10000)=o % 10000:=by
 have h1:=Uf o (show (10000:Int)≠0 by decide);have h2:=Int.emod_lt_of_pos o (show (0:Int)<10000 by decide);rcases Int.le_total 0 o with h | h
 ·rw [Int.tmod_eq_emod_of_nonneg h,az om_]
 rw [Int.tmod_eq_emod];split <;> rename_i a <;> omega
end Go.Jog
namespace Go.Jog
theorem Ht {t Q x:Nat}(a:0<Q):(x+BP*t) / Q=BP*(t / Q)+(x+BP*(t % Q)) / Q/\(x+BP*t) % Q=(x+BP*(t % Q)) % Q:=by
 have h1:=TT t Q;have e:x+BP*t=Q*(BP*(t / Q))+(x+BP*(t % Q)):=by
  conv=>lhs;rw [<- h1,Sb]
  rw [Uq];omega
 rw [e,Nat.mul_add_div a,Nat.mul_add_mod];exact ⟨Z,Z⟩
theorem xk {t Q x:Nat}(a:0<Q)(b:x<BP):(x+BP*(t % Q)) / Q<BP:=by
 rw [SX a];have h1:=Ry t a;have h2:BP*(t % Q+1)<=BP*Q:=Sk _ h1;rw [Sb] at h2;omega
theorem NM {r Q a b:Nat}(c:0<Q)(d:a<=r / Q)(e:r / Q<=b)(_f:a<b) :
  (r<Q*((a+b+1) / 2)->a<=r / Q/\r / Q<=(a+b+1) / 2-1)/\(¬ r<Q*((a+b+1) / 2)->(a+b+1) / 2<=r / Q/\r / Q<=b):=by
 constructor
 ·intro hr;have:=(SX c).2 (by rw [RF];exact hr);omega
 intro hr;have:=(Nat.le_div_iff_mul_le c).2 (by rw [RF];exact Nat.le_of_not_lt hr);omega
theorem PH (a b:Nat)(_c:0<b):Nat.gcd a b=Nat.gcd b (a % b):=by
 rw [Ta a b,Um b a,Ta]
end Go.Jog
namespace Go.Jog
open Go
section
variable {cx:Cx} {n:Nat} {ds:List (Option Nat)} {R:Rg n ds} {its:List It} {fr:Fr} {C:Mem} {L:List Ent} {i k d:Nat} {o:Oper} {g:GL}
theorem VN (a:Nat)(m:Nat){b:IntKind}{t c:Nat}{x y:Operand}{p q:Int}(f:Z8 (Nat.ble k 1) true o.dst (some d) o.op (.binOp .shr t x y c) (gOf ds fr o.guard) (some g) (ev fr g x) (some (.int .u64 p)) (ev fr g y) (some (.int b q)) p a q m)(I:m<=63)(j:Z2 (aQ n ds ((d,g,.int .u64 ((a / 2 ^ m:Nat):Int))::fr) d) true (wfG ds fr g) true)(h:D cx R its ((d,g,.int .u64 ((a / 2 ^ m:Nat):Int))::fr) C L):D cx R ((i,k,o)::its) fr C L :=
 have ⟨l,r,s,u,v,hy,z,B⟩:=f;have ⟨E,F⟩:=j;D.run _ l r u (fun _ A hs w=>by
  subst z B;rw [bR s (hs _ _ v) (hs _ _ hy) (fun _ _=>.inl am) (.inl am) w];have h0:¬ ((m:Int)<0):=by omega
  have G:Min.min m 64=m:=by omega
  have e:(a:Int).fdiv (2 ^ m)=((a / 2 ^ m:Nat):Int):=by
   have H:(2:Int) ^ m=((2 ^ m:Nat):Int):=by norm_cast
   rw [H,Int.fdiv_eq_ediv_of_nonneg _ (Tw _)];exact (TM _ _).symm
  simp only [binOp,Op.shift,h0,R7,Sx,IntKind.bits,G,Sem.run_pure,Result.andThen_ok];rw [e]) E F h
end
end Go.Jog
