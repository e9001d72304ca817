/- Laws that the proofs of this seat share, part 2. -/
import Derived.Test.YtfjcldheldflbaaGreatDoorG1
import Derived.OpenShut
import Derived.ChangeSame
import Derived.ChangeVars
import Derived.Deep.Slices
import Derived.Deep.DeepHandedRow
import Derived.LaidLaws
import Derived.WalkKit
import Derived.ProofKit
import Derived.Shelf.Vars
import Derived.ChangeKeysEq
import Derived.MapKept
import Derived.Laws.Bits64b
namespace Go.Jog
open Go
section
variable {cx:Cx} {n:Nat} {ds:List (Option Nat)} {R:Rg n ds} {its:List It} {fr:Fr} {C:Mem} {L:List Ent} {i k d:Nat} {o:Oper} {g:GL} {v:Value}
theorem Sl.flat {C:Mem}{s:Nat}{A:Option Addr}{d c:Nat}{b:List (List Value)}(k:Sl C s (.slice A d c) b)(l:0<s)(m:b≠[]) :
  d=b.length/\∃ a,A=some a/\a.spot=none/\∀ (q:Nat)(u:Value),b.flatten[q]?=some u->CCell C (a.add q) u:=by
 obtain⟨y,z,h1,h2,h3,h4,h5⟩:=k;cases h1
 refine⟨U, ?_⟩;cases b with
|nil=>exact absurd rfl m
|cons r rs =>
  obtain⟨n,o,p,_⟩:=h5 0 r ak;subst o;refine⟨n,U,p,fun q u e=>?_⟩;have t:q<(r::rs).length*s:=by rw[<- aK h4];exact(aJ.1 e).1
  have f:q / s<(r::rs).length:=Uc (by rw[R8];exact t);have g:(r::rs)[q / s]?=some (r::rs)[q / s]:=ai f;have v:q % s<((r::rs)[q / s]).length:=by rw[h4 _ (Sj f)];exact R9 _ l
  have h:=ai v;have i:=getElem?_flatten_rows h4 g h;have j:q / s*s+q % s=q:=by rw[R8];exact T4 q s
  rw[j,e]at i;obtain⟨B,w,D,x⟩:=h5 _ _ g;cases w
  have:=x _ _ h;rw[j]at this;rw[Sx i];exact this
theorem rM {P:Program}{a:Act}{o:Oper}{t:Nat}{x y:Operand}(c:o.op=.call ⟨.builtin .append,#[x,y],#[t,t]⟩){r:Value}{w b:World}(h:(Builtin.append_ #[t,t] o.type #[a.eval x,a.eval y]).run P w=.ok r b) :
  (execOp a.eval o).run P w=.ok (.value r) b:=by
 have d:execOp a.eval o=(do let dd <- resolve a.eval ⟨.builtin .append,#[x,y],#[t,t]⟩ o.type;invoke dd.target dd.args:Sem Next):=by unfold execOp;rw[c]
 rw[d];simp only[resolve,invoke,builtin,Sem.run_bind,Sem.run_pure,Result.andThen_ok,Ts,R6,Tm,h]
theorem W5 {t e n0 l:Nat}{x y:Operand}{Q m:TI}{p:Value}{A:Option Addr}{g f:List (List Value)}(hk:k=3)(hd:o.dst=some d)(hg:gOn ds fr o.guard=true)
  (aa:o.op=.call ⟨.builtin .append,#[x,y],#[t,t]⟩) (ht:cx.T.get t=some Q) (ab:Q.k=.slice e) (he:cx.T.get e=some m) (ac:Nat.beq m.size 0=false)
  (hx:ev fr [] x=some (.slice A n0 l)) (hy:ev fr [] y=some p) (V:Sl C m.size (.slice A n0 l) g) (ae:Sl C m.size p f) (ar:f=[]∨l<g.length+f.length)
  (W:g.length+f.length<=maxLen) (af:(g.length+f.length)*m.bytes<=140737488355328) (hp:∀ v,aX n ds ((d,[],v)::fr) d=true)
  (h:∀ E z,C.le z->Sl z m.size E (g++f)->D cx R its ((d,[],E)::fr) z L):D cx R ((i,k,o)::its) fr C L:=by
 have H:cx.P.underlying t=some (.slice e):=by
  obtain⟨kk,s1,b1,z1,g1⟩:=Q;simp only at ab;subst ab;exact bX cx.hT ht
 obtain⟨inf,I,J,ag,hz,aM⟩:=(dS cx.hT he).info;have ah:0<m.size:=Tr (fun e=>by rw[e]at ac;cases ac);have au:=V;obtain⟨A1,c1,av,ai,aN,aj,aw⟩:=au;cases av
 have ax:=ae;obtain⟨B,c,X,aO,aP,al,aQ⟩:=ax;have am:Nat.ble k 1=false:=by subst hk;rfl
 by_cases K:f=[]
 ·subst K;refine VP (S:=fun E z L'=>E=.slice A g.length l/\z=C/\L'=L) am hd hg hp (fun a G w _ M=>?_) (fun E z L' Y ⟨Z,e2,e3⟩=>?_)
  ·have hr:(Builtin.append_ #[t,t] o.type #[a.eval x,a.eval y]).run cx.P w=.ok (.slice A g.length l) w:=by
    rw[G _ _ hx,G _ _ hy,X];have an:(Builtin.firstCells m.size 0 (.slice B 0 c)).run cx.P w=.ok #[] w:=by
     cases B <;> simp[Builtin.firstCells,loadCells,loadCellsFrom]
    simp only[R5];cases A with
   |none=>simp[Builtin.append_,run_underlying H,sizeOf,typeInfo,I,J,Builtin.lenOf,an,ai]
   |some a0=>simp[Builtin.append_,run_underlying H,sizeOf,typeInfo,I,J,Builtin.lenOf,an,ai,storeCells]
   unfold Oper.wp;rw[rM aa hr];exact⟨_,C,L,U,Mem.le.refl _,fun h2=>by omega,M,U,U,U⟩
  subst Z;subst e2;subst e3;exact h _ z Y (by simpa using V)
 have ay:l<g.length+f.length:=ar.resolve_left K;obtain⟨-,b0,hB, -,az⟩:=Sl.flat (X ▸ ae) ah K;subst hB;have aR:0<f.length:=Sc.2 K;have aA:=aK al;have aB:=aK aj;refine WN (S:=fun E b ob=>∃ (cc:Nat)(rest:Array Value),E=s_ b (g.length+f.length) cc/\ob=.cells (g.flatten.toArray++f.flatten.toArray++rest) e (0,0)/\g.length+f.length<=cc/\cc<=maxLen) am hd hg hp
  (fun a G w _ L1 w1 M=>?_) (fun E b ob z Y N ⟨cc,rest,Z,e2,e3,e4⟩=>?_)
 ·have ao:∀ (j:Nat)(u:Value),f.flatten[j]?=some u->w.cell? (b0.add j)=some u:=fun j u F=>(az j u F).cell M.sep;have ap:f.flatten.length=f.length*inf.size:=by rw[aA,J]
  have aC:g.flatten.length=g.length*inf.size:=by rw[aB,J]
  refine⟨.slice (some ⟨w.heap.size,0,none⟩) (g.length+f.length) (grownCap w (g.length+f.length) l e),_,w.drew.alloc (.cells (g.flatten.toArray++f.flatten.toArray++Builtin.zeroCells m.zv.cells (grownCap w (g.length+f.length) l e-(g.length+f.length))) e), ?_, ?_,grownCap w (g.length+f.length) l e,Builtin.zeroCells m.zv.cells (grownCap w (g.length+f.length) l e-(g.length+f.length)),U,U,grownCap_ge w _ _ e,grownCap_le_maxLen w _ _ e W⟩
  ·refine rM aa ?_;rw[G _ _ hx,G _ _ hy,X];cases O:A with
  |none =>
    subst O;have aD:g=[]:=by
     cases g with
    |nil=>rfl
    |cons r rs=>obtain⟨ad,O,_⟩:=aw 0 r ak;cases O
    subst aD;have aE:l<f.length:=by simpa using ay
    have hf:=run_firstCells_some (P:=cx.P) w.drew inf.size f.length b0 f.length c f.flatten ap (by simpa using ao);have hn:f.length≠0:=by omega
    have aF:¬ (9223372036854775807<(f.length:Int)):=by simp only[maxLen,R5]at W;omega
    have aG:¬ (281474976710656<Builtin.nextslicecap f.length l*inf.bytes):=by
     have N:=af;simp only[R5,SP,<- ag]at N;have:=growslice_fits (need:=f.length) (bytes:=inf.bytes) (old:=l) aE N;omega
    have aH:¬ (f.length<=l):=by omega
    simp[Builtin.append_,run_underlying H,sizeOf,typeInfo,zeroValue,I,hz,Builtin.lenOf,aH,aF,aG,Question.forced,run_firstCells_none,hf,newRow,grownCap]
  |some a0 =>
    subst O;have hold:∀ (j:Nat)(u:Value),g.flatten[j]?=some u->w.cell? (a0.add j)=some u:=fun j u F=>by
     cases hr:g with
    |nil=>subst hr;simp at F
    |cons r rs =>
      obtain⟨-,a1,aI, -,aL⟩:=Sl.flat V ah (by rw[hr];simp);cases aI
      exact(aL j u F).cell M.sep
    exact run_append_grow (P:=cx.P) w t o.type e inf m.zv H I hz a0 g.length l g.flatten aC hold b0 f.length c f.flatten ap ao om_ (by simp only[maxLen]at W;omega) (by rw[ag];exact growslice_fits om_ af)
  exact⟨U,U,U,by simp,fun q hq=>heap_alloc_old w.drew _ hq,heap_alloc_new w.drew _,TL _⟩
 subst Z;subst e2;have:=Sl.ofBlock (rows:=g++f) (s:=m.size) (c:=cc) N (fun r hr=>(RF.1 hr).elim (aj r) (al r)) (fun j u F=>by
  have aq:=(aJ.1 F).1;rw[R4]at F aq;have e5:(g.flatten.toArray++f.flatten.toArray:Array Value)=(g.flatten++f.flatten).toArray:=by simp
  rw[e5];rw[Array.getElem?_append_left (by simpa using aq)];simpa using F) (by simpa using e3) e4
 simp only[Ru]at this;exact h _ z Y this
/-! ### Rows of the function's own that are made -/
theorem St.objArr {o:World}{p:Mem}{q:List Ent}{C:Mem}{L:List Ent}{w:World}{b e s m g:Nat}{i j:List Value}(h:St o p q C (.obj b (.cells ⟨i⟩ e (0,0))::L) w)(r:i.take (m*s)=j)(v:i.length=g*s)(t:m<=g)(z:g<=maxLen) :
  St o p q C (.arr (s_ b m g) e s m j::L) w:=by
 have A:w.heap[b]?=some (.cells ⟨i⟩ e (0,0)):=h.sep.e _ (Rq ..);have u:=Sy.1 h.sep.d;have l:∀ k,(Ent.arr (s_ b m g) e s m j).own k->k=b:=fun k f=>by simp only[Ent.own,Value.ownBlock,Sb]at f;exact f.symm
 have B:m*s<=g*s:=Sa _ t;refine⟨⟨h.sep.c,fun x a=>?_,Sy.2 ⟨fun y hy k f=>u.1 y hy k (l k f),u.2⟩,fun k ⟨x,a,f⟩=>?_⟩,h.ev,h.c0,h.cn,fun k ⟨x,a,f⟩=>?_⟩
 ·rcases RC.1 a with rfl|a
  ·exact⟨by rw[<- r,RE];omega,.inr ⟨b,g,⟨i⟩,U,Rv _,A,t,z,by simpa using v,by simpa using r⟩⟩
  exact h.sep.e x (by simp[a])
 ·rcases RC.1 a with rfl|a
  ·exact h.sep.n k ⟨_,Rq ..,l k f⟩
  exact h.sep.n k ⟨x,by simp[a],f⟩
 rcases RC.1 a with rfl|a
 ·exact h.ln k ⟨_,Rq ..,l k f⟩
 exact h.ln k ⟨x,by simp[a],f⟩
theorem WM {e s m c:Nat}{cs f:List Value}(p:Nat.ble k 1=false)(q:o.dst=some d)(r:gOn ds fr o.guard=true)(t:∀ v,aX n ds ((d,[],v)::fr) d=true)
  (u:∀ a,LG (ev fr []) a->∀ w,(execOp a.eval o).run cx.P w=.ok (.value (.slice (some ⟨w.heap.size,0,none⟩) m c)) (w.alloc (.cells ⟨cs⟩ e))) (g:cs.take (m*s)=f) (y:cs.length=c*s) (z:m<=c) (A:c<=maxLen)
  (h:∀ b,D cx R its ((d,[],s_ b m c)::fr) C (.arr (s_ b m c) e s m f::L)):D cx R ((i,k,o)::its) fr C L :=
 VP (S:=fun v j l=>j=C/\∃ b,v=s_ b m c/\l=.arr (s_ b m c) e s m f::L) p q r t (fun a hs w _ B=>by
  unfold Oper.wp;rw[u a hs w];exact⟨_,C,.arr (.slice (some ⟨w.heap.size,0,none⟩) m c) e s m f::L,U,Mem.le.refl _,fun _ x g=>by simp[g],St.objArr (St.alloc B _) g y z A,U,_,U,U⟩)
  (fun v j l _ ⟨E,b,F,G⟩=>by subst E;subst F;subst G;exact h b)
theorem Wa {t e g:Nat}{j:Array (Nat × Operand)}{m f:TI}(c:List (List Value))(y:Z12 (Nat.ble k 1) false o.dst (some d) (gOn ds fr o.guard) true o.op (.buildSlice t g j) (cx.T.get t) (some m) m.k (.slice e) (cx.T.get e) (some f) (rowsO (ev fr []) j.toList 0) (some c) (c.all fun r=>Nat.beq r.length f.size) true (Nat.beq j.toList.length g) true (Nat.ble (g*f.size) 16777216) true (Nat.beq f.size 0) false)(z:∀ v,aX n ds ((d,[],v)::fr) d=true)(h:∀ b,D cx R its ((d,[],s_ b c.length c.length)::fr) C (.arr (s_ b c.length c.length) e f.size c.length c.flatten::L)):D cx R ((i,k,o)::its) fr C L:=by
 have ⟨A,B,E,F,G,H,I,p,J,K,q,s⟩:=y;have l:∀ r∈c,r.length=f.size:=fun r hr=>R2 (RI.1 J r hr);have u:=R2 K;rw[Tj]at q;have M:=(ec p l).2;have N:=aK l;have h0:0<f.size:=Tr (fun e=>by rw[e]at s;cases s);refine WM (cs:=c.flatten) A B E z (fun a hs w=>?_) (RN om_) N (Ro _) ?_ h
 ·have O:execOp a.eval o=(do Pure.pure (.value (<- Instr.buildSlice t g (j.map fun(i,x)=>(i,a.eval x)))):Sem Next):=by unfold execOp;rw[F]
  rw[O];have P:(j.map fun(i,x)=>(i,a.eval x))=(j.toList.map fun(i,x)=>(i,a.eval x)).toArray:=by apply Te;simp
  rw[P];simp only[Sem.run_bind,gv cx.hT G H I (fun x v Q=>hs x v Q) p l u q w,Result.andThen_ok,Sem.run_pure]
 rw[M,u];have:g<=g*f.size:=TW _ h0;simp only[maxLen];omega
def kQ (z:List Value):Nat->List Value
|0=>[]
|m+1=>z++kQ z m
theorem cV (z:List Value):∀ m,(kQ z m).length=m*z.length
|0=>by simp[kQ]
|m+1=>by simp[kQ,cV z m,S2];omega
theorem fe (z:List Value):∀ m,kQ z m=(List.replicate m z).flatten
|0=>rfl
|m+1=>by simp[kQ,fe z m,SB]
theorem Bt (z:List Value):∀ (m q:Nat),q<m*z.length->(kQ z m)[q]?=z[q % z.length]?
|0,q,h=>by simp at h
|m+1,q,h=>by
  simp only[kQ];by_cases a:q<z.length
  ·rw[Se a,Um a]
  rw[RV om_,Bt z m _ (by rw[S2]at h;omega)];congr 1;rw[Nat.mod_eq_sub_mod (by omega:z.length<=q)]
theorem Hj (z:List Value)(m:Nat):madeCells ⟨z⟩ (m*z.length)=⟨kQ z m⟩:=by
 apply Te;apply List.ext_getElem?;intro q;simp only[madeCells,Array.toList_map,Array.toList_range,Rr,Tw];by_cases a:q<m*z.length
 ·rw[Bt z m q a,RY a];have c:0<z.length:=by
   rcases Sz z.length with h|h
   ·rw[h]at a;simp at a
   exact h
  have b:q % z.length<z.length:=R9 _ c;simp only[S5];rw[ai b];simp[b]
 rw[Rx ap,Rx (by rw[cV];omega)];rfl
theorem V5 {t e:Nat}{x y:Operand}{p r:IntKind}{l c:Nat}{g f:TI}(B:Z9 (Nat.ble k 1) false o.dst (some d) (gOn ds fr o.guard) true o.op (.makeSlice t x y) (cx.T.get t) (some g) g.k (.slice e) (cx.T.get e) (some f) (ev fr [] x) (some (.int p l)) (ev fr [] y) (some (.int r c)))(E:l<=c)(Y:f.bytes*c<=281474976710656)(s:c<=maxLen)(F:∀ v,aX n ds ((d,[],v)::fr) d=true)(h:∀ b,D cx R its ((d,[],s_ b l c)::fr) C (.arr (s_ b l c) e f.size l (kQ (f.zero.map Zv.val) l)::L)):D cx R ((i,k,o)::its) fr C L:=by
 have ⟨G,H,I,J,K,u,z,M,hy⟩:=B;have N:cx.P.underlying t=some (.slice e):=by
  obtain⟨Z,s1,b1,z1,g1⟩:=g;simp only at u;subst u;exact bX cx.hT K
 obtain⟨inf,O,Q,S,U,A⟩:=(dS cx.hT z).info;have j:(f.zero.map Zv.val).length=f.size:=by
  have:=(dS cx.hT z).zsize;rw[A]at this;simpa using this
 have V:∀ m q,kQ (f.zero.map Zv.val) (m+q)=kQ (f.zero.map Zv.val) m++kQ (f.zero.map Zv.val) q:=by
  intro m q;induction m with
 |zero=>simp[kQ]
 |succ m W=>rw[show m+1+q=(m+q)+1 by omega];simp[kQ,W]
 refine WM (cs:=kQ (f.zero.map Zv.val) c) G H I F (fun a hs w=>?_) ?_ (by rw[cV,j]) E s h
 ·have X:execOp a.eval o=(do Pure.pure (.value (<- Instr.makeSlice t (a.eval x) (a.eval y))):Sem Next):=by unfold execOp;rw[J]
  rw[X,hs _ _ M,hs _ _ hy];have hr:=run_make (P:=cx.P) w t e inf f.zv N O U p r (l:Int) (c:Int) om_ om_ (by rw[S,<- RW];omega) (by simp only[maxLen]at s;omega);simp only[Tk]at hr;rw[Q,<- j,A,Hj]at hr;simp only[Sem.run_bind,hr,Result.andThen_ok,Sem.run_pure]
 obtain⟨q,rfl⟩:∃ q,c=l+q:=⟨c-l,by omega⟩;rw[V];exact List.take_left' (by rw[cV,j])
/-! ### Arrays behind pointers -/
theorem sI {P:Program}{t e b c:Nat}(d:P.underlying t=some (.array b e)){f:IntKind}{m:Int}(g:0<=m)(h:m<b)(a:Addr){w:World}(i:(sizeOf e).run P w=.ok c w) :
  (Instr.indexAt t (.pointer (some a)) (.int f m)).run P w=.ok (.pointer (some (a.add (m.toNat*c)))) w:=by
 simp[Instr.indexAt,asIntOf,run_underlying d,Instr.sureAddr,i,g,h]
theorem Vw (c:Nat){t e f b l:Nat}{x y:Operand}{r:IntKind}{m:Int}{j p:TI}(s:Z9 (Nat.ble k 1) true o.dst (some d) o.op (.indexAddr t x y) (gOf ds fr o.guard) (some g) (ev fr g x) (some (.pointer (some ⟨b,l,none⟩))) (ev fr g y) (some (.int r m)) (cx.T.get t) (some j) j.k (.arr f e) (cx.T.get e) (some p))(u:GT ds fr g->0<=m/\m<f/\c=l+m.toNat*p.size)(v:Z2 (aX n ds ((d,g,.pointer (some ⟨b,c,none⟩))::fr) d) true (wfG ds fr g) true)(h:D cx R its ((d,g,.pointer (some ⟨b,c,none⟩))::fr) C L):D cx R ((i,k,o)::its) fr C L:=by
 have ⟨z,A,B,E,F,hy,G,q,H⟩:=s;have ⟨I,J⟩:=v;have K:cx.P.underlying t=some (.array f e):=by
  obtain⟨S,U,V,W,X⟩:=j;simp only at q;subst q;exact pE cx.hT G
 refine D.run _ z A E (fun M a hs w=>?_) I J h;obtain⟨N,O,rfl⟩:=u M;have Q:execOp a.eval o=(do Pure.pure (.value (<- Instr.indexAt t (a.eval x) (a.eval y))):Sem Next):=by unfold execOp;rw[B]
 rw[Q,hs _ _ F,hs _ _ hy];simp only[Sem.run_bind,sI K N O _ (ep cx.hT H w),Result.andThen_ok,Sem.run_pure,Addr.add_lit]
theorem WF {t e f:Nat}{x y:Operand}{H:IntKind}{m:Int}{p:Value}{q:List Value}{j b:TI}(I:Z9 (Nat.ble k 1) true o.dst (some d) o.op (.indexAddr t x y) (gOf ds fr o.guard) (some g) (ev fr g x) (some p) (ev fr g y) (some (.int H m)) (cx.T.get t) (some j) j.k (.arr f e) (cx.T.get e) (some b))(J:GT ds fr g->PtrTo C p q)(r:GT ds fr g->0<=m/\m<f)(s:∀ v,aX n ds ((d,g,v)::fr) d=true)(u:wfG ds fr g=true)(h:∀ z,(GT ds fr g->PtrTo C z ((q.drop (m.toNat*b.size)).take b.size))->D cx R its ((d,g,z)::fr) C L):D cx R ((i,k,o)::its) fr C L:=by
 have ⟨A,B,K,E,M,hy,N,F,O⟩:=I;have Q:cx.P.underlying t=some (.array f e):=by
  obtain⟨Y,Z,b1,z1,g1⟩:=j;simp only at F;subst F;exact pE cx.hT N
 by_cases c:GT ds fr g
 ·obtain⟨S,V,W⟩:=(J c).part (m.toNat*b.size) b.size;refine VQ A B E (s (.pointer (some (S.add (m.toNat*b.size))))) u (fun _ a G aa ab w hw=>?_) (h _ (fun _=>W));have X:execOp a.eval o=(do Pure.pure (.value (<- Instr.indexAt t (a.eval x) (a.eval y))):Sem Next):=by unfold execOp;rw[K]
  unfold Oper.quietAt;rw[X,G _ _ M,G _ _ hy,V];simp only[Sem.run_bind,sI Q (r c).1 (r c).2 _ (ep cx.hT O w),Result.andThen_ok,Sem.run_pure];exact⟨U,U⟩
 exact VQ A B E (s undef) u (fun l=>absurd l c) (h _ (fun l=>absurd l c))
/-! ### Bytes to a string -/
theorem EK (s:List UInt8):∀ a:ByteArray,(s.map fun b=>(b.toNat:Int)).foldl (fun r n=>r.push (UInt8.ofNat n.toNat)) a=a++⟨s.toArray⟩:=by
 induction s with
|nil =>
  intro a;apply ByteArray.ext;simp[]
|cons b s c =>
  intro a;simp only[R6,T3];rw[c];have e:UInt8.ofNat ((b.toNat:Int)).toNat=b:=by simp
  rw[e];apply ByteArray.ext;simp[ByteArray.data_push]
theorem Wt {g l e:Nat}{x:Operand}{p:Value}{s:List UInt8}{m q r:TI}(B:Sl C 1 p (s.map fun b=>[.int .u8 b.toNat]))(W:Z11 k 2 o.dst (some d) o.op (.convert g l x) (gOn ds fr o.guard) true (ev fr [] x) (some p) (cx.T.get g) (some m) m.k (.slice e) (cx.T.get l) (some q) q.k .str (cx.T.get e) (some r) r.k (.int .u8))(X:∀ v,aX n ds ((d,[],v)::fr) d=true)(h:D cx R its ((d,[],.string ⟨s.toArray⟩)::fr) C L):D cx R ((i,k,o)::its) fr C L :=
 have ⟨Y,Z,aa,hg,hx,ab,E,ac,F,ad,G⟩:=W;VP (S:=fun v H I=>v=.string ⟨s.toArray⟩/\H=C/\I=L) (by subst Y;rfl) Z hg X (fun a ae w _ J=>by
  have af:cx.P.underlying g=some (.slice e):=by
   obtain⟨K,M,N,O,Q⟩:=m;simp only at E;subst E;exact bX cx.hT ab
  have ag:cx.P.underlying l=some .string:=by
   obtain⟨K,M,N,O,Q⟩:=q;simp only at F;subst F;exact pC cx.hT ac
  have ah:cx.P.underlying e=some (.int .u8):=by
   obtain⟨K,M,N,O,Q⟩:=r;simp only at G;subst G;exact pD cx.hT ad
  have ai:=B;obtain⟨A,c,rfl,ak,al,am,an⟩:=ai;have aj:(execOp a.eval o).run cx.P w=.ok (.value (.string ⟨s.toArray⟩)) w:=by
   have t:execOp a.eval o=(do Pure.pure (.value (<- convert g l (a.eval x))):Sem Next):=by unfold execOp;rw[aa]
   rw[t,ae _ _ hx];simp only[Sem.run_bind,run_convert_bytes_string w g l e _ _ _ af ah ag];cases u:s with
  |nil =>
    subst u;cases A with
   |none=>simp[Conv.bytesToString];rfl
   |some f =>
     have y:(loadCells f 0).run cx.P w=.ok (([]:List Int).map (Value.int .u8)).toArray w:=by simp[loadCells,loadCellsFrom]
     have z:=run_bytesToString (P:=cx.P) w f 0 c [] y;simp only[Tm,R5,z,Result.andThen_ok];rfl
  |cons b bs =>
    obtain⟨ao,f,rfl, -,V⟩:=Sl.flat B om_ (by rw[u];simp);rw[gw]at V;have y:(loadCells f (s.map fun b=>[Value.int .u8 b.toNat]).length).run cx.P w=.ok ((s.map fun b=>(b.toNat:Int)).map (Value.int .u8)).toArray w:=by
     have:=kK (P:=cx.P) (w:=w) (a:=f) (cs:=s.map fun b=>Value.int .u8 b.toNat) (fun j v hj=>(V j v hj).cell J.sep);simpa [Function.comp_def] using this
    have z:=run_bytesToString (P:=cx.P) w f _ c _ y;rw[<- u];simp only[z,Result.andThen_ok,EK,Sem.run_pure];congr 3
  unfold Oper.wp;rw[aj];exact⟨_,C,L,U,Mem.le.refl _,fun _ _ h=>h,J,U,U,U⟩)
  (fun v H I _ ⟨t,e2,e3⟩=>by subst t;subst e2;subst e3;exact h)
end
/-! ### Results that lie in a cell -/
section
variable {F:Fx} {k:List KI} {fr:Fr} {C:Mem} {L:List Ent}
theorem fC {w:World}{b t:Nat}{a:List Value}{e:TypeId}{f:Nat × Nat}{c:TI}{v:Value}(g:F.cx.T.get t=some c)(h:w.heap[b]?=some (.cells ⟨a⟩ e f))(i:cI c (a.take c.size)=some v):(loadVar t ⟨b,0,none⟩).run F.cx.P w=.ok v w:=by
 refine eU F.cx.hT g (cs:=a.take c.size) (fun j u d=>?_) i;rw[Addr.add_lit,cell_of_row w b (0+j) _ e f h];rw[Sg]at d;split at d
 ·simpa using d
 cases d
theorem VU {r b t:Nat}{f:List Value}{k:TypeId}{l:Nat × Nat}{c:TI}{v:Value}(m:Ent.obj b (.cells ⟨f⟩ k l)∈L)(n:Z4 F.fn.results (#[.cell r t]) (ev fr [] (.tmp r)) (some (p_ b)) (F.cx.T.get t) (some c) (cI c (f.take c.size)) (some v))(h:F.post v C [])(g:F.ends:=by exact⟨fun _ _ _ h=>h,rfl⟩):G F [] .ret fr C L:=have ⟨o,hr,q,s⟩:=n;fun _ a w i j=>by
 refine g.kq ?_;have d:=bN i (fun p u=>by cases u) hr;simp only[Act.eval]at d;refine bodyPost_ret (v:=v) ?_ (i.defers.trans g.2) ⟨v,C,[],U,St.dropAll j,h⟩;have x:=fC (F:=F) q (j.sep.e _ m) s;simp only[Sr]at d;simp[results,o,d,asAddr,x]
theorem Wj {r s b t:Nat}{j:List Value}{m:TypeId}{n:Nat × Nat}{c:TI}{u v:Value}(o:Ent.obj b (.cells ⟨j⟩ m n)∈L)(q:Z5 F.fn.results (#[.cell r t,.tmp s]) (ev fr [] (.tmp r)) (some (p_ b)) (ev fr [] (.tmp s)) (some u) (F.cx.T.get t) (some c) (cI c (j.take c.size)) (some v))(h:F.post (.tuple #[v,u]) C [])(k:F.ends:=by exact⟨fun _ _ _ h=>h,rfl⟩):G F [] .ret fr C L:=have ⟨x,hr,hs,y,z⟩:=q;fun _ a w d l=>by
 refine k.kq ?_;have f:=bN d (fun p g=>by cases g) hr;have i:=bN d (fun p g=>by cases g) hs;simp only[Act.eval]at f i;refine bodyPost_ret (v:=.tuple #[v,u]) ?_ (d.defers.trans k.2) ⟨_,C,[],U,St.dropAll l,h⟩;have A:=fC (F:=F) y (l.sep.e _ o) z;simp only[Sr]at f i;simp[results,x,f,i,asAddr,A]
end
end Go.Jog
namespace Go.Jog
open Go
theorem eE {a:Type}(f:a->Value):∀ l:List a,(l.map fun x=>[f x]).flatten=l.map f
|[]=>rfl
|x::l=>by simp[eE f l]
def ae (s:List UInt8):Value:=.string ⟨s.toArray⟩
def cM (c:UInt8):List UInt8->List (List UInt8)
|[]=>[[]]
|b::s=>if b=c then []::cM c s else match cM c s with
 |[]=>[[b]]
 |p::ps=>(b::p)::ps
theorem DY (c:UInt8):∀ s,cM c s≠[]
|[]=>by simp[cM]
|b::s=>by
  simp only[cM];split
  ·simp
  split <;> simp
theorem od (c:UInt8):∀ s,c ∉ s->cM c s=[s]
|[],_=>rfl
|b::s,h=>by
  have h1:b≠c:=fun e=>h (by simp[e]);have h2:=od c s (fun e=>h (by simp[e]));simp[cM,h1,h2]
theorem pM (c:UInt8):∀ (a post:List UInt8),c ∉ a->cM c (a++c::post)=a::cM c post
|[],post,_=>by simp[cM]
|b::a,post,h=>by
  have h1:b≠c:=fun e=>h (by simp[e]);have h2:=pM c a post (fun e=>h (by simp[e]));simp[cM,h1,h2]
theorem kJ (c:UInt8):∀ s:List UInt8,(cM c s).length=s.count c+1
|[]=>by simp[cM]
|b::s=>by
  have d:=kJ c s;simp only[cM];by_cases a:b=c
  ·subst a;simp[d]
  rw[aF a];have e:¬ (b == c)=true:=by simpa using a
  rw[List.count_cons_of_ne a];cases h:cM c s with
 |nil=>exact absurd h (DY c s)
 |cons p ps=>rw[h]at d;simpa using d
end Go.Jog
namespace Go.Jog
open Go
section
variable {α:Type} {enc:α->List Value} {s:Nat}
theorem bV (a:∀ x,(enc x).length=s)(l:List α):(l.map enc).flatten.length=l.length*s:=by
 have:=aK (s:=s) (rows:=l.map enc) (fun r hr=>by obtain⟨x,_,rfl⟩:=Rs.1 hr;exact a x);simpa using this
theorem cH (a:∀ x,(enc x).length=s):∀ (l:List α)(i:Nat),(l.map enc).flatten.take (i*s)=((l.take i).map enc).flatten/\(l.map enc).flatten.drop (i*s)=((l.drop i).map enc).flatten
|[],i=>by simp
|x::l,0=>by simp
|x::l,i+1=>by
  obtain⟨h1,h2⟩:=cH a l i;have e:(i+1)*s=s+i*s:=by rw[S2];omega
  have b:=a x;constructor
  ·rw[e,R6,SH,List.take_append,b,RN om_,show s+i*s-s=i*s by omega,h1];simp
  rw[e,R6,SH,TY,b,S3 om_,show s+i*s-s=i*s by omega,h2];simp
theorem eh (a:∀ x,(enc x).length=s){l:List α}{i:Nat}{x:α}(h:l[i]?=some x):((l.map enc).flatten.drop (i*s)).take s=enc x:=by
 rw[(cH a l i).2];obtain⟨h1,h2⟩:=aJ.1 h;rw[RP h1,h2,R6,SH];rw[List.take_append,a,RN (by rw[a];omega)];simp
theorem bM (a:∀ x,(enc x).length=s){l:List α}{i:Nat}(x:α)(h:i<l.length):aE (l.map enc).flatten (enc x) (i*s)=((l.set i x).map enc).flatten:=by
 unfold aE;rw[a,(cH a l i).1,show i*s+s=(i+1)*s by rw[S2];omega,(cH a l (i+1)).2];rw[List.set_eq_take_append_cons_drop,aM h];simp
end
/- An element's address in a slice that begins at a known place. -/
/- A whole array, or a part of it, as a slice. -/
section
variable {cx:Cx} {n:Nat} {ds:List (Option Nat)} {R:Rg n ds} {its:List It} {fr:Fr} {C:Mem} {L:List Ent} {i k d:Nat} {o:Oper} {g:GL} {v:Value}
theorem Wr (l:Nat)(h:Nat)(m:Nat){t e c f:Nat}{a:Addr}{x:Operand}{j p q:Option Operand}{s u y:Option Value}{r z:TI}(B:Z12 (Nat.ble k 1) true o.dst (some d) o.op (.slice t x j p q) (gOf ds fr o.guard) (some g) (ev fr g x) (some (.pointer (some a))) (GU (ev fr g) j) (some s) (GU (ev fr g) p) (some u) (GU (ev fr g) q) (some y) (cx.T.get t) (some r) r.k (.arr c e) (cx.T.get e) (some z) z.size f)(E:GT ds fr g->SlB c c s u y l h m)(F:Z2 (aX n ds ((d,g,.slice (some (if m=l then a else a.add (l*f))) (h-l) (m-l))::fr) d) true (wfG ds fr g) true)(G:D cx R its ((d,g,.slice (some (if m=l then a else a.add (l*f))) (h-l) (m-l))::fr) C L):D cx R ((i,k,o)::its) fr C L:=by
 have ⟨H,I,J,K,b,M,N,O,Q,A,S,U⟩:=B;have ⟨V,W⟩:=F;have X:cx.P.underlying t=some (.array c e):=by
  obtain⟨kk,s1,b1,z1,g1⟩:=r;simp only at A;subst A;exact pE cx.hT Q
 refine D.run _ H I K (fun Y a hs w=>?_) V W G;have Z:execOp a.eval o=(do Pure.pure (.value (<- Instr.sliceAt t (a.eval x) (j.map a.eval) (p.map a.eval) (q.map a.eval))):Sem Next):=by unfold execOp;rw[J]
 rw[Z,hs _ _ b,fg (fun x v b=>hs x v b) M,fg (fun x v b=>hs x v b) N,fg (fun x v b=>hs x v b) O];have h2:=ep cx.hT S w;rw[U]at h2;simp[Instr.sliceAt,Instr.sureAddr,run_underlying X,fK (E Y),h2]
end
section
variable {cx:Cx} {n:Nat} {ds:List (Option Nat)} {R:Rg n ds} {its:List It} {fr:Fr} {C:Mem} {L:List Ent} {i k d:Nat} {o:Oper} {g:GL} {v:Value}
theorem VZ {t e l:Nat}{m:Array (Nat × Operand)}{s g:TI}(c:List (List Value))(B:Z12 (Nat.ble k 1) false o.dst (some d) (gOn ds fr o.guard) true o.op (.buildSlice t l m) (cx.T.get t) (some s) s.k (.slice e) (cx.T.get e) (some g) (rowsO (ev fr []) m.toList 0) (some c) (c.all fun r=>Nat.beq r.length g.size) true (Nat.beq m.toList.length l) true (Nat.ble (l*g.size) 16777216) true (Nat.beq g.size 0) false)(E:∀ v,aX n ds ((d,[],v)::fr) d=true)(h:∀ b p,C.le p->Sl p g.size (s_ b c.length c.length) c->D cx R its ((d,[],s_ b c.length c.length)::fr) p L):D cx R ((i,k,o)::its) fr C L:=by
 have ⟨F,G,H,I,J,K,M,u,N,O,y,z⟩:=B;have q:∀ r∈c,r.length=g.size:=fun r hr=>R2 (RI.1 N r hr);have A:=R2 O;rw[Tj]at y;have P:=(ec u q).2;refine WU (f:=fun b=>s_ b c.length c.length) (ob:=.cells ⟨c.flatten⟩ e) F G H E (fun a hs w=>?_) (fun b p Q S=>?_)
 ·have U:execOp a.eval o=(do Pure.pure (.value (<- Instr.buildSlice t l (m.map fun(i,x)=>(i,a.eval x)))):Sem Next):=by unfold execOp;rw[I]
  rw[U];have V:(m.map fun(i,x)=>(i,a.eval x))=(m.toList.map fun(i,x)=>(i,a.eval x)).toArray:=by apply Te;simp
  rw[V];simp only[Sem.run_bind,gv cx.hT J K M (fun x v W=>hs x v W) u q A y w,Result.andThen_ok,Sem.run_pure]
 refine h b p Q (Sl.ofBlock S q (fun j v X=>by simpa using X) (Ro _) ?_);rw[P,A];have h0:0<g.size:=Tr (fun e=>by rw[e]at z;cases z);have:l<=l*g.size:=TW _ h0;simp only[maxLen];omega
theorem V8 {e f:Nat}{x:Operand}{m b:IntKind}{p c:Int}{q j:TI}(r:Z8 (Nat.ble k 1) true o.dst (some d) o.op (.convert e f x) (gOf ds fr o.guard) (some g) (ev fr g x) (some (.int m p)) (cx.T.get e) (some q) (cx.T.get f) (some j) j.k (.int b))(s:b.wrap p=c)(t:Z2 (aX n ds ((d,g,.int b c)::fr) d) true (wfG ds fr g) true)(h:D cx R its ((d,g,.int b c)::fr) C L):D cx R ((i,k,o)::its) fr C L :=
 have ⟨u,v,y,z,A,B,E,l⟩:=r;have ⟨F,G⟩:=t;D.run _ u v z (fun _ a hs w=>by
  have H:execOp a.eval o=(do Pure.pure (.value (<- convert e f (a.eval x))):Sem Next):=by unfold execOp;rw[y]
  rw[H,hs _ _ A];obtain⟨du,h1,h2⟩:=(dS cx.hT B).und;obtain⟨I,J,K,M,N⟩:=j;simp only at l;subst l;subst s;simp[convert,run_underlying h1,run_underlying (pD cx.hT E),Conv.intToInt]) F G h
end
theorem Vr {F:Fx}{k:List KI}{a:Fr}{C:Mem}{L L':List Ent}{e:Exit}(b:L=L')(h:G F k e a C L'):G F k e a C L:=b ▸ h
/-! ### Equal neighbours -/
end Go.Jog
namespace Go.Jog
open Go Go.RowKit Go.WideShapes Go.ChangeShapes Go.Deep
variable {W:World}{v:Value}
def rW (W:World):Mem:=fun k=>W.heap[k]?
theorem Gb (W:World):Sep (rW W) [] W:=⟨fun _ _ h=>h,fun x a=>(by cases a),List.Pairwise.nil,fun k ⟨x,a,_⟩=>(by cases a)⟩
theorem Dp {a:Addr}(h:W.cell? a=some v):CCell (rW W) a v:=by
 unfold World.cell? at h;split at h
 ·rename_i c t fz b;split at h
  ·cases h
  rename_i hs;exact⟨by simpa using hs,c,t,fz,b,h⟩
 cases h
theorem Aj {P:Program}{f:FuncId}{a:List Value}(h:Gives P f a (rW W) v):Calls P f a.toArray W fun e b=>e=.returned v/\RowKit.Below W.heap.size W b :=
 (h.2 W (Gb W)).mono fun e b ⟨u,j,l,c,d,g,m⟩=>⟨by rw[c,g],d.ev.below (fun k ⟨x,i,_⟩=>by cases i)⟩
theorem Hp {α:Type}{p:Nat->α->Prop}:∀ {n:Nat},(∀ i,i<n->∃ x,p i x)->∃ l:List α,l.length=n/\∀ i x,l[i]?=some x->p i x
|0,_=>⟨[],rfl,fun i x h=>by simp at h⟩
|n+1,h=>by
  obtain⟨l,h1,h2⟩:=Hp (n:=n) (fun i a=>h i om_);obtain⟨x,b⟩:=h n om_;refine⟨l++[x],by simp[h1],fun i y hy=>?_⟩;by_cases a:i<n
  ·rw[Se om_]at hy;exact h2 i y hy
  rw[RV om_]at hy;have:i-l.length=0:=by
   rcases Sz (i-l.length) with h0|h0
   ·exact h0
   rw[Rx ap]at hy;cases hy
  rw[this]at hy;simp only[List.getElem?_cons_zero,Sb]at hy;subst hy;have c:i=n:=by omega
  subst c;exact b
section
variable {H:Type} {enc:TypeId × Value->H} {P:Program} {W:World} {spare:Nat->Bool} {held:Bool}
theorem F3 {d:Type}{t e:TypeId}{k:Nat}{C:Nat}{v:Value}{x:DataW H × List MemPlace}(f:d->List Value)(E:P.underlying t=some (.slice e))(F:P.cellsOf e=k)(S:k≠0)
  (G:∀ (n:Nat)(cs:List Value)(y:DataW H × List MemPlace),cs.length=k->DataW.trod enc P W 0 spare held n e cs=some y->∃ z:d,cs=f z)
  (h:DataW.trod enc P W 0 spare held C t [v]=some x):∃ l:List d,Sl (rW W) k v (l.map f):=by
 rcases open_slice E h with⟨h1,_⟩|⟨a,len,I,m,n,D,T,s,_,J,hm,K,_,w⟩
 ·simp only[Tz,Uu]at h1;subst h1;exact⟨[],Sl.nil _ _⟩
 simp only[Tz,Uu]at s;subst s;have V:len<=m:=by rw[K];split <;> omega
 rw[F]at w;obtain⟨l,A,o⟩:=Hp (α:=d) (n:=len) (p:=fun i z=>W.cells? 0 (a.add (i*k)) k=some (f z)) (fun i b=>by
  obtain⟨L,h1,h2⟩:=w i om_;obtain⟨_,h3,_⟩:=World.cells?_some h1;obtain⟨z,rfl⟩:=G n L _ h3 h2;exact⟨z,h1⟩)
 refine⟨l,some a,I,by simp[A],by simp[A];exact J,hm,fun r hr=>?_,fun i r b=>?_⟩
 ·obtain⟨z,c,rfl⟩:=Rs.1 hr;obtain⟨i,b⟩:=SV c;exact(World.cells?_some (o i z b)).2.1
 rw[Rr]at b;cases c:l[i]? with
|none=>rw[c]at b;cases b
|some z =>
  rw[c]at b;simp only[S5,Sb]at b;subst b;obtain⟨_,h4,h5⟩:=World.cells?_some (o i z c);have M:∀ j u,(f z)[j]?=some u->W.cell? ((a.add (i*k)).add j)=some u:=fun j u g=>by
   have N:j<k:=by rw[<- h4];exact(aJ.1 g).1
   rw[h5 j N];exact g
  have hs:a.spot=none:=by
   have h0:0<l.length:=by have:=(aJ.1 c).1;omega
   obtain⟨q,O⟩:∃ q,l[0]?=some q:=⟨l[0],ai h0⟩;obtain⟨_,X,Q⟩:=World.cells?_some (o 0 q O);have B:=Q 0 om_;rw[ai om_]at B;have R:=(Dp B).1;simpa [Addr.add] using R
  exact⟨a,U,hs,fun j u g=>by
   have:=Dp (M j u g)
   rwa [vR a _ _ hs]at this⟩
theorem uH {f:Func}{s:ChangeSpec}{m y z A:Bool}{W e:World}{k:Array Value}{v:Value}{g h:List (DataW H)}{c pa pv:List MemPlace}
  (l:DataW.Whole enc P f.params.toList s.vars m W k.toList g h c)
  (n:∀ (b:Nat)(d:Nat->Bool)(B:Bool),DataW.TrodAll enc P e b d B f.resultTypes.toList (v.resultList f.resultTypes.size) (s.fn H (g++h)).results [])
  (o:∀ d:Nat->Bool,(∀ p∈c,d p.block=true)->DataW.TrodAll enc P e 0 d true f.params.toList k.toList (s.fn H (g++h)).args pa)
  (q:∀ d:Nat->Bool,(∀ p∈c,d p.block=true)->DataW.TrodVars enc P e d s.vars (s.fn H (g++h)).vars pv)
  (i:c=pa++pv) (u:RowKit.Below W.heap.size W e)
  (C:∀ (j:Nat)(t:TypeId)(r:Value),f.resultTypes[j]?=some t->(v.resultList f.resultTypes.size)[j]?=some r->Value.okWide P e .any 0 t r) :
  s.post enc P f m y z A W k v e:=by
 have w:∀ p∈c,p.block<W.heap.size:=fun p a=>l.lt p a;have hold:∀ p∈c,(fun b=>decide (b<W.heap.size)) p.block=true:=fun p a=>by simpa using w p a
 refine⟨g,h,c,[],pa,pv,l,n _ _ _,o _ hold,q _ hold,World.keptBut_mono (fun p a=>⟨a, ?_⟩) (u.frame (·∈c)),fun _=>?_⟩
 ·rw[i,RF]at a;exact Or.inr a
 obtain⟨_,_,_,_,_,D,E⟩:=l;refine⟨C,_,_,([]++pa)++pv,⟨[]++pa,pv,trodAll_append (o _ (fun _ _=>rfl)) (n _ _ _),q _ (fun _ _=>rfl),U, ?_, ?_⟩, ?_⟩
 ·intro b off a;have x:MemPlace.cell b off∈c:=by rw[i];simpa using a
  rw[u.frozen (w _ x)];exact D b off x
 ·intro F;have:=E F;rw[i]at this;simpa using this
 intro p a _;rw[i];simpa using a
end
end Go.Jog
namespace Go.Jog
open Go
def Ao (P:Program)(t:Nat):Bool:=match P.underlying t with
|some (.array _ e)=>(match P.underlying e with|some d=>sN d|none=>false) && Nat.beq (P.cellsOf e) 1 && !(P.eqGuardType P.depth t) && (P.info? e).isSome
|_=>false
def Ra (P:Program)(t:Nat)(xs:List Value):Bool:=match P.underlying t with
|some (.array m e)=>Nat.beq xs.length m && xs.all (fun x=>tz (P.underlying e) x)
|_=>false
theorem iN {P:Program}{e:TypeId}{d:TypeDesc}(m:Nat)(w:World)(c:P.underlying e=some d)(f:sN d=true):∀ {xs ys X Y:List Value}{i:Nat}{b:Bool},xs.all (fun x=>tz (P.underlying e) x)=true->kD xs ys=some b->X.drop i=xs->Y.drop i=ys ->
  (Op.eqItems (m+1) e 1 ⟨X⟩ ⟨Y⟩ (List.range' i xs.length)).run P w=.ok b w
|[],ys,X,Y,i,b,_,a,_,_=>by
  cases ys with
 |nil=>simp[kD]at a;subst a;simp[Op.eqItems]
 |cons=>simp[kD]at a
|x::xs,ys,X,Y,i,b,g,a,h,j=>by
  cases ys with
 |nil=>simp[kD]at a
 |cons y ys =>
   simp only[List.all_cons,RG]at g;simp only[kD]at a;split at a
   ·rename_i p q k l;cases a
    have n:X[i]?=some x:=by
     have:=congrArg (·[0]?) h;simpa using this
    have hy:Y[i]?=some y:=by
     have:=congrArg (·[0]?) j;simpa using this
    have o:X.drop (i+1)=xs:=by
     have:=congrArg (List.drop 1) h;simpa using this
    have r:Y.drop (i+1)=ys:=by
     have:=congrArg (List.drop 1) j;simpa using this
    have hr:=B7 k m w g.1;have s:=iN m w c f g.2 l o r;simp only[RH,UY,Op.eqItems,SL,Sem.run_bind,je c f n w,je c f hy w,hr,Result.andThen_ok];cases p
    ·simp
    simpa using s
   cases a
theorem Ea {P:Program}{t:Nat}(a:Ao P t=true){xs ys:List Value}(c:Ra P t xs=true){b:Bool}(i:kD xs ys=some b)(w:World):(Op.equalIn 10000 t (.agg ⟨xs⟩) (.agg ⟨ys⟩)).run P w=.ok b w:=by
 unfold Ao at a;unfold Ra at c;cases f:P.underlying t with
|none=>rw[f]at a;cases a
|some D =>
  rw[f]at a c;cases D <;> try (cases a)
  rename_i n e;simp only[RG]at a c;obtain⟨⟨⟨h1,h2⟩,h3⟩,h4⟩:=a;have j:=R2 h2;have k:=R2 c.1;cases h:P.info? e with
 |none=>rw[h]at h4;cases h4
 |some inf =>
   cases g:P.underlying e with
  |none=>rw[g]at h1;cases h1
  |some d =>
    rw[g]at h1;rw[run_equalIn_array w 9999 ⟨xs⟩ ⟨ys⟩ f h,j,<- k,UL];exact iN 9998 w g h1 c.2 i U U
end Go.Jog
namespace Go.Jog
open Go
inductive OT where
|fin (π:List Nat)
|cut (π:List Nat) (t:OT)
|alt (i:Nat) (t:OT) (r:OT)
|stop
section
variable {P:Program} {ops:Array Oper} {ι:Type} {cls:ι->World->Prop} {le:ι->ι->Prop} {md:Region.Mode}
def DT (P:Program)(ops:Array Oper)(cls:ι->World->Prop)(le:ι->ι->Prop)(kd:Nat->Nat)(Post:Act->ι->Prop):OT->Act->ι->Prop
|.fin π=>DU P ops cls le kd Post π
|.cut π t=>DU P ops cls le kd (DT P ops cls le kd Post t) π
|.alt i t r=>fun a κ=>gG P ops cls le (kd i) i (DT P ops cls le kd Post t) a κ/\DT P ops cls le kd Post r a κ
|.stop=>fun _ _=>True
def ju:OT->List Nat
|.alt i _ r=>i::ju r
|_=>[]
def N7:OT->Bool
|.fin _|.cut _ _=>true
|_=>false
def il:List Nat->Array Bool->Array Bool
|[],listed=>listed
|i::π,listed=>il π (listed.setIfInBounds i true)
def PB (md:Region.Mode)(ops:Array Oper)(kd:Nat->Nat):List Nat->Array Bool->Bool
|[],_=>true
|i::π,listed=>(bif Nat.ble (kd i) 1 then (Region.ready md ops listed).contains i && KX md ops kd listed i else (Region.ready md ops listed == [i])) && PB md ops kd π (listed.setIfInBounds i true)
def JF (md:Region.Mode)(ops:Array Oper)(kd:Nat->Nat):OT->Nat->Array Bool->Bool
|.fin π,f,listed=>Nat.beq π.length f && (PB md ops kd π listed && (Region.ready md ops (il π listed)).isEmpty)
|.cut π t,f,listed=>Nat.blt π.length f && (PB md ops kd π listed && ((Region.ready md ops (il π listed)).all (fun i=>(ju t).contains i) && (!(Region.ready md ops (il π listed)).isEmpty && JF md ops kd t (f-π.length) (il π listed))))
|.alt i t r,f,listed=>(Nat.blt 0 f && (N7 t && JF md ops kd t (f-1) (listed.setIfInBounds i true))) && JF md ops kd r f listed
|.stop,_,_=>true
theorem fu (r:∀ a b c,le a b->le b c->le a c){k:Nat->Nat}{u K:Act->ι->Prop}(s:Region.noSelect ops=true){f:Nat} :
  ∀ (d:List Nat)(e:Array Bool)(a:Act)(κ:ι),Closed md ops e->PB md ops k d e=true->(∀ a κ,Closed md ops (il d e)->K a κ->lN P md ops cls le k u f (il d e) a κ) ->
   DU P ops cls le k K d a κ->lN P md ops cls le k u (d.length+f) e a κ
|[],e,a,κ,l,_,n,h=>by
  rw[R5,SP];exact n a κ l h
|i::d,e,a,κ,l,w,n,h=>by
  simp only[PB,RG]at w;obtain⟨g,x⟩:=w;rw[RH,Nat.add_right_comm];by_cases p:k i<=1
  ·have t:Nat.ble (k i) 1=true:=by rw[Tj];exact p
   rw[t]at g;simp only[Tc,RG,UG]at g;obtain⟨hr,y⟩:=g;simp only[DU]at h;unfold gG at h;cases q:ops[i]? with
  |none=>simp only[q]at h
  |some o =>
    simp only[q,p,Tu]at h;obtain⟨v,hy,A⟩:=h;refine nZ (F:=ops.size) r q p (fun j o cs b=>Region.noSelect_spec s j o cs b) (d.length+f) e a κ l (fun j I m B C=>?_) hr hy
     (fu r s d _ _ κ (l.set hr) x n A)
    simp only[KX,q,RI,RL]at y;have:=y j (Tt.1 m).1;simp only[m,Tp,S8,B,false_or,C,Sn,RG,Tj]at this;rcases this with h1|h1
    ·exact .inr h1
    exact .inl h1
  have t:Nat.ble (k i) 1=false:=by
   cases z:Nat.ble (k i) 1 with
  |false=>rfl
  |true=>exact absurd (by rw[Tj]at z;exact z) p
  rw[t]at g;simp only[cond_false,S8]at g;have D:i∈Region.ready md ops e:=by rw[g];simp
  refine⟨fun h0=>(by rw[h0]at g;cases g),fun j m=>?_⟩;rw[g]at m;obtain rfl:j=i:=by simpa using m
  exact jN (fun E G H=>fu r s d _ E G (l.set D) x n H) h
theorem gi (p:∀ a b c,le a b->le b c->le a c){q:Nat->Nat}{z:Act->ι->Prop}(s:Region.noSelect ops=true) :
  ∀ (t:OT)(f:Nat)(d:Array Bool)(a:Act)(κ:ι),Closed md ops d->JF md ops q t f d=true->DT P ops cls le q z t a κ ->
   (match t with
   |.fin _|.cut _ _=>lN P md ops cls le q z f d a κ
   |_=>∀ i∈ju t,i∈Region.ready md ops d->(∃ n,f=n+1/\gG P ops cls le (q i) i (lN P md ops cls le q z n (d.setIfInBounds i true)) a κ))
|.fin g,f,d,a,κ,o,k,h=>by
  simp only[JF,RG,Ud]at k;obtain⟨A,u,v⟩:=k;have:=R2 A;have h2:=fu (f:=0) p s g d a κ o u (fun a κ _ B=>⟨v,B⟩) h;rw[S7,this]at h2;exact h2
|.cut g t,f,d,a,κ,o,k,h=>by
  simp only[JF,RG,RI]at k;obtain⟨A,u,v,C,F⟩:=k;rw[UX]at A;have G:Region.ready md ops (il g d)≠[]:=fun e=>by rw[e]at C;cases C
  have h2:=fu (f:=f-g.length) p s g d a κ o u (fun a κ H B=>by
   have l:=gi p s t (f-g.length) (il g d) a κ H F B;obtain⟨n,I⟩:∃ n,f-g.length=n+1:=⟨f-g.length-1,by omega⟩;rw[I]at l⊢;refine⟨fun h0=>absurd h0 G,fun i m=>?_⟩;have w:=v i m;rw[UG]at w;cases t with
  |fin x=>simp[ju]at w
  |cut x y=>simp[ju]at w
  |stop=>simp[ju]at w
  |alt j y r' =>
    obtain⟨J,Q,hs⟩:=l i w m;obtain rfl:n=J:=by omega
    exact hs) h
  rw[show g.length+(f-g.length)=f by omega]at h2;exact h2
|.alt j t r,f,d,a,κ,o,k,h=>by
  simp only[JF,RG]at k;obtain⟨⟨K,D,u⟩,v⟩:=k;rw[UX]at K;intro i m hr;simp only[ju,RC]at m;by_cases E:i=j
  ·subst E;refine⟨f-1,by omega,jN (fun L M N=>?_) h.1⟩;have l:=gi p s t (f-1) _ L M (o.set hr) u N;cases t with
  |fin x=>exact l
  |cut x y=>exact l
  |stop=>cases D
  |alt O y r'=>cases D
  have h2:=m.resolve_left E;have l:=gi p s r f d a κ o v h.2;cases r with
 |fin x=>simp[ju]at h2
 |cut x y=>simp[ju]at h2
 |stop=>simp[ju]at h2
 |alt O y r'=>exact l i h2 hr
|.stop,_,_,_,_,_,_,_=>by
  intro i m;simp[ju]at m
theorem rS (W:Cw P)(n:W.nd ops)(d:∀ κ,le κ κ)(o:∀ a b c,le a b->le b c->le a c){e:Nat->Nat}{f:Act->ι->Prop}{p:Nat}{Q:Exit->Act->World->Prop}{a:Act}{w:World}{κ:ι}
  (q:P.follows .mixedOrders=true) (g:cls κ { w with drawn:=w.drawn+1 }) (t:OT) (k:N7 t=true)
  (l:(Region.noSelect ops && JF .any ops e t ops.size (Array.replicate ops.size false))=true) (h:DT P ops cls le e f t a κ)
  (m:∀ a κ w,f a κ->cls κ w->Q .normal a w):W.wp (Code.region p ops true) Q a w:=by
 simp only[RG]at l;obtain⟨hs,s⟩:=l;refine W.any q n ?_;have h0:Closed .any ops (Array.replicate ops.size false):=fun j x _ u=>by
  rcases RS j ops.size with h|h <;> simp[h]at u
 have:=gi o hs t ops.size _ a κ h0 s h;cases t with
|fin v=>exact jK d m _ _ _ _ _ g this
|cut v t=>exact jK d m _ _ _ _ _ g this
|stop=>cases k
|alt i t r=>cases k
end
/-! ### In the logic -/
section
variable {cx:Cx} {n:Nat} {ds:List (Option Nat)} {fr:Fr} {C:Mem} {L:List Ent}
def RgT (P:Program)(R:Rg n ds)(t:OT):Rg n ds:=⟨R.b,R.ops,R.kd,DT P R.ops R.b.cls kle R.kd R.Post t,R.hy,R.dd⟩
def DN (cx:Cx)(R:Rg n ds)(l:List Oper)(ov:List (Nat × Nat)):OT->Fr->Mem->List Ent->Prop
|.fin π=>D cx R (jq l ov π)
|.cut π t=>D cx (RgT cx.P R t) (jq l ov π)
|_=>fun _ _ _=>True
def DA (cx:Cx)(R:Rg n ds)(l:List Oper)(ov:List (Nat × Nat)):OT->Fr->Mem->List Ent->Prop
|.alt i (.fin π) r=>fun fr C L=>D cx R (jq l ov (i::π)) fr C L/\DA cx R l ov r fr C L
|.alt i (.cut π t) r=>fun fr C L=>D cx (RgT cx.P R t) (jq l ov (i::π)) fr C L/\DA cx R l ov r fr C L
|.stop=>fun _ _ _=>True
|_=>fun _ _ _=>False
def KO (m:Nat):OT->Bool
|.fin π=>π.all (fun i=>Nat.blt i m)
|.cut π t=>π.all (fun i=>Nat.blt i m) && KO m t
|.alt i t r=>Nat.blt i m && (KO m t && KO m r)
|.stop=>true
theorem vf {R:Rg n ds}{l:List Oper}{a:List (Nat × Nat)}(d:∀ i,i<l.length->R.kd i=ovr a i (gN (qF l i))/\R.ops[i]?=some (qF l i)){b:List Nat}(h:b.all (fun i=>Nat.blt i l.length)=true) :
  ∀ x∈jq l a b,R.kd x.1=x.2.1/\R.ops[x.1]?=some x.2.2:=fun x e=>by
 obtain⟨h1,h2,h3⟩:=jp e;have c:=RI.1 h x.1 h1;rw[UX]at c;have:=d x.1 c;exact⟨this.1.trans h2.symm,by rw[this.2,h3]⟩
theorem vU {R:Rg n ds}{l:List Oper}{g:List (Nat × Nat)}(d:∀ i,i<l.length->R.kd i=ovr g i (gN (qF l i))/\R.ops[i]?=some (qF l i))(e:R.b.C0.le C){a:Act}(f:FrOk n ds R.dd fr a) :
  ∀ (t:OT),KO l.length t=true->DA cx R l g t fr C L->DT cx.P R.ops R.b.cls kle R.kd R.Post t a (C,L)
|.alt i (.fin j) r,c,h=>by
  simp only[KO,RG]at c;have h1:=h.1 e (vf d (by simp only[List.all_cons,RG];exact⟨c.1,c.2.1⟩)) a f;rw[fh]at h1;exact⟨h1,vU d e f r c.2.2 h.2⟩
|.alt i (.cut j t) r,c,h=>by
  simp only[KO,RG]at c;have h1:=h.1 e (vf (R:=RgT cx.P R t) d (by simp only[List.all_cons,RG];exact⟨c.1,c.2.1.1⟩)) a f;rw[fh]at h1;exact⟨h1,vU d e f r c.2.2 h.2⟩
|.stop,_,_=>trivial
|.fin _,_,h=>h.elim
|.cut _ _,_,h=>h.elim
|.alt _ (.alt _ _ _) _,_,h=>h.elim
|.alt _ .stop _,_,h=>h.elim
theorem VL {R:Rg n ds}{l:List Oper}{a:List (Nat × Nat)}{t:OT}(b:∀ i,i<l.length->R.kd i=ovr a i (gN (qF l i))/\R.ops[i]?=some (qF l i))(c:KO l.length t=true)(h:DA cx R l a t fr C L):D cx (RgT cx.P R t) [] fr C L :=
 fun h0 _ _ d=>vU b h0 d t c h
end
section
variable {F:Fx} {k:List KI} {fr:Fr} {C:Mem} {L:List Ent}
theorem VY {z:Nat}{l:List Oper}(t:OT)(f:List (Nat × Nat))(c:fr.all (fun x=>x.2.1.isEmpty)=true)(o:N7 t=true)
  (j:((Region.noSelect l.toArray && JF .any l.toArray (fun i=>ovr f i (gN (qF l i))) t l.toArray.size (Array.replicate l.toArray.size false)) && KO l.length t)=true)
  (h:∀ R:Rg F.n (l.map (·.dst)),C.le R.b.C0->(∀ fr C L,fr.all (fun x=>x.2.1.isEmpty)=true->G F (kM 64 k) .normal fr C L->D F.cx R [] fr C L) ->
   (∀ i,i<l.length->R.kd i=ovr f i (gN (qF l i))/\R.ops[i]?=some (qF l i))->DN F.cx R l f t fr C L) (A:F.W.nd l.toArray:=by first|exact trivial|exact rfl) :
  G F (.code (.region z l.toArray true)::k) .normal fr C L:=fun h0 a w d e=>by
 simp only[Kq];rw[RG]at j
 let kd:=fun i=>ovr f i (gN (qF l i))
 let b:Bs:=⟨F.b.w0,C,F.b.L0⟩
 let Post:Act->Mem × List Ent->Prop:=fun a κ=>∀ w,b.cls κ w->Kq F k .normal a w
 let R:Rg F.n (l.map (·.dst)):=⟨b,l.toArray,kd,Post,fun tmps=>jJ l tmps,F.dd⟩
 have B:∀ κ w,b.cls κ w->F.b.cls κ w:=fun κ w E=>St.unbase h0 e.cn E;have q:∀ i,i<l.length->R.kd i=ovr f i (gN (qF l i))/\R.ops[i]?=some (qF l i):=fun i m=>⟨rfl,by
  show(l.toArray)[i]?=_;rw[SS,jn m]⟩
 have u:=h R l_ (fun fr N L c H I _ a d w e=>VS 64 H (h0.trans I) a w ⟨d.size,d.defers,fun s g v y=>by
  have hm:=RI.1 c _ (Fr.get_mem y);simp only[Ud]at hm;subst hm;exact⟨fun _=>(d.ent s [] v y).1 (fun p c=>by cases c),fun J=>absurd (fun p c=>by cases c) J⟩⟩ (B _ _ e)) q
 have hT:DT F.cx.P l.toArray b.cls kle kd Post t a (C,L):=by
  cases t with
 |fin K =>
   have h1:=u l_ (vf q j.2) a (d.enter _ c);rw[fh]at h1;exact h1
 |cut K t =>
   have m:=j.2;simp only[KO,RG]at m;have h1:=u l_ (vf (R:=RgT F.cx.P R t) q m.1) a (d.enter _ c);rw[fh]at h1;exact h1
 |stop=>cases o
 |alt i t r=>cases o
 exact rS F.W A (cls:=b.cls) (le:=kle) kle.refl kle.trans F.cx.mixed (St.rebase (St.drew e)) t o j.1 hT (fun a κ w M e=>M w e)
end
end Go.Jog
namespace Go.Jog
open Go Go.MapKept
section
variable {κ β:Type} [DecidableEq κ]
def dY:List (κ × β)->κ->Option β
|[],_=>none
|(k',v)::m,k=>if k'=k then some v else dY m k
def iO:List (κ × β)->κ->β->List (κ × β)
|[],k,v=>[(k,v)]
|(k',v')::m,k,v=>if k'=k then (k,v)::m else (k',v')::iO m k v
theorem CO {a:Type}(f:β->a):∀ (m:List (κ × β))(k:κ),dY (m.map fun p=>(p.1,f p.2)) k=(dY m k).map f
|[],_=>rfl
|(b,v)::m,k=>by
  simp only[R6,dY];split
  ·rfl
  exact CO f m k
def kN:List (κ × β)->κ->Option (Nat × β)
|[],_=>none
|(k',v)::m,k=>if k'=k then some (0,v) else (kN m k).map fun p=>(p.1+1,p.2)
theorem qI:∀ (m:List (κ × β))(k:κ),(kN m k).map (·.2)=dY m k
|[],_=>rfl
|(a,v)::m,k=>by
  simp only[kN,dY];split
  ·rfl
  rw[<- qI m k];cases kN m k <;> rfl
end
structure KeyT (d:TypeDesc)(κ:Type)[DecidableEq κ] where
 enc:κ->Value
 isKey:∀ a,IsKey d (enc a)
 same:∀ a b,Instr.sameNow d (enc a) (enc b)=some (decide (a=b))
def bI {κ:Type}(enc:κ->Value):List (κ × Value)->Nat->List MapEntry
|[],_=>[]
|(k,v)::m,i=>⟨enc k,v,i⟩::bI enc m (i+1)
def aY {κ:Type}(enc:κ->Value)(m:List (κ × Value)):Obj:=.map ⟨bI enc m 0⟩ m.length
section
variable {d:TypeDesc} {κ:Type} [DecidableEq κ] (K:KeyT d κ)
theorem iz (k:κ):∀ (m:List (κ × Value))(i j:Nat),Instr.findNow d (K.enc k) (bI K.enc m i) j=some ((kN m k).map fun p=>(j+p.1,p.2))
|[],i,j=>rfl
|(a,v)::m,i,j=>by
  simp only[bI,Instr.findNow,K.same];by_cases h:k=a
  ·subst h;simp[kN]
  have b:¬ a=k:=fun e=>h e.symm;simp only[h,decide_false,iz k m (i+1) (j+1),kN,aF b];cases kN m k with
 |none=>rfl
 |some p=>simp;omega
theorem oo {a:Type}(b:a->Value):∀ (m:List (a × Value))(i:Nat),(bI b m i).length=m.length
|[],_=>rfl
|_::m,i=>by simp[bI,oo b m]
theorem sY {k:κ}{v:Value}:∀ {m:List (κ × Value)}{i:Nat},kN m k=none->bI K.enc m i++[⟨K.enc k,v,i+m.length⟩]=bI K.enc (iO m k v) i/\(iO m k v).length=m.length+1
|[],i,_=>⟨rfl,rfl⟩
|(d,e)::m,i,h=>by
  simp only[kN]at h;split at h
  ·cases h
  rename_i a;have b:kN m k=none:=by
   cases c:kN m k with
  |none=>rfl
  |some p=>rw[c]at h;cases h
  obtain⟨h1,h2⟩:=sY (i:=i+1) (v:=v) b;simp only[iO,aF a,bI,Tg,RH,h2];refine⟨?_,trivial⟩;rw[<- h1];congr 3;congr 1;omega
theorem sX {k:κ}{v:Value}:∀ {m:List (κ × Value)}{i q:Nat}{u:Value},kN m k=some (q,u)->(bI K.enc m i).modify q (fun e=>{ e with key:=K.enc k,val:=v })=bI K.enc (iO m k v) i/\(iO m k v).length=m.length/\((bI K.enc m i)[q]?).map (·.key)=some (K.enc k)
|[],_,_,_,h=>by cases h
|(c,d)::m,i,q,u,h=>by
  simp only[kN]at h;split at h
  ·rename_i e;subst e;cases h
   simp[bI,iO]
  rename_i b;cases a:kN m k with
 |none=>rw[a]at h;cases h
 |some p =>
   obtain⟨f,g⟩:=p;rw[a]at h;cases h
   obtain⟨h1,h2,h3⟩:=sX (i:=i+1) (v:=v) a;simp only[iO,aF b,bI,RH,h2,List.modify_succ_cons,h1];exact⟨trivial,trivial,by simpa using h3⟩
end
theorem gX {T:Tab}{P:Program}(f:oK P T=true){t k e:Nat}{a:TI}(h:T.get t=some a)(c:a.k=.map k e):P.underlying t=some (.map k e):=by
 obtain⟨i,s,b,z,g⟩:=a;simp only at c;subst c;obtain⟨d,h1,h2⟩:=Mw f h;cases d <;> simp[tkB]at h2
 rw[h1,h2.1,h2.2]
section
variable {cx:Cx} {n:Nat} {ds:List (Option Nat)} {R:Rg n ds} {its:List It} {fr:Fr} {C:Mem} {L:List Ent} {i k d:Nat} {o:Oper} {g:GL} {v:Value}
variable {kd:TypeDesc} {κ:Type} [DecidableEq κ] (K:KeyT kd κ)
theorem D.makeMap {t:Nat}(c:Nat.ble k 1=false)(e:o.dst=some d)(g:gOn ds fr o.guard=true)(j:o.op=.makeMap t none)(l:∀ v,aX n ds ((d,[],v)::fr) d=true)
  (h:∀ b,D cx R its ((d,[],.map (some b))::fr) C (.obj b (aY K.enc [])::L)):D cx R ((i,k,o)::its) fr C L :=
 Ws (f:=fun b=>.map (some b)) (ob:=aY K.enc []) c e g l (fun a _ w=>by
  have m:execOp a.eval o=(do Pure.pure (.value (<- Instr.makeMap t none)):Sem Next):=by unfold execOp;rw[j];rfl
  rw[m];rfl) h
def mj (z:Value)(ok:Bool):Option Value->Value
|some u=>bif ok then .tuple #[u,.bool true] else u
|none=>bif ok then .tuple #[z,.bool false] else z
theorem D8 {P:Program}{T:Tab}(c:oK P T=true){t d e:Nat}{f g:TI}{a:Bool}(i:T.get t=some f)(j:f.k=.map d e)(h:P.underlying d=some kd)(l:T.get e=some g){w:World}{b:Nat}{m:List (κ × Value)}(n:w.heap[b]?=some (aY K.enc m))(y:κ) :
  (Instr.lookup t (.map (some b)) (K.enc y) a).run P w=.ok (mj g.zv a (dY m y)) w:=by
 have o:=gX c i j;have q:=iz K y m 0 0;have h1:(getObj b).run P w=.ok (.map ⟨bI K.enc m 0⟩ m.length) w:=Go.MapKept.run_getObj_map n;have h2:=run_findKey (P:=P) (w:=w) h q;rw[<- qI];unfold Instr.lookup;simp only[Sem.run_bind,run_underlying o,Result.andThen_ok,h1,Sem.run_pure,run_checkKey h (K.isKey y)];rw[h2];cases kN m y with
|none=>cases a <;> simp[mj,uc c l w]
|some p=>cases a <;> simp[mj]
theorem Wq {b t j l:Nat}{x y:Operand}{c:Bool}{m:List (κ × Value)}{f:κ}{p q:TI}(s:Ent.obj b (aY K.enc m)∈L)(r:k=1)(u:o.dst=some d)(z:o.op=.lookup t x y c)(A:gOf ds fr o.guard=some g)(B:ev fr g x=some (.map (some b)))(E:ev fr g y=some (K.enc f))
  (F:cx.T.get t=some p) (G:p.k=.map j l) (H:cx.P.underlying j=some kd) (I:cx.T.get l=some q) (J:mj q.zv c (dY m f)=v) (M:aX n ds ((d,g,v)::fr) d=true) (N:wfG ds fr g=true)
  (h:D cx R its ((d,g,v)::fr) C L):D cx R ((i,k,o)::its) fr C L :=
 VQ (by subst r;rfl) u A M N (fun _ a hs X O w Q=>by
  have S:w.heap[b]?=some (aY K.enc m):=Q.sep.e _ ((O r).2 _ s);have V:(execOp a.eval o).run cx.P w=.ok (.value v) w:=by
   have W:execOp a.eval o=(do Pure.pure (.value (<- Instr.lookup t (a.eval x) (a.eval y) c)):Sem Next):=by unfold execOp;rw[z]
   rw[W,hs _ _ B,hs _ _ E,<- J];simp only[Sem.run_bind,D8 K cx.hT F G H I S f,Result.andThen_ok,Sem.run_pure]
  unfold Oper.quietAt;rw[V];exact⟨U,U⟩) h
theorem D.mapUpdate {t l F j b:Nat}{x y z:Operand}{m:List (κ × Value)}{c:κ}{n:TI}(G:k=3)(H:gOn ds fr o.guard=true)(I:o.dst=none)(J:o.op=.mapUpdate t x y z)
  (M:ev fr [] x=some (.map (some b))) (N:ev fr [] y=some (K.enc c)) (O:ev fr [] z=some v) (Q:L[j]?=some (.obj b (aY K.enc m)))
  (V:cx.T.get t=some n) (W:n.k=.map l F) (r:cx.P.underlying l=some kd)
  (h:D cx R its fr C (.obj b (aY K.enc (iO m c v))::L.eraseIdx j)):D cx R ((i,k,o)::its) fr C L :=
 Wn (S:=fun s L'=>s=C/\L'=.obj b (aY K.enc (iO m c v))::L.eraseIdx j) (by subst G;rfl) H (fun a hs w _ X=>by
  have A:=St.perm X (al Q);have f:w.heap[b]?=some (aY K.enc m):=A.sep.e _ (Rq ..);have Y:=gX cx.hT V W;have Z:=iz K c m 0 0;have h1:(getObj b).run cx.P w=.ok (.map ⟨bI K.enc m 0⟩ m.length) w:=Go.MapKept.run_getObj_map f;have h2:=run_findKey (P:=cx.P) (w:=w) r Z;have aa:(Instr.mapUpdate t (.map (some b)) (K.enc c) v).run cx.P w=.ok () { w with heap:=w.heap.setIfInBounds b (aY K.enc (iO m c v)) }:=by
   unfold Instr.mapUpdate;simp only[Sem.run_bind,run_underlying Y,Result.andThen_ok,h1,run_checkKey r (K.isKey c)];rw[h2];cases B:kN m c with
  |none =>
    obtain⟨h3,h4⟩:=sY K (v:=v) (i:=0) B;simp only[Option.map_none,Result.andThen_ok];rw[Go.MapKept.run_setObj_map (P:=cx.P) _ f];congr 2;simp only[aY,h4,<- h3,SP];congr 2;apply Te;simp
  |some p =>
    obtain⟨q,u⟩:=p;obtain⟨h3,h4,h5⟩:=sX K (v:=v) (i:=0) B;have hq:(((⟨bI K.enc m 0⟩:Array MapEntry)[0+q]?).map (·.key)).getD (K.enc c)=K.enc c:=by
     rw[SP];show(((bI K.enc m 0).toArray[q]?).map (·.key)).getD (K.enc c)=K.enc c;rw[SS,h5];rfl
    simp only[S5,Result.andThen_ok,Sem.run_bind];rw[hq,run_keyThatStays (d:=kd) (K.isKey c)];simp only[Result.andThen_ok];rw[Go.MapKept.run_setObj_map (P:=cx.P) _ f];congr 2;simp only[aY,h4,<- h3,SP];congr 2;apply Te;simp
  have ab:(execOp a.eval o).run cx.P w=.ok .skip { w with heap:=w.heap.setIfInBounds b (aY K.enc (iO m c v)) }:=by
   have g:execOp a.eval o=(do Instr.mapUpdate t (a.eval x) (a.eval y) (a.eval z);Pure.pure .skip:Sem Next):=by unfold execOp;rw[J]
   rw[g,hs _ _ M,hs _ _ N,hs _ _ O];simp only[Sem.run_bind,aa,Result.andThen_ok,Sem.run_pure]
  unfold Oper.wp;rw[ab];have E:=heap_set (o':=aY K.enc (iO m c v)) f;refine⟨C,.obj b (aY K.enc (iO m c v))::L.eraseIdx j, ?_,Mem.le.refl _,fun h2=>by omega,St.put A E.1 E.2 ak U U U (Ro _),U,U⟩;rw[I];rfl)
  (fun s L' _ ⟨g,e2⟩=>by subst g;subst e2;exact h)
end
theorem FT (a b:List UInt8):((⟨a.toArray⟩:ByteArray) == ⟨b.toArray⟩)=decide (a=b):=by
 by_cases h:a=b
 ·subst h;simp[(bytes_beq _ _).2 rfl]
 have:¬ ((⟨a.toArray⟩:ByteArray) == ⟨b.toArray⟩)=true:=fun e=>h (by
  have:=(bytes_beq _ _).1 e;have h2:=congrArg (fun x:ByteArray=>x.data.toList) this;simpa using h2)
 simp[h,Bool.eq_false_iff.2 this]
def keyS:KeyT .string (List UInt8) where
 enc s:=.string ⟨s.toArray⟩
 isKey _:=trivial
 same a b:=by simp only[Instr.sameNow,FT]
end Go.Jog
namespace Go.Jog
open Go
variable {C C0:Mem}{L L0:List Ent}{b:Nat}{ob:Obj}{w w0:World}
def Mem.unset (C:Mem)(b:Nat):Mem:=fun k=>if k=b then none else C k
theorem Mem.unset_le (C:Mem)(b:Nat):(C.unset b).le C:=fun k o h=>by
 unfold Mem.unset at h;split at h
 ·cases h
 exact h
theorem Mem.le_unset {D:Mem}(h:C.le D)(c:C b=none):C.le (D.unset b):=fun k o a=>by
 unfold Mem.unset;split
 ·rename_i e;subst e;rw[c]at a;cases a
 exact h k o a
theorem St.aside (h:St w0 C0 L0 C (.obj b ob::L) w):St w (C.set b ob) L (C.set b ob) L w :=
 (St.freeze h).2 |> fun s=>St.start s.sep
theorem St.back {f:Mem}{g:List Ent}{i:World}(h:St w0 C0 L0 C (.obj b ob::L) w)(k:St w (C.set b ob) L f g i):St w0 C0 L0 (f.unset b) (.obj b ob::g) i:=by
 have j:C b=none:=h.sep.n b ⟨_,Rq ..,rfl⟩;have l:C.le f:=(Mem.le_set j).trans k.c0;have k2:St w C L (f.unset b) g i:=⟨⟨fun q o a=>k.sep.c q o (Mem.unset_le _ _ q o a),k.sep.e,k.sep.d,fun q a=>by
   have:=k.sep.n q a;unfold Mem.unset;split
   ·rfl
   ·exact this⟩,k.ev,Mem.le_unset l j,fun q o a=>by
   have m:q≠b:=fun e=>by subst e;simp[Mem.unset]at a
   rcases k.cn q o (Mem.unset_le _ _ q o a) with h1|h1
   ·unfold Mem.set at h1;rw[aF m]at h1;exact .inl h1
   exact .inr h1,k.ln⟩
 have h2:St w0 C0 L0 C (L++[.obj b ob]) w:=St.perm h (Su (l₁:=[Ent.obj b ob]) (l₂:=L));exact St.perm (St.call h2 k2) (Su (l₁:=g) (l₂:=[Ent.obj b ob]))
end Go.Jog
namespace Go.Jog
structure Arc3 where
 i:Nat
 lo:Nat
 up:Nat
 deriving DecidableEq,Inhabited
def LO:Nat->List Arc3->Nat->Prop
|u,[],v=>u=v
|u,a::p,v=>a.lo=u/\LO a.up p v
def In (A p:List Arc3):Prop:=∀ a∈p,a∈A
def Rm (A:List Arc3)(k u v:Nat):Prop:=∃ p,In A p/\p.length=k/\LO u p v
end Go.Jog
namespace Go.Jog
def dAt (d:List Int)(u:Nat):Int:=d.getD u (-1)
/-! ### Relaxing -/
def fin (d:List Int):Nat:=d.countP (fun x=>decide (0<=x))
structure OY (A:List Arc3)(to n:Nat)(d:List Int):Prop where
 len:d.length=n
 neg:∀ u,u<n->-1<=dAt d u
 small:∀ u,u<n->dAt d u<fin d
 walk:∀ u,u<n->0<=dAt d u->Rm A (dAt d u).toNat u to
 zero:dAt d to=0
def OW (d:List Int)(a:Arc3):Prop:=0<=dAt d a.up->0<=dAt d a.lo/\dAt d a.lo<=dAt d a.up+1
/-! ### The first smallest cycle -/
def nums (p:List Arc3):List Nat:=p.map (·.i)
def QE (x y:List Nat):Prop:=∃ c b b' s s',x=c++b::s/\y=c++b'::s'/\b<b'
def above (A:List Arc3)(i:Nat):List Arc3:=A.filter fun a=>decide (i<a.i)
structure Greedy (A:List Arc3)(from_ to m:Nat)(p:List Arc3)(at_:Nat):Prop where
 inA:In A p
 chain:LO from_ p at_
 ahead:∀ r,In A r->LO from_ r to->r.length=m->(∃ s,r=p++s)∨QE (nums p) (nums r)
end Go.Jog
namespace Go.Jog
def Ord (A:List Arc3)(o:List Nat):Prop:=∀ pre u post,o=pre++u::post->∀ a∈A,a.up=u->a.lo∈pre
def Topo (A:List Arc3)(n:Nat)(o:List Nat):Prop:=o.length=n/\o.Nodup/\(∀ u∈o,u<n)/\Ord A o
/-! ### Taking the least free place, again and again -/
def cnt (A:List Arc3)(dn:List Nat)(u:Nat):Nat:=A.countP fun a=>decide (a.up=u) && !(dn.contains a.lo)
structure Kahn (A:List Arc3)(n:Nat)(dn av:List Nat):Prop where
 nodup:dn.Nodup
 below:∀ u∈dn,u<n
 ord:Ord A dn
 avnd:av.Nodup
 av:∀ u,u∈av ↔ u<n/\u ∉ dn/\cnt A dn u=0
 least:∀ o,Topo A n o->(∃ s,o=dn++s)∨QE dn o
end Go.Jog
namespace Go.Jog
def addW (o:Nat)(self:Bool)(x:Nat):Nat:=max (if self=true then max x 1 else x) (if 0<o then min 8 (o+1) else 0)
def rowT (f:Nat->Nat->Nat)(c v:Nat):List Arc3->Nat->Nat
|[],x=>x
|a::l,x=>rowT f c v l (if a.up=v then addW (f c a.lo) (decide (c=a.lo)) x else x)
def tab (A:List Arc3):Nat->Nat->Nat->Nat
|0,_,_=>0
|k+1,c,v=>rowT (tab A k) c v A (tab A k c v)
end Go.Jog
namespace Go.Jog
variable {a b:List Nat}{i:Nat}{l:List Nat}{x:Nat}
abbrev BP:Nat:=10000
def bx:List Nat->Nat
|[]=>0
|x::l=>x+BP*bx l
def DigP (l:List Nat):Prop:=∀ x∈l,x<BP
def Bp (l:List Nat):Prop:=DigP l/\l.getLast?≠some 0
theorem gW:∀ (a b:List Nat),bx (a++b)=bx a+BP ^ a.length*bx b
|[],b=>by simp[bx]
|x::a,b=>by
  simp only[Tg,bx,gW a b,RH,SF];rw[Sw,<- S6,R8 (BP ^ a.length) BP,TF]
theorem pu (a:List Nat)(x:Nat):bx (a++[x])=bx a+BP ^ a.length*x:=by
 rw[gW];simp[bx]
theorem nk:∀ {l:List Nat},DigP l->bx l<BP ^ l.length
|[],_=>by simp[bx]
|x::l,h=>by
  have h1:=h x ak;have h2:=nk (l:=l) (fun y hy=>h y (by simp[hy]));simp only[bx,RH,SF];have h3:BP*(bx l+1)<=BP*BP ^ l.length:=SN _ h2;rw[R8 (BP ^ l.length) BP];rw[Sw]at h3;omega
theorem gD (h:l[i]?=some x):bx (l.take (i+1))=bx (l.take i)+BP ^ i*x:=by
 have a:=(aJ.1 h).1;rw[RR,h];simp only[SR];rw[pu,RE,Sp om_]
theorem DigP.take {l:List Nat}(h:DigP l)(i:Nat):DigP (l.take i):=fun x a=>h x (SD a)
theorem DigP.snoc (h:DigP l)(a:x<BP):DigP (l++[x]):=fun y hy=>by
 rcases RF.1 hy with hy|hy
 ·exact h y hy
 rw[RK.1 hy];exact a
theorem sq:∀ {l:List Nat},(∀ x∈l,x=0)->bx l=0
|[],_=>rfl
|x::l,h=>by
  rw[bx,h x ak,sq (fun y hy=>h y (by simp[hy]))];rfl
def ES (l:List Nat):Nat->Nat
|0=>0
|k+1=>if l[k]?=some 0 then ES l k else k+1
def yE (l:List Nat):List Nat:=l.take (ES l l.length)
theorem rx (l:List Nat):∀ k,k<=l.length->(l.take (ES l k)).getLast?≠some 0/\bx (l.take (ES l k))=bx (l.take k)
|0,_=>by simp[ES]
|k+1,b=>by
  rw[ES];obtain⟨x,a⟩:∃ x,l[k]?=some x:=⟨l[k],ai om_⟩;split
  ·rename_i h;obtain⟨h1,h2⟩:=rx l k om_;refine⟨h1, ?_⟩;rw[h2,gD h];simp
  rename_i h;refine⟨?_,U⟩;rw[RR,a];simp only[SR,List.getLast?_append,List.getLast?_singleton];intro e;rw[a]at h;simp at e;exact h (by rw[e])
theorem iF (l:List Nat):bx (yE l)=bx l:=by
 have:=(rx l l.length (Ro _)).2;rw[Rz]at this;exact this
theorem mR (h:DigP l):Bp (yE l):=⟨h.take _,(rx l l.length (Ro _)).1⟩
theorem vN (h:Bp l)(b:0<l.length):BP ^ (l.length-1)<=bx l:=by
 obtain⟨x,a⟩:∃ x,l[l.length-1]?=some x:=⟨l[l.length-1]'om_,ai om_⟩;have h1:=gD a;rw[show l.length-1+1=l.length by omega,Rz]at h1;have c:x≠0:=fun e=>h.2 (by rw[TJ,a,e]);rw[h1];have:BP ^ (l.length-1)*1<=BP ^ (l.length-1)*x:=SN _ om_;omega
theorem Dr (h:Bp l):bx l=0 ↔ l=[]:=by
 constructor
 ·intro e;apply RT;intro a;have:=vN h (Sc.2 a);rw[e]at this;have b:0<BP ^ (l.length-1):=T1 dc_;omega
 rintro rfl;rfl
theorem Ht (c:DigP a)(d:Bp b)(h:a.length<b.length):bx a<bx b:=by
 have h1:=nk c;have h2:=vN d om_;have h3:BP ^ a.length<=BP ^ (b.length-1):=RM dc_ om_;omega
theorem MN {y:Nat}(e:DigP a)(l:a.length=b.length)(c:a[i]?=some x)(d:b[i]?=some y)(f:x<y)(g:a.drop (i+1)=b.drop (i+1)):bx a<bx b:=by
 have h:bx a=bx (a.take (i+1))+BP ^ (i+1)*bx (a.drop (i+1)):=by
  have j:=(aJ.1 c).1
  conv=>lhs;rw[<- Sm (i+1) a]
  rw[gW,RE,Sp om_]
 have k:bx b=bx (b.take (i+1))+BP ^ (i+1)*bx (b.drop (i+1)):=by
  have j:=(aJ.1 d).1
  conv=>lhs;rw[<- Sm (i+1) b]
  rw[gW,RE,Sp om_]
 rw[h,k,g,gD c,gD d];have h1:=nk (e.take i);have h2:(a.take i).length<=i:=by rw[RE];omega
 have h3:BP ^ (a.take i).length<=BP ^ i:=RM dc_ h2;have h4:BP ^ i*(x+1)<=BP ^ i*y:=SN _ f;rw[Sw]at h4;omega
/-! ### Decimal texts -/
def dT (c:UInt8):Bool:=decide (48<=c.toNat/\c.toNat<=57)
def Di (a:Nat)(c:UInt8):Nat:=10*a+(c.toNat-48)
def bP (s:List UInt8):Nat:=s.foldl Di 0
def wh (s:List UInt8):Prop:=(∀ c∈s,dT c=true)/\s≠[]/\(s.head?=some 48->s.length=1)
theorem kl:∀ (s:List UInt8)(a:Nat),s.foldl Di a=a*10 ^ s.length+bP s
|[],a=>by simp[bP]
|c::s,a=>by
  have h1:=kl s (Di a c);have h2:=kl s (Di 0 c);simp only[bP,T3]at h1 h2⊢;rw[h1,h2];simp only[Di,RH,SF,S2];simp only[UZ,Nat.zero_mul,SP];rw[R8 10 a,S6,R8 10,TF]
theorem dL (c:UInt8)(s:List UInt8):bP (c::s)=(c.toNat-48)*10 ^ s.length+bP s:=by
 show s.foldl Di (Di 0 c)=_;rw[kl];simp[Di]
theorem dw (a b:List UInt8):bP (a++b)=bP a*10 ^ b.length+bP b:=by
 show(a++b).foldl Di 0=_;rw[List.foldl_append,kl];rfl
theorem dt:∀ {s:List UInt8},(∀ c∈s,dT c=true)->bP s<10 ^ s.length
|[],_=>by simp[bP]
|c::s,h=>by
  have h1:=dt (s:=s) (fun d a=>h d (by simp[a]));have h2:=h c ak;simp only[dT,Ry]at h2;rw[dL,RH,SF];have h3:(c.toNat-48)*10 ^ s.length<=9*10 ^ s.length:=Sa _ om_;omega
theorem pe {s:List UInt8}(h:wh s)(a:1<s.length):10 ^ (s.length-1)<=bP s:=by
 obtain⟨h1,h2,h3⟩:=h
 match s,h2 with
|c::s,_ =>
  have h4:=h1 c ak;simp only[dT,Ry]at h4;have h5:c≠48:=fun e=>by
   have:=h3 (by simp[e]);omega
  have b:c.toNat≠48:=fun e=>h5 (Ur.1 (by rw[e];rfl));rw[dL];simp only[RH,TH];have:1*10 ^ s.length<=(c.toNat-48)*10 ^ s.length:=Sa _ om_;omega
theorem AI:∀ {a b:List UInt8},(∀ c∈a,dT c=true)->(∀ c∈b,dT c=true)->a.length=b.length->bP a=bP b->a=b
|[],[],_,_,_,_=>rfl
|[],_::_,_,_,h,_=>by simp at h
|_::_,[],_,_,h,_=>by simp at h
|c::a,d::b,f,g,k,i=>by
  have j:a.length=b.length:=by simpa using k
  have h1:=dt (s:=a) (fun x e=>f x (by simp[e]));have h2:=dt (s:=b) (fun x e=>g x (by simp[e]));have l:=f c ak;have m:=g d ak;simp only[dT,Ry]at l m;rw[dL,dL,j]at i;rw[j]at h1;have n:c.toNat-48=d.toNat-48:=by
   have o:(bP a+10 ^ b.length*(c.toNat-48)) / 10 ^ b.length=c.toNat-48:=by
    rw[Un _ _ (T1 dc_),TZ h1,SP]
   have p:(bP b+10 ^ b.length*(d.toNat-48)) / 10 ^ b.length=d.toNat-48:=by
    rw[Un _ _ (T1 dc_),TZ h2,SP]
   rw[<- o,<- p,R8,TB,i,R8 (10 ^ b.length),TB (bP b)]
  rw[n]at i;have q:c=d:=Ur.1 om_;rw[q,AI (fun x e=>f x (by simp[e])) (fun x e=>g x (by simp[e])) j om_]
theorem rF {a b:List UInt8}(c:wh a)(d:wh b)(h:bP a=bP b):a=b:=by
 refine AI c.1 d.1 ?_ h;have e:=Sc.2 c.2.1;have f:=Sc.2 d.2.1;rcases Nat.lt_trichotomy a.length b.length with h1|h1|h1
 ·have h2:=pe d om_;have h3:=dt c.1;have h4:10 ^ a.length<=10 ^ (b.length-1):=RM dc_ om_;omega
 ·exact h1
 have h2:=pe c om_;have h3:=dt d.1;have h4:10 ^ b.length<=10 ^ (a.length-1):=RM dc_ om_;omega
end Go.Jog
namespace Go.Jog
variable {e lo:Nat}{s:List UInt8}
theorem vg {a b:List UInt8}(h:a≠[]):(a++b).head?=a.head?:=by
 cases a with
|nil=>exact absurd rfl h
|cons=>rfl
def gP (l:List Nat)(i:Nat):Nat:=l.getD i 0
theorem HT {l:List Nat}(h:DigP l)(i:Nat):gP l i<BP:=by
 unfold gP;rw[am];cases a:l[i]? with
|none=>decide
|some x=>exact h x (aU a)
theorem Mk (j:Nat):10 ^ (4*j)=BP ^ j:=by rw[Nat.pow_mul]
def gS (s:List UInt8)(lo hi:Nat):List UInt8:=(s.take hi).drop lo
theorem FL {a:List Nat}{j:Nat}(d:e+4*j=s.length)(b:a.length=j)(f:lo<=e)(h:bx a=bP (s.drop e)) :
  bx (a++[bP (gS s lo e)])=bP (s.drop lo):=by
 rw[pu,b,h];have c:s.drop lo=gS s lo e++s.drop e:=by
  unfold gS;have:s.drop lo=(s.take e++s.drop e).drop lo:=by rw[Sm]
  rw[this,List.drop_append_of_le_length (by rw[RE];omega)]
 rw[c,dw,Th,show s.length-e=4*j by omega,Mk,R8,TB]
theorem Iq (a:∀ c∈s,dT c=true)(h:e<=lo+4):bP (gS s lo e)<BP:=by
 have h1:∀ c∈gS s lo e,dT c=true:=fun c b=>a c (SD (TN b));have h2:=dt h1;have h3:(gS s lo e).length<=4:=by
  unfold gS;rw[Th,RE];omega
 have h4:10 ^ (gS s lo e).length<=10 ^ 4:=RM dc_ h3;have h5:(10:Nat) ^ 4=BP:=rfl;omega
def nh:Nat->Nat->List UInt8
|0,_=>[]
|k+1,n=>nh k (n / 10)++[UInt8.ofNat (48+n % 10)]
theorem vx {d:Nat}(h:d<10):(UInt8.ofNat (48+d)).toNat=48+d:=by rw[UInt8.toNat_ofNat'];omega
theorem kZ:∀ (k n:Nat),n<10 ^ k->(nh k n).length=k/\(∀ c∈nh k n,dT c=true)/\bP (nh k n)=n
|0,n,h=>by
  have:n=0:=by simpa using h
  subst this;exact⟨U,by simp[nh],U⟩
|k+1,n,h=>by
  obtain⟨h1,h2,h3⟩:=kZ k (n / 10) (by rw[SF]at h;exact(Tn dc_).2 h);have b:=vx (R9 n (show 0<10 by decide));refine⟨by simp[nh,h1],fun c a=>?_, ?_⟩
  ·simp only[nh,RF,RK]at a;rcases a with a|rfl
   ·exact h2 c a
   have:=R9 n (show 0<10 by decide);simp only[dT,b,Ry];omega
  simp only[nh];rw[dw,h3,dL,b];simp[bP];omega
def bk (n:Nat):List UInt8:=if n<10 then [UInt8.ofNat (48+n)] else bk (n / 10)++[UInt8.ofNat (48+n % 10)]
 termination_by n
 decreasing_by omega
theorem bl (n:Nat):wh (bk n)/\bP (bk n)=n:=by
 induction n using Nat.strongRecOn with
|ind n f =>
  rw[bk];split
  ·rename_i h;have b:=vx h;refine⟨⟨fun c a=>?_,by simp,fun _=>rfl⟩, ?_⟩
   ·rw[RK.1 a];simp only[dT,b,Ry];omega
   rw[dL,b];simp[bP]
  rename_i h;obtain⟨⟨h1,h2,h3⟩,h4⟩:=f (n / 10) om_;have b:=vx (R9 n (show 0<10 by decide));refine⟨⟨fun c a=>?_,by simp,fun e=>?_⟩, ?_⟩
  ·rcases RF.1 a with a|a
   ·exact h1 c a
   rw[RK.1 a];have:=R9 n (show 0<10 by decide);simp only[dT,b,Ry];omega
  ·exfalso;rw[vg h2]at e;have h5:=h3 e
   match hs:bk (n / 10),h2 with
  |[c],_ =>
    rw[hs]at e h4;simp at e;subst e;have:n / 10=0:=by rw[<- h4];rfl
    omega
  |c::d::s,_=>rw[hs]at h5;simp at h5
  rw[dw,h4,dL,b];simp[bP];omega
theorem pf (h:wh s):s=bk (bP s):=rF h (bl _).1 (bl _).2.symm
theorem HO {p:List Nat}{i x:Nat}(j:DigP p)(f:p[i]?=some x)(h:wh s)(k:bP s=bx (p.drop (i+1)))(l:0<bP s) :
  wh (s++nh 4 x)/\bP (s++nh 4 x)=bx (p.drop i)/\0<bP (s++nh 4 x):=by
 have m:=j x (aU f);obtain⟨h1,h2,h3⟩:=kZ 4 x m;have g:=aJ.1 f;have e:bx (p.drop i)=x+BP*bx (p.drop (i+1)):=by rw[RP g.1,g.2];rfl
 have n:bP (s++nh 4 x)=bx (p.drop i):=by
  rw[dw,h1,h3,k,e,TB,R8]
 refine⟨⟨fun c a=>?_, ?_,fun b=>?_⟩,n, ?_⟩
 ·rcases RF.1 a with a|a
  ·exact h.1 c a
  exact h2 c a
 ·intro e;exact h.2.1 (UA.1 e).1
 ·exfalso;rw[vg h.2.1]at b;have h5:=h.2.2 b
  match hs:s,h.2.1 with
 |[c],_ =>
   simp at b;subst b;have:bP ([48]:List UInt8)=0:=rfl;omega
 |c::d::s,_=>simp at h5
 rw[dw];have:0<bP s*10 ^ (nh 4 x).length:=TM l (T1 dc_);omega
end Go.Jog
namespace Go.Jog
def iU:List Int->Int
|[]=>0
|x::l=>x+10000*iU l
theorem oJ:∀ l:List Nat,iU (l.map fun(x:Nat)=>(x:Int))=(bx l:Nat)
|[]=>rfl
|x::l=>by
  simp only[R6,iU,bx,oJ l];show(x:Int)+10000*(bx l:Nat)=((x+10000*bx l:Nat):Int);omega
theorem pA:∀ (a b:List Int),iU (a++b)=iU a+(10000:Int) ^ a.length*iU b
|[],b=>by simp[iU]
|x::a,b=>by
  simp only[Tg,iU,pA a b,RH,Int.pow_succ];rw[UB,<- Int.mul_assoc,Int.mul_comm ((10000:Int) ^ a.length) 10000,Int.add_assoc]
theorem wq (a:List Int)(x:Int):iU (a++[x])=iU a+(10000:Int) ^ a.length*x:=by
 rw[pA];simp[iU]
theorem FF {l:List Int}{i:Nat}{x:Int}(h:l[i]?=some x):iU (l.take (i+1))=iU (l.take i)+(10000:Int) ^ i*x:=by
 have a:=(aJ.1 h).1;rw[RR,h];simp only[SR];rw[wq,RE,Sp om_]
theorem AU (o:Int):0<=o % 10000/\o % 10000<10000/\o=o % 10000+10000*((o-o % 10000) / 10000):=by
 refine⟨UM _ dc_,Int.emod_lt_of_pos _ dc_, ?_⟩;omega
theorem J2 (o:Int):(if Int.tmod o 10000<0 then Int.tmod o 10000+10000 else Int.tmod o 10000)=o % 10000:=by
 have h1:=UM o (show(10000:Int)≠0 by decide);have h2:=Int.emod_lt_of_pos o (show(0:Int)<10000 by decide);rcases Int.le_total 0 o with h|h
 ·rw[Int.tmod_eq_emod_of_nonneg h,aF om_]
 rw[Int.tmod_eq_emod];split <;> rename_i hh <;> omega
end Go.Jog
namespace Go.Jog
theorem Ia {t Q x:Nat}(a:0<Q):(x+BP*t) / Q=BP*(t / Q)+(x+BP*(t % Q)) / Q/\(x+BP*t) % Q=(x+BP*(t % Q)) % Q:=by
 have h1:=T4 t Q;have e:x+BP*t=Q*(BP*(t / Q))+(x+BP*(t % Q)):=by
  conv=>lhs;rw[<- h1,Sw]
  rw[UW];omega
 rw[e,Nat.mul_add_div a,Nat.mul_add_mod];exact⟨U,U⟩
theorem yB {t Q x:Nat}(a:0<Q)(b:x<BP):(x+BP*(t % Q)) / Q<BP:=by
 rw[Tn a];have h1:=R9 t a;have h2:BP*(t % Q+1)<=BP*Q:=SN _ h1;rw[Sw]at h2;omega
theorem Oo {r Q a b:Nat}(c:0<Q)(d:a<=r / Q)(e:r / Q<=b)(_f:a<b) :
  (r<Q*((a+b+1) / 2)->a<=r / Q/\r / Q<=(a+b+1) / 2-1)/\(¬ r<Q*((a+b+1) / 2)->(a+b+1) / 2<=r / Q/\r / Q<=b):=by
 constructor
 ·intro hr;have:=(Tn c).2 (by rw[R8];exact hr);omega
 intro hr;have:=(Nat.le_div_iff_mul_le c).2 (by rw[R8];exact Nat.le_of_not_lt hr);omega
theorem Qi (a b:Nat)(_c:0<b):Nat.gcd a b=Nat.gcd b (a % b):=by
 rw[Tx a b,UC b a,Tx]
end Go.Jog
