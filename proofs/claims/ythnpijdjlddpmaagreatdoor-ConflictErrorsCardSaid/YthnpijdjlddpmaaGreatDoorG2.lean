/- Laws that the proofs of this seat share, part 2. -/
import Derived.Test.YthnpijdjlddpmaaGreatDoorG1
import Derived.OpenShut
import Derived.ChangeSame
import Derived.ChangeVars
import Derived.Deep.Slices
import Derived.Deep.DeepHandedRow
import Derived.LaidLaws
import Derived.WalkKit
import Derived.ProofKit
import Derived.Shelf.Vars
import Derived.ChangeKeysEq
import Derived.MapKept
import Derived.Laws.Bits64b
namespace Go.Jog
open Go
section
variable {cx:Cx} {n:Nat} {ds:List (Option Nat)} {R:Rg n ds} {its:List It} {fr:Fr} {C:Mem} {L:List Ent} {i k d:Nat} {o:Oper} {g:GL} {v:Value}
theorem Sl.flat {C:Mem}{s:Nat}{A:Option Addr}{d c:Nat}{b:List (List Value)}(k:Sl C s (.slice A d c) b)(l:0<s)(m:b≠[]) :
  d=b.length/\∃ a,A=some a/\a.spot=none/\∀ (q:Nat)(u:Value),b.flatten[q]?=some u->CCell C (a.add q) u:=by
 obtain ⟨y,z,h1,h2,h3,h4,h5⟩:=k;cases h1
 refine ⟨Z, ?_⟩;cases b with
 | nil=>exact absurd rfl m
 | cons r rs =>
  obtain ⟨n,o,p,_⟩:=h5 0 r am;subst o;refine ⟨n,Z,p,fun q u e=>?_⟩;have t:q<(r::rs).length*s:=by rw [<- bh h4];exact (aF.1 e).1
  have f:q / s<(r::rs).length:=RF (by rw [Pe];exact t);have g:(r::rs)[q / s]?=some (r::rs)[q / s]:=ak f;have v:q % s<((r::rs)[q / s]).length:=by rw [h4 _ (Pn f)];exact Pd _ l
  have h:=ak v;have i:=getElem?_flatten_rows h4 g h;have j:q / s*s+q % s=q:=by rw [Pe];exact Ri q s
  rw [j,e] at i;obtain ⟨B,w,D,x⟩:=h5 _ _ g;cases w
  have:=x _ _ h;rw [j] at this;rw [PS i];exact this
theorem pK {P:Program}{a:Act}{o:Oper}{t:Nat}{x y:Operand}(c:o.op=.call ⟨.builtin .append,#[x,y],#[t,t]⟩){r:Value}{w b:World}(h:(Builtin.append_ #[t,t] o.type #[a.eval x,a.eval y]).run P w=.ok r b) :
  (execOp a.eval o).run P w=.ok (.value r) b:=by
 have d:execOp a.eval o=(do let dd <- resolve a.eval ⟨.builtin .append,#[x,y],#[t,t]⟩ o.type;invoke dd.target dd.args:Sem Next):=by unfold execOp;rw [c]
 rw [d];simp only [resolve,invoke,builtin,Sem.run_bind,Sem.run_pure,Result.andThen_ok,Qn,O1,Qt,h]
theorem TB {t e n0 l:Nat}{x y:Operand}{N m:TI}{p:Value}{A:Option Addr}{g f:List (List Value)}(ar:Z10 k 3 o.dst (some d) (gOn ds fr o.guard) true o.op (.call ⟨.builtin .append,#[x,y],#[t,t]⟩) (cx.T.get t) (some N) N.k (.slice e) (cx.T.get e) (some m) (Nat.beq m.size 0) false (ev fr [] x) (some (.slice A n0 l)) (ev fr [] y) (some p))(O:Sl C m.size (.slice A n0 l) g)(aa:Sl C m.size p f)(au:f=[]∨l<g.length+f.length)(Q:g.length+f.length<=maxLen)(ab:(g.length+f.length)*m.bytes<=140737488355328)(hp:∀ v,aP n ds ((d,[],v)::fr) d=true)(h:∀ z C',C.le C'->Sl C' m.size z (g++f)->D cx R its ((d,[],z)::fr) C' L):D cx R ((i,k,o)::its) fr C L:=by
 have ⟨hk,hd,hg,ac,ht,ae,he,af,hx,hy⟩:=ar;have G:cx.P.underlying t=some (.slice e):=by
  obtain ⟨kk,s1,b1,z1,g1⟩:=N;simp only at ae;subst ae;exact ci cx.hT ht
 obtain ⟨inf,H,I,ag,hz,aM⟩:=(dS cx.hT he).info;have ah:0<m.size:=Qd (fun e=>by rw [e] at af;cases af);have av:=O;obtain ⟨A1,c1,aw,ai,aN,aj,ax⟩:=av;cases aw
 have ay:=aa;obtain ⟨B,c,U,aO,aQ,ak,aR⟩:=ay;have al:Nat.ble k 1=false:=by subst hk;rfl
 by_cases J:f=[]
 ·subst J;refine SM (S:=fun z C' L'=>z=.slice A g.length l/\C'=C/\L'=L) al hd hg hp (fun a F w _ hw=>?_) (fun z C' L' V ⟨W,X,Y⟩=>?_)
  ·have hr:(Builtin.append_ #[t,t] o.type #[a.eval x,a.eval y]).run cx.P w=.ok (.slice A g.length l) w:=by
    rw [F _ _ hx,F _ _ hy,U];have an:(Builtin.firstCells m.size 0 (.slice B 0 c)).run cx.P w=.ok #[] w:=by
     cases B <;> simp [Builtin.firstCells,loadCells,loadCellsFrom]
    simp only [O4];cases A with
    | none=>simp [Builtin.append_,run_underlying G,sizeOf,typeInfo,H,I,Builtin.lenOf,an,ai]
    | some a0=>simp [Builtin.append_,run_underlying G,sizeOf,typeInfo,H,I,Builtin.lenOf,an,ai,storeCells]
   unfold Oper.wp;rw [pK ac hr];exact ⟨_,C,L,Z,Mem.le.refl _,fun h2=>by omega,hw,Z,Z,Z⟩
  subst W;subst X;subst Y;exact h _ C' V (by simpa using O)
 have az:l<g.length+f.length:=au.resolve_left J;obtain ⟨-,b0,hB, -,aA⟩:=Sl.flat (U ▸ aa) ah J;subst hB;have aS:0<f.length:=O9.2 J;have aB:=bh ak;have aC:=bh aj;refine TQ (S:=fun z b ob=>∃ (cc:Nat)(rest:Array Value),z=.slice (some ⟨b,0,none⟩) (g.length+f.length) cc/\ob=.cells (g.flatten.toArray++f.flatten.toArray++rest) e (0,0)/\g.length+f.length<=cc/\cc<=maxLen) al hd hg hp
  (fun a F w _ L1 w1 hw=>?_) (fun z b ob C' V K ⟨cc,rest,W,X,Y,e4⟩=>?_)
 ·have ao:∀ (j:Nat)(u:Value),f.flatten[j]?=some u->w.cell? (b0.add j)=some u:=fun j u E=>(aA j u E).cell hw.sep;have ap:f.flatten.length=f.length*inf.size:=by rw [aB,I]
  have aD:g.flatten.length=g.length*inf.size:=by rw [aC,I]
  refine ⟨.slice (some ⟨w.heap.size,0,none⟩) (g.length+f.length) (grownCap w (g.length+f.length) l e),_,w.drew.alloc (.cells (g.flatten.toArray++f.flatten.toArray++Builtin.zeroCells m.zv.cells (grownCap w (g.length+f.length) l e-(g.length+f.length))) e), ?_, ?_,grownCap w (g.length+f.length) l e,Builtin.zeroCells m.zv.cells (grownCap w (g.length+f.length) l e-(g.length+f.length)),Z,Z,grownCap_ge w _ _ e,grownCap_le_maxLen w _ _ e Q⟩
  ·refine pK ac ?_;rw [F _ _ hx,F _ _ hy,U];cases M:A with
   | none =>
    subst M;have aE:g=[]:=by
     cases g with
     | nil=>rfl
     | cons r rs=>obtain ⟨ad,M,_⟩:=ax 0 r am;cases M
    subst aE;have aG:l<f.length:=by simpa using az
    have hf:=run_firstCells_some (P:=cx.P) w.drew inf.size f.length b0 f.length c f.flatten ap (by simpa using ao);have hn:f.length≠0:=by omega
    have aH:¬ (9223372036854775807<(f.length:Int)):=by simp only [maxLen,O4] at Q;omega
    have aI:¬ (281474976710656<Builtin.nextslicecap f.length l*inf.bytes):=by
     have K:=ab;simp only [O4,PJ,<- ag] at K;have:=growslice_fits (need:=f.length) (bytes:=inf.bytes) (old:=l) aG K;omega
    have aJ:¬ (f.length<=l):=by omega
    simp [Builtin.append_,run_underlying G,sizeOf,typeInfo,zeroValue,H,hz,Builtin.lenOf,aJ,aH,aI,Question.forced,run_firstCells_none,hf,newRow,grownCap]
   | some a0 =>
    subst M;have hold:∀ (j:Nat)(u:Value),g.flatten[j]?=some u->w.cell? (a0.add j)=some u:=fun j u E=>by
     cases hr:g with
     | nil=>subst hr;simp at E
     | cons r rs =>
      obtain ⟨-,a1,aK, -,aL⟩:=Sl.flat O ah (by rw [hr];simp);cases aK
      exact (aL j u E).cell hw.sep
    exact run_append_grow (P:=cx.P) w t o.type e inf m.zv G H hz a0 g.length l g.flatten aD hold b0 f.length c f.flatten ap ao om_ (by simp only [maxLen] at Q;omega) (by rw [ag];exact growslice_fits om_ ab)
  exact ⟨Z,Z,Z,by simp,fun q hq=>heap_alloc_old w.drew _ hq,heap_alloc_new w.drew _,QH _⟩
 subst W;subst X;have:=Sl.ofBlock (rows:=g++f) (s:=m.size) (c:=cc) K (fun r hr=>(OJ.1 hr).elim (aj r) (ak r)) (fun j u E=>by
  have aq:=(aF.1 E).1;rw [Pg] at E aq;have e5:(g.flatten.toArray++f.flatten.toArray:Array Value)=(g.flatten++f.flatten).toArray:=by simp
  rw [e5];rw [Array.getElem?_append_left (by simpa using aq)];simpa using E) (by simpa using Y) e4
 simp only [Oy] at this;exact h _ C' V this
/-! ### Rows of the function's own that are made -/
theorem St.objArr {o:World}{p:Mem}{q:List Ent}{C:Mem}{L:List Ent}{w:World}{b e s m g:Nat}{i j:List Value}(h:St o p q C (.obj b (.cells ⟨i⟩ e (0,0))::L) w)(r:i.take (m*s)=j)(v:i.length=g*s)(t:m<=g)(z:g<=maxLen) :
  St o p q C (.arr (.slice (some ⟨b,0,none⟩) m g) e s m j::L) w:=by
 have A:w.heap[b]?=some (.cells ⟨i⟩ e (0,0)):=h.sep.e _ (aJ ..);have u:=Ps.1 h.sep.d;have l:∀ k,(Ent.arr (.slice (some ⟨b,0,none⟩) m g) e s m j).own k->k=b:=fun k f=>by simp only [Ent.own,Value.ownBlock,O0] at f;exact f.symm
 have B:m*s<=g*s:=Po _ t;refine ⟨⟨h.sep.c,fun x a=>?_,Ps.2 ⟨fun y hy k f=>u.1 y hy k (l k f),u.2⟩,fun k ⟨x,a,f⟩=>?_⟩,h.ev,h.c0,h.cn,fun k ⟨x,a,f⟩=>?_⟩
 ·rcases OE.1 a with rfl | a
  ·exact ⟨by rw [<- r,OG];omega,.inr ⟨b,g,⟨i⟩,Z,Ow _,A,t,z,by simpa using v,by simpa using r⟩⟩
  exact h.sep.e x (by simp [a])
 ·rcases OE.1 a with rfl | a
  ·exact h.sep.n k ⟨_,aJ ..,l k f⟩
  exact h.sep.n k ⟨x,by simp [a],f⟩
 rcases OE.1 a with rfl | a
 ·exact h.ln k ⟨_,aJ ..,l k f⟩
 exact h.ln k ⟨x,by simp [a],f⟩
theorem TP {e s m c:Nat}{cs f:List Value}(l:Nat.ble k 1=false)(p:o.dst=some d)(q:gOn ds fr o.guard=true)(r:∀ v,aP n ds ((d,[],v)::fr) d=true)
  (t:∀ a,GI (ev fr []) a->∀ w,(execOp a.eval o).run cx.P w=.ok (.value (.slice (some ⟨w.heap.size,0,none⟩) m c)) (w.alloc (.cells ⟨cs⟩ e))) (g:cs.take (m*s)=f) (u:cs.length=c*s) (y:m<=c) (z:c<=maxLen)
  (h:∀ b,D cx R its ((d,[],.slice (some ⟨b,0,none⟩) m c)::fr) C (.arr (.slice (some ⟨b,0,none⟩) m c) e s m f::L)):D cx R ((i,k,o)::its) fr C L :=
 SM (S:=fun v C' j=>C'=C/\∃ b,v=.slice (some ⟨b,0,none⟩) m c/\j=.arr (.slice (some ⟨b,0,none⟩) m c) e s m f::L) l p q r (fun a hs w _ hw=>by
  unfold Oper.wp;rw [t a hs w];exact ⟨_,C,.arr (.slice (some ⟨w.heap.size,0,none⟩) m c) e s m f::L,Z,Mem.le.refl _,fun _ x g=>by simp [g],St.objArr (St.alloc hw _) g u y z,Z,_,Z,Z⟩)
  (fun v C' j _ ⟨A,b,B,E⟩=>by subst A;subst B;subst E;exact h b)
theorem Te {t e g:Nat}{j:Array (Nat × Operand)}{m f:TI}(c:List (List Value))(y:Z12 (Nat.ble k 1) false o.dst (some d) (gOn ds fr o.guard) true o.op (.buildSlice t g j) (cx.T.get t) (some m) m.k (.slice e) (cx.T.get e) (some f) (rowsO (ev fr []) j.toList 0) (some c) (c.all fun r=>Nat.beq r.length f.size) true (Nat.beq j.toList.length g) true (Nat.ble (g*f.size) 16777216) true (Nat.beq f.size 0) false)(z:∀ v,aP n ds ((d,[],v)::fr) d=true)(h:∀ b,D cx R its ((d,[],.slice (some ⟨b,0,none⟩) c.length c.length)::fr) C (.arr (.slice (some ⟨b,0,none⟩) c.length c.length) e f.size c.length c.flatten::L)):D cx R ((i,k,o)::its) fr C L:=by
 have ⟨A,B,E,F,G,H,I,p,J,K,q,s⟩:=y;have l:∀ r∈c,r.length=f.size:=fun r hr=>OR (OM.1 J r hr);have u:=OR K;rw [P0] at q;have M:=(cV p l).2;have N:=bh l;have h0:0<f.size:=Qd (fun e=>by rw [e] at s;cases s);refine TP (cs:=c.flatten) A B E z (fun a hs w=>?_) (Pa om_) N (Oo _) ?_ h
 ·have O:execOp a.eval o=(do Pure.pure (.value (<- Instr.buildSlice t g (j.map fun (i,x)=>(i,a.eval x)))):Sem Next):=by unfold execOp;rw [F]
  rw [O];have P:(j.map fun (i,x)=>(i,a.eval x))=(j.toList.map fun (i,x)=>(i,a.eval x)).toArray:=by apply PW;simp
  rw [P];simp only [Sem.run_bind,eD cx.hT G H I (fun x v Q=>hs x v Q) p l u q w,Result.andThen_ok,Sem.run_pure]
 rw [M,u];have:g<=g*f.size:=Qp _ h0;simp only [maxLen];omega
def jH (z:List Value):Nat->List Value
 | 0=>[]
 | m+1=>z++jH z m
theorem cI (z:List Value):∀ m,(jH z m).length=m*z.length
 | 0=>by simp [jH]
 | m+1=>by simp [jH,cI z m,P9];omega
theorem dQ (z:List Value):∀ m,jH z m=(List.replicate m z).flatten
 | 0=>rfl
 | m+1=>by simp [jH,dQ z m,PH]
theorem yC (z:List Value):∀ (m q:Nat),q<m*z.length->(jH z m)[q]?=z[q % z.length]?
 | 0,q,h=>by simp at h
 | m+1,q,h=>by
  simp only [jH];by_cases a:q<z.length
  ·rw [Pi a,QU a]
  rw [OY om_,yC z m _ (by rw [P9] at h;omega)];congr 1;rw [Nat.mod_eq_sub_mod (by omega:z.length<=q)]
theorem EV (z:List Value)(m:Nat):madeCells ⟨z⟩ (m*z.length)=⟨jH z m⟩:=by
 apply PW;apply List.ext_getElem?;intro q;simp only [madeCells,Array.toList_map,Array.toList_range,Ou,Qj];by_cases a:q<m*z.length
 ·rw [yC z m q a,O5 a];have c:0<z.length:=by
   rcases PM z.length with h | h
   ·rw [h] at a;simp at a
   exact h
  have b:q % z.length<z.length:=Pd _ c;simp only [PY];rw [ak b];simp [b]
 rw [OD ap,OD (by rw [cI];omega)];rfl
theorem S3 {t e:Nat}{x y:Operand}{p r:IntKind}{l c:Nat}{g f:TI}(B:Z9 (Nat.ble k 1) false o.dst (some d) (gOn ds fr o.guard) true o.op (.makeSlice t x y) (cx.T.get t) (some g) g.k (.slice e) (cx.T.get e) (some f) (ev fr [] x) (some (.int p l)) (ev fr [] y) (some (.int r c)))(E:l<=c)(Y:f.bytes*c<=281474976710656)(s:c<=maxLen)(F:∀ v,aP n ds ((d,[],v)::fr) d=true)(h:∀ b,D cx R its ((d,[],.slice (some ⟨b,0,none⟩) l c)::fr) C (.arr (.slice (some ⟨b,0,none⟩) l c) e f.size l (jH (f.zero.map Zv.val) l)::L)):D cx R ((i,k,o)::its) fr C L:=by
 have ⟨G,H,I,J,K,u,z,M,hy⟩:=B;have N:cx.P.underlying t=some (.slice e):=by
  obtain ⟨Z,s1,b1,z1,g1⟩:=g;simp only at u;subst u;exact ci cx.hT K
 obtain ⟨inf,O,Q,S,U,A⟩:=(dS cx.hT z).info;have j:(f.zero.map Zv.val).length=f.size:=by
  have:=(dS cx.hT z).zsize;rw [A] at this;simpa using this
 have V:∀ m q,jH (f.zero.map Zv.val) (m+q)=jH (f.zero.map Zv.val) m++jH (f.zero.map Zv.val) q:=by
  intro m q;induction m with
  | zero=>simp [jH]
  | succ m W=>rw [show m+1+q=(m+q)+1 by omega];simp [jH,W]
 refine TP (cs:=jH (f.zero.map Zv.val) c) G H I F (fun a hs w=>?_) ?_ (by rw [cI,j]) E s h
 ·have X:execOp a.eval o=(do Pure.pure (.value (<- Instr.makeSlice t (a.eval x) (a.eval y))):Sem Next):=by unfold execOp;rw [J]
  rw [X,hs _ _ M,hs _ _ hy];have hr:=run_make (P:=cx.P) w t e inf f.zv N O U p r (l:Int) (c:Int) om_ om_ (by rw [S,<- Pj];omega) (by simp only [maxLen] at s;omega);simp only [Qk] at hr;rw [Q,<- j,A,EV] at hr;simp only [Sem.run_bind,hr,Result.andThen_ok,Sem.run_pure]
 obtain ⟨q,rfl⟩:∃ q,c=l+q:=⟨c-l,by omega⟩;rw [V];exact List.take_left' (by rw [cI,j])
/-! ### Arrays behind pointers -/
theorem qM {P:Program}{t e b c:Nat}(d:P.underlying t=some (.array b e)){f:IntKind}{m:Int}(g:0<=m)(h:m<b)(a:Addr){w:World}(i:(sizeOf e).run P w=.ok c w) :
  (Instr.indexAt t (.pointer (some a)) (.int f m)).run P w=.ok (.pointer (some (a.add (m.toNat*c)))) w:=by
 simp [Instr.indexAt,asIntOf,run_underlying d,Instr.sureAddr,i,g,h]
theorem Sw (c:Nat){t e f b l:Nat}{x y:Operand}{r:IntKind}{m:Int}{j p:TI}(s:Z9 (Nat.ble k 1) true o.dst (some d) o.op (.indexAddr t x y) (gOf ds fr o.guard) (some g) (ev fr g x) (some (.pointer (some ⟨b,l,none⟩))) (ev fr g y) (some (.int r m)) (cx.T.get t) (some j) j.k (.arr f e) (cx.T.get e) (some p))(u:GT ds fr g->0<=m/\m<f/\c=l+m.toNat*p.size)(v:Z2 (aP n ds ((d,g,.pointer (some ⟨b,c,none⟩))::fr) d) true (wfG ds fr g) true)(h:D cx R its ((d,g,.pointer (some ⟨b,c,none⟩))::fr) C L):D cx R ((i,k,o)::its) fr C L:=by
 have ⟨z,A,B,E,F,hy,G,q,H⟩:=s;have ⟨I,J⟩:=v;have K:cx.P.underlying t=some (.array f e):=by
  obtain ⟨S,U,V,W,X⟩:=j;simp only at q;subst q;exact nM cx.hT G
 refine D.run _ z A E (fun M a hs w=>?_) I J h;obtain ⟨N,O,rfl⟩:=u M;have Q:execOp a.eval o=(do Pure.pure (.value (<- Instr.indexAt t (a.eval x) (a.eval y))):Sem Next):=by unfold execOp;rw [B]
 rw [Q,hs _ _ F,hs _ _ hy];simp only [Sem.run_bind,qM K N O _ (dY cx.hT H w),Result.andThen_ok,Sem.run_pure,Addr.add_lit]
theorem TC {t e f:Nat}{x y:Operand}{H:IntKind}{m:Int}{p:Value}{q:List Value}{j b:TI}(I:Z9 (Nat.ble k 1) true o.dst (some d) o.op (.indexAddr t x y) (gOf ds fr o.guard) (some g) (ev fr g x) (some p) (ev fr g y) (some (.int H m)) (cx.T.get t) (some j) j.k (.arr f e) (cx.T.get e) (some b))(J:GT ds fr g->PtrTo C p q)(r:GT ds fr g->0<=m/\m<f)(s:∀ v,aP n ds ((d,g,v)::fr) d=true)(u:wfG ds fr g=true)(h:∀ z,(GT ds fr g->PtrTo C z ((q.drop (m.toNat*b.size)).take b.size))->D cx R its ((d,g,z)::fr) C L):D cx R ((i,k,o)::its) fr C L:=by
 have ⟨A,B,K,E,M,hy,N,F,O⟩:=I;have Q:cx.P.underlying t=some (.array f e):=by
  obtain ⟨X,Y,b1,z1,g1⟩:=j;simp only at F;subst F;exact nM cx.hT N
 by_cases c:GT ds fr g
 ·obtain ⟨S,U,V⟩:=(J c).part (m.toNat*b.size) b.size;refine SN A B E (s (.pointer (some (S.add (m.toNat*b.size))))) u (fun _ a G aa ab w hw=>?_) (h _ (fun _=>V));have W:execOp a.eval o=(do Pure.pure (.value (<- Instr.indexAt t (a.eval x) (a.eval y))):Sem Next):=by unfold execOp;rw [K]
  unfold Oper.quietAt;rw [W,G _ _ M,G _ _ hy,U];simp only [Sem.run_bind,qM Q (r c).1 (r c).2 _ (dY cx.hT O w),Result.andThen_ok,Sem.run_pure];exact ⟨Z,Z⟩
 exact SN A B E (s undef) u (fun l=>absurd l c) (h _ (fun l=>absurd l c))
/-! ### Bytes to a string -/
theorem Cd (s:List UInt8):∀ a:ByteArray,(s.map fun b=>(b.toNat:Int)).foldl (fun r n=>r.push (UInt8.ofNat n.toNat)) a=a++⟨s.toArray⟩:=by
 induction s with
 | nil =>
  intro a;apply ByteArray.ext;simp []
 | cons b s c =>
  intro a;simp only [O1,Qc];rw [c];have e:UInt8.ofNat ((b.toNat:Int)).toNat=b:=by simp
  rw [e];apply ByteArray.ext;simp [ByteArray.data_push]
theorem Tw {f g e:Nat}{x:Operand}{p:Value}{s:List UInt8}{l m q:TI}(z:Sl C 1 p (s.map fun b=>[.int .u8 b.toNat]))(O:Z11 k 2 o.dst (some d) o.op (.convert f g x) (gOn ds fr o.guard) true (ev fr [] x) (some p) (cx.T.get f) (some l) l.k (.slice e) (cx.T.get g) (some m) m.k .str (cx.T.get e) (some q) q.k (.int .u8))(Q:∀ v,aP n ds ((d,[],v)::fr) d=true)(h:D cx R its ((d,[],.string ⟨s.toArray⟩)::fr) C L):D cx R ((i,k,o)::its) fr C L :=
 have ⟨U,V,W,X,Y,aa,B,ab,E,ac,F⟩:=O;SM (S:=fun v C' G=>v=.string ⟨s.toArray⟩/\C'=C/\G=L) (by subst U;rfl) V X Q (fun a ad w _ hw=>by
  have ae:cx.P.underlying f=some (.slice e):=by
   obtain ⟨H,I,J,K,M⟩:=l;simp only at B;subst B;exact ci cx.hT aa
  have af:cx.P.underlying g=some .string:=by
   obtain ⟨H,I,J,K,M⟩:=m;simp only at E;subst E;exact nK cx.hT ab
  have ag:cx.P.underlying e=some (.int .u8):=by
   obtain ⟨H,I,J,K,M⟩:=q;simp only at F;subst F;exact nL cx.hT ac
  have ah:=z;obtain ⟨A,c,rfl,aj,ak,al,am⟩:=ah;have ai:(execOp a.eval o).run cx.P w=.ok (.value (.string ⟨s.toArray⟩)) w:=by
   have r:execOp a.eval o=(do Pure.pure (.value (<- convert f g (a.eval x))):Sem Next):=by unfold execOp;rw [W]
   rw [r,ad _ _ Y];simp only [Sem.run_bind,run_convert_bytes_string w f g e _ _ _ ae ag af];cases t:s with
   | nil =>
    subst t;cases A with
    | none=>simp [Conv.bytesToString];rfl
    | some a0 =>
     have u:(loadCells a0 0).run cx.P w=.ok (([]:List Int).map (Value.int .u8)).toArray w:=by simp [loadCells,loadCellsFrom]
     have y:=run_bytesToString (P:=cx.P) w a0 0 c [] u;simp only [Qt,O4,y,Result.andThen_ok];rfl
   | cons b bs =>
    obtain ⟨an,a0,rfl, -,N⟩:=Sl.flat z om_ (by rw [t];simp);rw [fO] at N;have u:(loadCells a0 (s.map fun b=>[Value.int .u8 b.toNat]).length).run cx.P w=.ok ((s.map fun b=>(b.toNat:Int)).map (Value.int .u8)).toArray w:=by
     have:=jL (P:=cx.P) (w:=w) (a:=a0) (cs:=s.map fun b=>Value.int .u8 b.toNat) (fun j v hj=>(N j v hj).cell hw.sep);simpa [Function.comp_def] using this
    have y:=run_bytesToString (P:=cx.P) w a0 _ c _ u;rw [<- t];simp only [y,Result.andThen_ok,Cd,Sem.run_pure];congr 3
  unfold Oper.wp;rw [ai];exact ⟨_,C,L,Z,Mem.le.refl _,fun _ _ h=>h,hw,Z,Z,Z⟩)
  (fun v C' G _ ⟨r,e2,e3⟩=>by subst r;subst e2;subst e3;exact h)
end
/-! ### Results that lie in a cell -/
section
variable {F:Fx} {k:List KI} {fr:Fr} {C:Mem} {L:List Ent}
theorem dK {w:World}{b t:Nat}{a:List Value}{e:TypeId}{f:Nat × Nat}{c:TI}{v:Value}(g:F.cx.T.get t=some c)(h:w.heap[b]?=some (.cells ⟨a⟩ e f))(i:bV c (a.take c.size)=some v):(loadVar t ⟨b,0,none⟩).run F.cx.P w=.ok v w:=by
 refine ep F.cx.hT g (cs:=a.take c.size) (fun j u d=>?_) i;rw [Addr.add_lit,cell_of_row w b (0+j) _ e f h];rw [O8] at d;split at d
 ·simpa using d
 cases d
theorem SV {r b t:Nat}{f:List Value}{j:TypeId}{k:Nat × Nat}{c:TI}{v:Value}(l:Ent.obj b (.cells ⟨f⟩ j k)∈L)(m:Z4 F.fn.results (#[.cell r t]) (ev fr [] (.tmp r)) (some (.pointer (some ⟨b,0,none⟩))) (F.cx.T.get t) (some c) (bV c (f.take c.size)) (some v))(h:F.post v C [])(g:F.ends:=by exact ⟨fun _ _ _ h=>h,rfl⟩):G F [] .ret fr C L:=have ⟨n,hr,o,q⟩:=m;fun _ a w i hw=>by
 refine g.kq ?_;have d:=bx i (fun p s=>by cases s) hr;simp only [Act.eval] at d;refine bodyPost_ret (v:=v) ?_ (i.defers.trans g.2) ⟨v,C,[],Z,St.dropAll hw,h⟩;have u:=dK (F:=F) o (hw.sep.e _ l) q;simp only [Ph] at d;simp [results,n,d,asAddr,u]
theorem Tl {r s b t:Nat}{j:List Value}{l:TypeId}{m:Nat × Nat}{c:TI}{u v:Value}(n:Ent.obj b (.cells ⟨j⟩ l m)∈L)(o:Z5 F.fn.results (#[.cell r t,.tmp s]) (ev fr [] (.tmp r)) (some (.pointer (some ⟨b,0,none⟩))) (ev fr [] (.tmp s)) (some u) (F.cx.T.get t) (some c) (bV c (j.take c.size)) (some v))(h:F.post (.tuple #[v,u]) C [])(k:F.ends:=by exact ⟨fun _ _ _ h=>h,rfl⟩):G F [] .ret fr C L:=have ⟨q,hr,hs,x,y⟩:=o;fun _ a w d hw=>by
 refine k.kq ?_;have f:=bx d (fun p g=>by cases g) hr;have i:=bx d (fun p g=>by cases g) hs;simp only [Act.eval] at f i;refine bodyPost_ret (v:=.tuple #[v,u]) ?_ (d.defers.trans k.2) ⟨_,C,[],Z,St.dropAll hw,h⟩;have z:=dK (F:=F) x (hw.sep.e _ n) y;simp only [Ph] at f i;simp [results,q,f,i,asAddr,z]
end
end Go.Jog
namespace Go.Jog
open Go
theorem dW {a:Type}(f:a->Value):∀ l:List a,(l.map fun x=>[f x]).flatten=l.map f
 | []=>rfl
 | x::l=>by simp [dW f l]
def ai (s:List UInt8):Value:=.string ⟨s.toArray⟩
def cE (c:UInt8):List UInt8->List (List UInt8)
 | []=>[[]]
 | b::s=>if b=c then []::cE c s else match cE c s with
  | []=>[[b]]
  | p::ps=>(b::p)::ps
theorem Bo (c:UInt8):∀ s,cE c s≠[]
 | []=>by simp [cE]
 | b::s=>by
  simp only [cE];split
  ·simp
  split <;> simp
theorem mB (c:UInt8):∀ s,c ∉ s->cE c s=[s]
 | [],_=>rfl
 | b::s,h=>by
  have h1:b≠c:=fun e=>h (by simp [e]);have h2:=mB c s (fun e=>h (by simp [e]));simp [cE,h1,h2]
theorem nU (c:UInt8):∀ (a post:List UInt8),c ∉ a->cE c (a++c::post)=a::cE c post
 | [],post,_=>by simp [cE]
 | b::a,post,h=>by
  have h1:b≠c:=fun e=>h (by simp [e]);have h2:=nU c a post (fun e=>h (by simp [e]));simp [cE,h1,h2]
theorem jK (c:UInt8):∀ s:List UInt8,(cE c s).length=s.count c+1
 | []=>by simp [cE]
 | b::s=>by
  have d:=jK c s;simp only [cE];by_cases a:b=c
  ·subst a;simp [d]
  rw [aA a];have e:¬ (b == c)=true:=by simpa using a
  rw [List.count_cons_of_ne a];cases h:cE c s with
  | nil=>exact absurd h (Bo c s)
  | cons p f=>rw [h] at d;simpa using d
end Go.Jog
namespace Go.Jog
open Go
section
variable {α:Type} {enc:α->List Value} {s:Nat}
theorem bQ (a:∀ x,(enc x).length=s)(l:List α):(l.map enc).flatten.length=l.length*s:=by
 have:=bh (s:=s) (rows:=l.map enc) (fun r hr=>by obtain ⟨x,_,rfl⟩:=OB.1 hr;exact a x);simpa using this
theorem cm (a:∀ x,(enc x).length=s):∀ (l:List α)(i:Nat),(l.map enc).flatten.take (i*s)=((l.take i).map enc).flatten/\(l.map enc).flatten.drop (i*s)=((l.drop i).map enc).flatten
 | [],i=>by simp
 | x::l,0=>by simp
 | x::l,i+1=>by
  obtain ⟨h1,h2⟩:=cm a l i;have e:(i+1)*s=s+i*s:=by rw [P9];omega
  have b:=a x;constructor
  ·rw [e,O1,PU,List.take_append,b,Pa om_,show s+i*s-s=i*s by omega,h1];simp
  rw [e,O1,PU,Q6,b,PI om_,show s+i*s-s=i*s by omega,h2];simp
theorem ec (a:∀ x,(enc x).length=s){l:List α}{i:Nat}{x:α}(h:l[i]?=some x):((l.map enc).flatten.drop (i*s)).take s=enc x:=by
 rw [(cm a l i).2];obtain ⟨h1,h2⟩:=aF.1 h;rw [OW h1,h2,O1,PU];rw [List.take_append,a,Pa (by rw [a];omega)];simp
theorem bJ (a:∀ x,(enc x).length=s){l:List α}{i:Nat}(x:α)(h:i<l.length):aD (l.map enc).flatten (enc x) (i*s)=((l.set i x).map enc).flatten:=by
 unfold aD;rw [a,(cm a l i).1,show i*s+s=(i+1)*s by rw [P9];omega,(cm a l (i+1)).2];rw [List.set_eq_take_append_cons_drop,aI h];simp
end
/- An element's address in a slice that begins at a known place. -/
/- A whole array, or a part of it, as a slice. -/
section
variable {cx:Cx} {n:Nat} {ds:List (Option Nat)} {R:Rg n ds} {its:List It} {fr:Fr} {C:Mem} {L:List Ent} {i k d:Nat} {o:Oper} {g:GL} {v:Value}
theorem TO (l:Nat)(h:Nat)(m:Nat){t e c f:Nat}{a:Addr}{x:Operand}{j p q:Option Operand}{s u y:Option Value}{r z:TI}(B:Z12 (Nat.ble k 1) true o.dst (some d) o.op (.slice t x j p q) (gOf ds fr o.guard) (some g) (ev fr g x) (some (.pointer (some a))) (ED (ev fr g) j) (some s) (ED (ev fr g) p) (some u) (ED (ev fr g) q) (some y) (cx.T.get t) (some r) r.k (.arr c e) (cx.T.get e) (some z) z.size f)(E:GT ds fr g->SlB c c s u y l h m)(F:Z2 (aP n ds ((d,g,.slice (some (if m=l then a else a.add (l*f))) (h-l) (m-l))::fr) d) true (wfG ds fr g) true)(G:D cx R its ((d,g,.slice (some (if m=l then a else a.add (l*f))) (h-l) (m-l))::fr) C L):D cx R ((i,k,o)::its) fr C L:=by
 have ⟨H,I,J,K,b,M,N,O,Q,A,S,U⟩:=B;have ⟨V,W⟩:=F;have X:cx.P.underlying t=some (.array c e):=by
  obtain ⟨kk,s1,b1,z1,g1⟩:=r;simp only at A;subst A;exact nM cx.hT Q
 refine D.run _ H I K (fun Y a hs w=>?_) V W G;have Z:execOp a.eval o=(do Pure.pure (.value (<- Instr.sliceAt t (a.eval x) (j.map a.eval) (p.map a.eval) (q.map a.eval))):Sem Next):=by unfold execOp;rw [J]
 rw [Z,hs _ _ b,eH (fun x v b=>hs x v b) M,eH (fun x v b=>hs x v b) N,eH (fun x v b=>hs x v b) O];have h2:=dY cx.hT S w;rw [U] at h2;simp [Instr.sliceAt,Instr.sureAddr,run_underlying X,fa (E Y),h2]
end
section
variable {cx:Cx} {n:Nat} {ds:List (Option Nat)} {R:Rg n ds} {its:List It} {fr:Fr} {C:Mem} {L:List Ent} {i k d:Nat} {o:Oper} {g:GL} {v:Value}
theorem SJ {t e l:Nat}{m:Array (Nat × Operand)}{q g:TI}(c:List (List Value))(A:Z12 (Nat.ble k 1) false o.dst (some d) (gOn ds fr o.guard) true o.op (.buildSlice t l m) (cx.T.get t) (some q) q.k (.slice e) (cx.T.get e) (some g) (rowsO (ev fr []) m.toList 0) (some c) (c.all fun r=>Nat.beq r.length g.size) true (Nat.beq m.toList.length l) true (Nat.ble (l*g.size) 16777216) true (Nat.beq g.size 0) false)(B:∀ v,aP n ds ((d,[],v)::fr) d=true)(h:∀ b C',C.le C'->Sl C' g.size (.slice (some ⟨b,0,none⟩) c.length c.length) c->D cx R its ((d,[],.slice (some ⟨b,0,none⟩) c.length c.length)::fr) C' L):D cx R ((i,k,o)::its) fr C L:=by
 have ⟨E,F,G,H,I,J,K,s,M,N,u,y⟩:=A;have p:∀ r∈c,r.length=g.size:=fun r hr=>OR (OM.1 M r hr);have z:=OR N;rw [P0] at u;have O:=(cV s p).2;refine TV (f:=fun b=>.slice (some ⟨b,0,none⟩) c.length c.length) (ob:=.cells ⟨c.flatten⟩ e) E F G B (fun a hs w=>?_) (fun b C' P Q=>?_)
 ·have S:execOp a.eval o=(do Pure.pure (.value (<- Instr.buildSlice t l (m.map fun (i,x)=>(i,a.eval x)))):Sem Next):=by unfold execOp;rw [H]
  rw [S];have U:(m.map fun (i,x)=>(i,a.eval x))=(m.toList.map fun (i,x)=>(i,a.eval x)).toArray:=by apply PW;simp
  rw [U];simp only [Sem.run_bind,eD cx.hT I J K (fun x v V=>hs x v V) s p z u w,Result.andThen_ok,Sem.run_pure]
 refine h b C' P (Sl.ofBlock Q p (fun j v W=>by simpa using W) (Oo _) ?_);rw [O,z];have h0:0<g.size:=Qd (fun e=>by rw [e] at y;cases y);have:l<=l*g.size:=Qp _ h0;simp only [maxLen];omega
theorem S8 {e f:Nat}{x:Operand}{m b:IntKind}{p c:Int}{q j:TI}(r:Z8 (Nat.ble k 1) true o.dst (some d) o.op (.convert e f x) (gOf ds fr o.guard) (some g) (ev fr g x) (some (.int m p)) (cx.T.get e) (some q) (cx.T.get f) (some j) j.k (.int b))(s:b.wrap p=c)(t:Z2 (aP n ds ((d,g,.int b c)::fr) d) true (wfG ds fr g) true)(h:D cx R its ((d,g,.int b c)::fr) C L):D cx R ((i,k,o)::its) fr C L :=
 have ⟨u,v,y,z,A,B,E,l⟩:=r;have ⟨F,G⟩:=t;D.run _ u v z (fun _ a hs w=>by
  have H:execOp a.eval o=(do Pure.pure (.value (<- convert e f (a.eval x))):Sem Next):=by unfold execOp;rw [y]
  rw [H,hs _ _ A];obtain ⟨du,h1,h2⟩:=(dS cx.hT B).und;obtain ⟨I,J,K,M,N⟩:=j;simp only at l;subst l;subst s;simp [convert,run_underlying h1,run_underlying (nL cx.hT E),Conv.intToInt]) F G h
end
theorem Sp {F:Fx}{k:List KI}{a:Fr}{C:Mem}{L L':List Ent}{e:Exit}(b:L=L')(h:G F k e a C L'):G F k e a C L:=b ▸ h
/-! ### Equal neighbours -/
end Go.Jog
namespace Go.Jog
open Go Go.RowKit Go.WideShapes Go.ChangeShapes Go.Deep
variable {W:World}{v:Value}
def mP (W:World):Mem:=fun k=>W.heap[k]?
theorem DX (W:World):Sep (mP W) [] W:=⟨fun _ _ h=>h,fun x a=>(by cases a),List.Pairwise.nil,fun k ⟨x,a,_⟩=>(by cases a)⟩
theorem AJ {a:Addr}(h:W.cell? a=some v):CCell (mP W) a v:=by
 unfold World.cell? at h;split at h
 ·rename_i c t fz b;split at h
  ·cases h
  rename_i hs;exact ⟨by simpa using hs,c,t,fz,b,h⟩
 cases h
theorem xD {P:Program}{f:FuncId}{a:List Value}(h:Gives P f a (mP W) v):Calls P f a.toArray W fun e b=>e=.returned v/\RowKit.Below W.heap.size W b :=
 (h.2 W (DX W)).mono fun e b ⟨u,C',j,c,d,g,l⟩=>⟨by rw [c,g],d.ev.below (fun k ⟨x,i,_⟩=>by cases i)⟩
theorem E0 {α:Type}{p:Nat->α->Prop}:∀ {n:Nat},(∀ i,i<n->∃ x,p i x)->∃ l:List α,l.length=n/\∀ i x,l[i]?=some x->p i x
 | 0,_=>⟨[],rfl,fun i x h=>by simp at h⟩
 | n+1,h=>by
  obtain ⟨l,h1,h2⟩:=E0 (n:=n) (fun i a=>h i om_);obtain ⟨x,b⟩:=h n om_;refine ⟨l++[x],by simp [h1],fun i y hy=>?_⟩;by_cases a:i<n
  ·rw [Pi om_] at hy;exact h2 i y hy
  rw [OY om_] at hy;have:i-l.length=0:=by
   rcases PM (i-l.length) with h0 | h0
   ·exact h0
   rw [OD ap] at hy;cases hy
  rw [this] at hy;simp only [List.getElem?_cons_zero,O0] at hy;subst hy;have c:i=n:=by omega
  subst c;exact b
section
variable {H:Type} {enc:TypeId × Value->H} {P:Program} {W:World} {spare:Nat->Bool} {held:Bool}
theorem uM {d:Type}{t e:TypeId}{k:Nat}{C:Nat}{v:Value}{x:DataW H × List MemPlace}(f:d->List Value)(E:P.underlying t=some (.slice e))(F:P.cellsOf e=k)(S:k≠0)
  (G:∀ (n:Nat)(cs:List Value)(y:DataW H × List MemPlace),cs.length=k->DataW.trod enc P W 0 spare held n e cs=some y->∃ z:d,cs=f z)
  (h:DataW.trod enc P W 0 spare held C t [v]=some x):∃ l:List d,Sl (mP W) k v (l.map f):=by
 rcases open_slice E h with ⟨h1,_⟩ | ⟨a,len,I,m,n,D,T,s,_,J,hm,K,_,w⟩
 ·simp only [Ql,Rm] at h1;subst h1;exact ⟨[],Sl.nil _ _⟩
 simp only [Ql,Rm] at s;subst s;have U:len<=m:=by rw [K];split <;> omega
 rw [F] at w;obtain ⟨l,A,o⟩:=E0 (α:=d) (n:=len) (p:=fun i z=>W.cells? 0 (a.add (i*k)) k=some (f z)) (fun i b=>by
  obtain ⟨L,h1,h2⟩:=w i om_;obtain ⟨_,h3,_⟩:=World.cells?_some h1;obtain ⟨z,rfl⟩:=G n L _ h3 h2;exact ⟨z,h1⟩)
 refine ⟨l,some a,I,by simp [A],by simp [A];exact J,hm,fun r hr=>?_,fun i r b=>?_⟩
 ·obtain ⟨z,c,rfl⟩:=OB.1 hr;obtain ⟨i,b⟩:=PQ c;exact (World.cells?_some (o i z b)).2.1
 rw [Ou] at b;cases c:l[i]? with
 | none=>rw [c] at b;cases b
 | some z =>
  rw [c] at b;simp only [PY,O0] at b;subst b;obtain ⟨_,h4,h5⟩:=World.cells?_some (o i z c);have M:∀ j u,(f z)[j]?=some u->W.cell? ((a.add (i*k)).add j)=some u:=fun j u g=>by
   have N:j<k:=by rw [<- h4];exact (aF.1 g).1
   rw [h5 j N];exact g
  have hs:a.spot=none:=by
   have h0:0<l.length:=by have:=(aF.1 c).1;omega
   obtain ⟨q,O⟩:∃ q,l[0]?=some q:=⟨l[0],ak h0⟩;obtain ⟨_,V,Q⟩:=World.cells?_some (o 0 q O);have B:=Q 0 om_;rw [ak om_] at B;have R:=(AJ B).1;simpa [Addr.add] using R
  exact ⟨a,Z,hs,fun j u g=>by
   have:=AJ (M j u g)
   rwa [tV a _ _ hs] at this⟩
theorem sL {f:Func}{s:ChangeSpec}{m y z A:Bool}{W e:World}{k:Array Value}{v:Value}{g h:List (DataW H)}{c pa pv:List MemPlace}
  (l:DataW.Whole enc P f.params.toList s.vars m W k.toList g h c)
  (n:∀ (b:Nat)(d:Nat->Bool)(B:Bool),DataW.TrodAll enc P e b d B f.resultTypes.toList (v.resultList f.resultTypes.size) (s.fn H (g++h)).results [])
  (o:∀ d:Nat->Bool,(∀ p∈c,d p.block=true)->DataW.TrodAll enc P e 0 d true f.params.toList k.toList (s.fn H (g++h)).args pa)
  (q:∀ d:Nat->Bool,(∀ p∈c,d p.block=true)->DataW.TrodVars enc P e d s.vars (s.fn H (g++h)).vars pv)
  (i:c=pa++pv) (u:RowKit.Below W.heap.size W e)
  (C:∀ (j:Nat)(t:TypeId)(r:Value),f.resultTypes[j]?=some t->(v.resultList f.resultTypes.size)[j]?=some r->Value.okWide P e .any 0 t r) :
  s.post enc P f m y z A W k v e:=by
 have w:∀ p∈c,p.block<W.heap.size:=fun p a=>l.lt p a;have hold:∀ p∈c,(fun b=>decide (b<W.heap.size)) p.block=true:=fun p a=>by simpa using w p a
 refine ⟨g,h,c,[],pa,pv,l,n _ _ _,o _ hold,q _ hold,World.keptBut_mono (fun p a=>⟨a, ?_⟩) (u.frame (·∈c)),fun _=>?_⟩
 ·rw [i,OJ] at a;exact Or.inr a
 obtain ⟨_,_,_,_,_,D,E⟩:=l;refine ⟨C,_,_,([]++pa)++pv,⟨[]++pa,pv,trodAll_append (o _ (fun _ _=>rfl)) (n _ _ _),q _ (fun _ _=>rfl),Z, ?_, ?_⟩, ?_⟩
 ·intro b off a;have x:MemPlace.cell b off∈c:=by rw [i];simpa using a
  rw [u.frozen (w _ x)];exact D b off x
 ·intro F;have:=E F;rw [i] at this;simpa using this
 intro p a _;rw [i];simpa using a
end
end Go.Jog
namespace Go.Jog
open Go
def xH (P:Program)(t:Nat):Bool:=match P.underlying t with
 | some (.array _ e)=>(match P.underlying e with | some d=>qR d | none=>false) && Nat.beq (P.cellsOf e) 1 && !(P.eqGuardType P.depth t) && (P.info? e).isSome
 | _=>false
def Oc (P:Program)(t:Nat)(xs:List Value):Bool:=match P.underlying t with
 | some (.array m e)=>Nat.beq xs.length m && xs.all (fun x=>rC (P.underlying e) x)
 | _=>false
theorem ic {P:Program}{e:TypeId}{d:TypeDesc}(m:Nat)(w:World)(c:P.underlying e=some d)(f:qR d=true):∀ {xs ys X Y:List Value}{i:Nat}{b:Bool},xs.all (fun x=>rC (P.underlying e) x)=true->jE xs ys=some b->X.drop i=xs->Y.drop i=ys ->
  (Op.eqItems (m+1) e 1 ⟨X⟩ ⟨Y⟩ (List.range' i xs.length)).run P w=.ok b w
 | [],ys,X,Y,i,b,_,a,_,_=>by
  cases ys with
  | nil=>simp [jE] at a;subst a;simp [Op.eqItems]
  | cons=>simp [jE] at a
 | x::xs,ys,X,Y,i,b,g,a,h,j=>by
  cases ys with
  | nil=>simp [jE] at a
  | cons y ys =>
   simp only [List.all_cons,OC] at g;simp only [jE] at a;split at a
   ·rename_i p q k l;cases a
    have n:X[i]?=some x:=by
     have:=congrArg (·[0]?) h;simpa using this
    have hy:Y[i]?=some y:=by
     have:=congrArg (·[0]?) j;simpa using this
    have o:X.drop (i+1)=xs:=by
     have:=congrArg (List.drop 1) h;simpa using this
    have r:Y.drop (i+1)=ys:=by
     have:=congrArg (List.drop 1) j;simpa using this
    have hr:=zg k m w g.1;have s:=ic m w c f g.2 l o r;simp only [OI,RY,Op.eqItems,Qi,Sem.run_bind,iC c f n w,iC c f hy w,hr,Result.andThen_ok];cases p
    ·simp
    simpa using s
   cases a
theorem By {P:Program}{t:Nat}(a:xH P t=true){xs ys:List Value}(c:Oc P t xs=true){b:Bool}(i:jE xs ys=some b)(w:World):(Op.equalIn 10000 t (.agg ⟨xs⟩) (.agg ⟨ys⟩)).run P w=.ok b w:=by
 unfold xH at a;unfold Oc at c;cases f:P.underlying t with
 | none=>rw [f] at a;cases a
 | some D =>
  rw [f] at a c;cases D <;> try (cases a)
  rename_i n e;simp only [OC] at a c;obtain ⟨⟨⟨h1,h2⟩,h3⟩,h4⟩:=a;have j:=OR h2;have k:=OR c.1;cases h:P.info? e with
  | none=>rw [h] at h4;cases h4
  | some inf =>
   cases g:P.underlying e with
   | none=>rw [g] at h1;cases h1
   | some d =>
    rw [g] at h1;rw [run_equalIn_array w 9999 ⟨xs⟩ ⟨ys⟩ f h,j,<- k,RG];exact ic 9998 w g h1 c.2 i Z Z
end Go.Jog
namespace Go.Jog
open Go
inductive OT where
 | fin (π:List Nat)
 | cut (π:List Nat) (t:OT)
 | alt (i:Nat) (t:OT) (r:OT)
 | stop
section
variable {P:Program} {ops:Array Oper} {ι:Type} {cls:ι->World->Prop} {le:ι->ι->Prop} {md:Region.Mode}
def DT (P:Program)(ops:Array Oper)(cls:ι->World->Prop)(le:ι->ι->Prop)(kd:Nat->Nat)(Post:Act->ι->Prop):OT->Act->ι->Prop
 | .fin π=>DU P ops cls le kd Post π
 | .cut π t=>DU P ops cls le kd (DT P ops cls le kd Post t) π
 | .alt i t r=>fun a κ=>fC P ops cls le (kd i) i (DT P ops cls le kd Post t) a κ/\DT P ops cls le kd Post r a κ
 | .stop=>fun _ _=>True
def iP:OT->List Nat
 | .alt i _ r=>i::iP r
 | _=>[]
def K5:OT->Bool
 | .fin _ | .cut _ _=>true
 | _=>false
def gG:List Nat->Array Bool->Array Bool
 | [],listed=>listed
 | i::π,listed=>gG π (listed.setIfInBounds i true)
def MA (md:Region.Mode)(ops:Array Oper)(kd:Nat->Nat):List Nat->Array Bool->Bool
 | [],_=>true
 | i::π,listed=>(bif Nat.ble (kd i) 1 then (Region.ready md ops listed).contains i && Ir md ops kd listed i else (Region.ready md ops listed == [i])) && MA md ops kd π (listed.setIfInBounds i true)
def Hg (md:Region.Mode)(ops:Array Oper)(kd:Nat->Nat):OT->Nat->Array Bool->Bool
 | .fin π,f,listed=>Nat.beq π.length f && (MA md ops kd π listed && (Region.ready md ops (gG π listed)).isEmpty)
 | .cut π t,f,listed=>Nat.blt π.length f && (MA md ops kd π listed && ((Region.ready md ops (gG π listed)).all (fun i=>(iP t).contains i) && (!(Region.ready md ops (gG π listed)).isEmpty && Hg md ops kd t (f-π.length) (gG π listed))))
 | .alt i t r,f,listed=>(Nat.blt 0 f && (K5 t && Hg md ops kd t (f-1) (listed.setIfInBounds i true))) && Hg md ops kd r f listed
 | .stop,_,_=>true
theorem eM (r:∀ a b c,le a b->le b c->le a c){k:Nat->Nat}{u K:Act->ι->Prop}(s:Region.noSelect ops=true){f:Nat} :
  ∀ (d:List Nat)(e:Array Bool)(a:Act)(κ:ι),Closed md ops e->MA md ops k d e=true->(∀ a κ,Closed md ops (gG d e)->K a κ->kB P md ops cls le k u f (gG d e) a κ) ->
   DU P ops cls le k K d a κ->kB P md ops cls le k u (d.length+f) e a κ
 | [],e,a,κ,l,_,n,h=>by
  rw [O4,PJ];exact n a κ l h
 | i::d,e,a,κ,l,w,n,h=>by
  simp only [MA,OC] at w;obtain ⟨g,x⟩:=w;rw [OI,Nat.add_right_comm];by_cases p:k i<=1
  ·have t:Nat.ble (k i) 1=true:=by rw [P0];exact p
   rw [t] at g;simp only [P6,OC,Rz] at g;obtain ⟨hr,y⟩:=g;simp only [DU] at h;unfold fC at h;cases q:ops[i]? with
   | none=>simp only [q] at h
   | some o =>
    simp only [q,p,Qa] at h;obtain ⟨v,hy,A⟩:=h;refine mq (F:=ops.size) r q p (fun j o cs b=>Region.noSelect_spec s j o cs b) (d.length+f) e a κ l (fun j I m B C=>?_) hr hy
     (eM r s d _ _ κ (l.set hr) x n A)
    simp only [Ir,q,OM,ON] at y;have:=y j (Qg.1 m).1;simp only [m,PX,PV,B,false_or,C,Pf,OC,P0] at this;rcases this with h1 | h1
    ·exact .inr h1
    exact .inl h1
  have t:Nat.ble (k i) 1=false:=by
   cases z:Nat.ble (k i) 1 with
   | false=>rfl
   | true=>exact absurd (by rw [P0] at z;exact z) p
  rw [t] at g;simp only [cond_false,PV] at g;have D:i∈Region.ready md ops e:=by rw [g];simp
  refine ⟨fun h0=>(by rw [h0] at g;cases g),fun j m=>?_⟩;rw [g] at m;obtain rfl:j=i:=by simpa using m
  exact fV (fun E G H=>eM r s d _ E G (l.set D) x n H) h
theorem fF (p:∀ a b c,le a b->le b c->le a c){q:Nat->Nat}{z:Act->ι->Prop}(s:Region.noSelect ops=true) :
  ∀ (t:OT)(f:Nat)(d:Array Bool)(a:Act)(κ:ι),Closed md ops d->Hg md ops q t f d=true->DT P ops cls le q z t a κ ->
   (match t with
    | .fin _ | .cut _ _=>kB P md ops cls le q z f d a κ
    | _=>∀ i∈iP t,i∈Region.ready md ops d->(∃ n,f=n+1/\fC P ops cls le (q i) i (kB P md ops cls le q z n (d.setIfInBounds i true)) a κ))
 | .fin g,f,d,a,κ,o,k,h=>by
  simp only [Hg,OC,QF] at k;obtain ⟨A,u,v⟩:=k;have:=OR A;have h2:=eM (f:=0) p s g d a κ o u (fun a κ _ B=>⟨v,B⟩) h;rw [Qh,this] at h2;exact h2
 | .cut g t,f,d,a,κ,o,k,h=>by
  simp only [Hg,OC,OM] at k;obtain ⟨A,u,v,C,G⟩:=k;rw [Rp] at A;have H:Region.ready md ops (gG g d)≠[]:=fun e=>by rw [e] at C;cases C
  have h2:=eM (f:=f-g.length) p s g d a κ o u (fun a κ I B=>by
   have l:=fF p s t (f-g.length) (gG g d) a κ I G B;obtain ⟨n,J⟩:∃ n,f-g.length=n+1:=⟨f-g.length-1,by omega⟩;rw [J] at l ⊢;refine ⟨fun h0=>absurd h0 H,fun i m=>?_⟩;have w:=v i m;rw [Rz] at w;cases t with
   | fin x=>simp [iP] at w
   | cut x y=>simp [iP] at w
   | stop=>simp [iP] at w
   | alt j y D =>
    obtain ⟨K,R,hs⟩:=l i w m;obtain rfl:n=K:=by omega
    exact hs) h
  rw [show g.length+(f-g.length)=f by omega] at h2;exact h2
 | .alt j t r,f,d,a,κ,o,k,h=>by
  simp only [Hg,OC] at k;obtain ⟨⟨L,E,u⟩,v⟩:=k;rw [Rp] at L;intro i m hr;simp only [iP,OE] at m;by_cases F:i=j
  ·subst F;refine ⟨f-1,by omega,fV (fun M N O=>?_) h.1⟩;have l:=fF p s t (f-1) _ M N (o.set hr) u O;cases t with
   | fin x=>exact l
   | cut x y=>exact l
   | stop=>cases E
   | alt Q y D=>cases E
  have h2:=m.resolve_left F;have l:=fF p s r f d a κ o v h.2;cases r with
  | fin x=>simp [iP] at h2
  | cut x y=>simp [iP] at h2
  | stop=>simp [iP] at h2
  | alt Q y D=>exact l i h2 hr
 | .stop,_,_,_,_,_,_,_=>by
  intro i m;simp [iP] at m
theorem pV (W:Cw P)(n:W.nd ops)(d:∀ κ,le κ κ)(o:∀ a b c,le a b->le b c->le a c){e:Nat->Nat}{f:Act->ι->Prop}{p:Nat}{Q:Exit->Act->World->Prop}{a:Act}{w:World}{κ:ι}
  (q:P.follows .mixedOrders=true) (g:cls κ { w with drawn:=w.drawn+1 }) (t:OT) (k:K5 t=true)
  (l:(Region.noSelect ops && Hg .any ops e t ops.size (Array.replicate ops.size false))=true) (h:DT P ops cls le e f t a κ)
  (m:∀ a κ w,f a κ->cls κ w->Q .normal a w):W.wp (Code.region p ops true) Q a w:=by
 simp only [OC] at l;obtain ⟨hs,s⟩:=l;refine W.any q n ?_;have h0:Closed .any ops (Array.replicate ops.size false):=fun j x _ u=>by
  rcases OZ j ops.size with h | h <;> simp [h] at u
 have:=fF o hs t ops.size _ a κ h0 s h;cases t with
 | fin v=>exact iX d m _ _ _ _ _ g this
 | cut v t=>exact iX d m _ _ _ _ _ g this
 | stop=>cases k
 | alt i t r=>cases k
end
/-! ### In the logic -/
section
variable {cx:Cx} {n:Nat} {ds:List (Option Nat)} {fr:Fr} {C:Mem} {L:List Ent}
def RgT (P:Program)(R:Rg n ds)(t:OT):Rg n ds:=⟨R.b,R.ops,R.kd,DT P R.ops R.b.cls kle R.kd R.Post t,R.hy,R.dd⟩
def DN (cx:Cx)(R:Rg n ds)(l:List Oper)(ov:List (Nat × Nat)):OT->Fr->Mem->List Ent->Prop
 | .fin π=>D cx R (gb l ov π)
 | .cut π t=>D cx (RgT cx.P R t) (gb l ov π)
 | _=>fun _ _ _=>True
def DA (cx:Cx)(R:Rg n ds)(l:List Oper)(ov:List (Nat × Nat)):OT->Fr->Mem->List Ent->Prop
 | .alt i (.fin π) r=>fun fr C L=>D cx R (gb l ov (i::π)) fr C L/\DA cx R l ov r fr C L
 | .alt i (.cut π t) r=>fun fr C L=>D cx (RgT cx.P R t) (gb l ov (i::π)) fr C L/\DA cx R l ov r fr C L
 | .stop=>fun _ _ _=>True
 | _=>fun _ _ _=>False
def Ik (m:Nat):OT->Bool
 | .fin π=>π.all (fun i=>Nat.blt i m)
 | .cut π t=>π.all (fun i=>Nat.blt i m) && Ik m t
 | .alt i t r=>Nat.blt i m && (Ik m t && Ik m r)
 | .stop=>true
theorem tk {R:Rg n ds}{l:List Oper}{a:List (Nat × Nat)}(d:∀ i,i<l.length->R.kd i=ovr a i (fI (jC l i))/\R.ops[i]?=some (jC l i)){b:List Nat}(h:b.all (fun i=>Nat.blt i l.length)=true) :
  ∀ x∈gb l a b,R.kd x.1=x.2.1/\R.ops[x.1]?=some x.2.2:=fun x e=>by
 obtain ⟨h1,h2,h3⟩:=ga e;have c:=OM.1 h x.1 h1;rw [Rp] at c;have:=d x.1 c;exact ⟨this.1.trans h2.symm,by rw [this.2,h3]⟩
theorem tZ {R:Rg n ds}{l:List Oper}{g:List (Nat × Nat)}(d:∀ i,i<l.length->R.kd i=ovr g i (fI (jC l i))/\R.ops[i]?=some (jC l i))(e:R.b.C0.le C){a:Act}(f:FrOk n ds R.dd fr a) :
  ∀ (t:OT),Ik l.length t=true->DA cx R l g t fr C L->DT cx.P R.ops R.b.cls kle R.kd R.Post t a (C,L)
 | .alt i (.fin j) r,c,h=>by
  simp only [Ik,OC] at c;have h1:=h.1 e (tk d (by simp only [List.all_cons,OC];exact ⟨c.1,c.2.1⟩)) a f;rw [dG] at h1;exact ⟨h1,tZ d e f r c.2.2 h.2⟩
 | .alt i (.cut j t) r,c,h=>by
  simp only [Ik,OC] at c;have h1:=h.1 e (tk (R:=RgT cx.P R t) d (by simp only [List.all_cons,OC];exact ⟨c.1,c.2.1.1⟩)) a f;rw [dG] at h1;exact ⟨h1,tZ d e f r c.2.2 h.2⟩
 | .stop,_,_=>trivial
 | .fin _,_,h=>h.elim
 | .cut _ _,_,h=>h.elim
 | .alt _ (.alt _ _ _) _,_,h=>h.elim
 | .alt _ .stop _,_,h=>h.elim
theorem SE {R:Rg n ds}{l:List Oper}{a:List (Nat × Nat)}{t:OT}(b:∀ i,i<l.length->R.kd i=ovr a i (fI (jC l i))/\R.ops[i]?=some (jC l i))(c:Ik l.length t=true)(h:DA cx R l a t fr C L):D cx (RgT cx.P R t) [] fr C L :=
 fun h0 _ _ d=>tZ b h0 d t c h
end
section
variable {F:Fx} {k:List KI} {fr:Fr} {C:Mem} {L:List Ent}
theorem SR {y:Nat}{l:List Oper}(t:OT)(e:List (Nat × Nat))(c:fr.all (fun x=>x.2.1.isEmpty)=true)(m:K5 t=true)
  (f:((Region.noSelect l.toArray && Hg .any l.toArray (fun i=>ovr e i (fI (jC l i))) t l.toArray.size (Array.replicate l.toArray.size false)) && Ik l.length t)=true)
  (h:∀ R:Rg F.n (l.map (·.dst)),C.le R.b.C0->(∀ fr C L,fr.all (fun x=>x.2.1.isEmpty)=true->G F (ig 64 k) .normal fr C L->D F.cx R [] fr C L) ->
   (∀ i,i<l.length->R.kd i=ovr e i (fI (jC l i))/\R.ops[i]?=some (jC l i))->DN F.cx R l e t fr C L) (z:F.W.nd l.toArray:=by first | exact trivial | exact rfl) :
  G F (.code (.region y l.toArray true)::k) .normal fr C L:=fun h0 a w d hw=>by
 simp only [Kq];rw [OC] at f
 let kd:=fun i=>ovr e i (fI (jC l i))
 let b:Bs:=⟨F.b.w0,C,F.b.L0⟩
 let Post:Act->Mem × List Ent->Prop:=fun a κ=>∀ w,b.cls κ w->Kq F k .normal a w
 let R:Rg F.n (l.map (·.dst)):=⟨b,l.toArray,kd,Post,fun tmps=>dR l tmps,F.dd⟩
 have A:∀ κ w,b.cls κ w->F.b.cls κ w:=fun κ w B=>St.unbase h0 hw.cn B;have o:∀ i,i<l.length->R.kd i=ovr e i (fI (jC l i))/\R.ops[i]?=some (jC l i):=fun i j=>⟨rfl,by
  show (l.toArray)[i]?=_;rw [Px,fg j]⟩
 have q:=h R (Mem.le.refl _) (fun fr C' L c E H _ a d w hw=>SK 64 E (h0.trans H) a w ⟨d.size,d.defers,fun s g v u=>by
  have hm:=OM.1 c _ (Fr.get_mem u);simp only [QF] at hm;subst hm;exact ⟨fun _=>(d.ent s [] v u).1 (fun p c=>by cases c),fun I=>absurd (fun p c=>by cases c) I⟩⟩ (A _ _ hw)) o
 have hT:DT F.cx.P l.toArray b.cls kle kd Post t a (C,L):=by
  cases t with
  | fin J =>
   have h1:=q (Mem.le.refl _) (tk o f.2) a (d.enter _ c);rw [dG] at h1;exact h1
  | cut J t =>
   have j:=f.2;simp only [Ik,OC] at j;have h1:=q (Mem.le.refl _) (tk (R:=RgT F.cx.P R t) o j.1) a (d.enter _ c);rw [dG] at h1;exact h1
  | stop=>cases m
  | alt i t r=>cases m
 exact pV F.W z (cls:=b.cls) (le:=kle) kle.refl kle.trans F.cx.mixed (St.rebase (St.drew hw)) t m f.1 hT (fun a κ w K hw=>K w hw)
end
end Go.Jog
namespace Go.Jog
open Go Go.MapKept
section
variable {κ β:Type} [DecidableEq κ]
def cW:List (κ × β)->κ->Option β
 | [],_=>none
 | (k',v)::m,k=>if k'=k then some v else cW m k
def fD:List (κ × β)->κ->β->List (κ × β)
 | [],k,v=>[(k,v)]
 | (k',v')::m,k,v=>if k'=k then (k,v)::m else (k',v')::fD m k v
theorem jN:∀ {m:List (κ × β)}{k:κ}{v:β},cW (fD m k v) k=some v
 | [],k,v=>by simp [fD,cW]
 | (a,b)::m,k,v=>by
  simp only [fD];split
  ·simp [cW]
  rename_i h;simp only [cW,aA h];exact jN
theorem iK:∀ {m:List (κ × β)}{k a:κ}{v:β},k≠a->cW (fD m k v) a=cW m a
 | [],k,a,v,h=>by simp [fD,cW,h]
 | (b,c)::m,k,a,v,h=>by
  simp only [fD];split
  ·rename_i e;subst e;simp [cW,h]
  simp only [cW,iK h]
theorem zQ {a:Type}(f:β->a):∀ (m:List (κ × β))(k:κ),cW (m.map fun p=>(p.1,f p.2)) k=(cW m k).map f
 | [],_=>rfl
 | (b,v)::m,k=>by
  simp only [O1,cW];split
  ·rfl
  exact zQ f m k
def jM:List (κ × β)->κ->Option (Nat × β)
 | [],_=>none
 | (k',v)::m,k=>if k'=k then some (0,v) else (jM m k).map fun p=>(p.1+1,p.2)
theorem oH:∀ (m:List (κ × β))(k:κ),(jM m k).map (·.2)=cW m k
 | [],_=>rfl
 | (a,v)::m,k=>by
  simp only [jM,cW];split
  ·rfl
  rw [<- oH m k];cases jM m k <;> rfl
end
structure KeyT (d:TypeDesc)(κ:Type)[DecidableEq κ] where
 enc:κ->Value
 isKey:∀ a,IsKey d (enc a)
 same:∀ a b,Instr.sameNow d (enc a) (enc b)=some (decide (a=b))
def bC {κ:Type}(enc:κ->Value):List (κ × Value)->Nat->List MapEntry
 | [],_=>[]
 | (k,v)::m,i=>⟨enc k,v,i⟩::bC enc m (i+1)
def aN {κ:Type}(enc:κ->Value)(m:List (κ × Value)):Obj:=.map ⟨bC enc m 0⟩ m.length
section
variable {d:TypeDesc} {κ:Type} [DecidableEq κ] (K:KeyT d κ)
theorem gR (k:κ):∀ (m:List (κ × Value))(i j:Nat),Instr.findNow d (K.enc k) (bC K.enc m i) j=some ((jM m k).map fun p=>(j+p.1,p.2))
 | [],i,j=>rfl
 | (a,v)::m,i,j=>by
  simp only [bC,Instr.findNow,K.same];by_cases h:k=a
  ·subst h;simp [jM]
  have b:¬ a=k:=fun e=>h e.symm;simp only [h,decide_false,gR k m (i+1) (j+1),jM,aA b];cases jM m k with
  | none=>rfl
  | some p=>simp;omega
theorem mG {a:Type}(b:a->Value):∀ (m:List (a × Value))(i:Nat),(bC b m i).length=m.length
 | [],_=>rfl
 | _::m,i=>by simp [bC,mG b m]
theorem rn {k:κ}{v:Value}:∀ {m:List (κ × Value)}{i:Nat},jM m k=none->bC K.enc m i++[⟨K.enc k,v,i+m.length⟩]=bC K.enc (fD m k v) i/\(fD m k v).length=m.length+1
 | [],i,_=>⟨rfl,rfl⟩
 | (d,e)::m,i,h=>by
  simp only [jM] at h;split at h
  ·cases h
  rename_i a;have b:jM m k=none:=by
   cases c:jM m k with
   | none=>rfl
   | some p=>rw [c] at h;cases h
  obtain ⟨h1,h2⟩:=rn (i:=i+1) (v:=v) b;simp only [fD,aA a,bC,PZ,OI,h2];refine ⟨?_,trivial⟩;rw [<- h1];congr 3;congr 1;omega
theorem rm {k:κ}{v:Value}:∀ {m:List (κ × Value)}{i q:Nat}{u:Value},jM m k=some (q,u)->(bC K.enc m i).modify q (fun e=>{ e with key:=K.enc k,val:=v })=bC K.enc (fD m k v) i/\(fD m k v).length=m.length/\((bC K.enc m i)[q]?).map (·.key)=some (K.enc k)
 | [],_,_,_,h=>by cases h
 | (c,d)::m,i,q,u,h=>by
  simp only [jM] at h;split at h
  ·rename_i e;subst e;cases h
   simp [bC,fD]
  rename_i b;cases a:jM m k with
  | none=>rw [a] at h;cases h
  | some p =>
   obtain ⟨f,g⟩:=p;rw [a] at h;cases h
   obtain ⟨h1,h2,h3⟩:=rm (i:=i+1) (v:=v) a;simp only [fD,aA b,bC,OI,h2,List.modify_succ_cons,h1];exact ⟨trivial,trivial,by simpa using h3⟩
end
theorem gp {T:Tab}{P:Program}(f:nP P T=true){t k e:Nat}{a:TI}(h:T.get t=some a)(c:a.k=.map k e):P.underlying t=some (.map k e):=by
 obtain ⟨i,s,b,z,g⟩:=a;simp only at c;subst c;obtain ⟨d,h1,h2⟩:=JM f h;cases d <;> simp [tkB] at h2
 rw [h1,h2.1,h2.2]
section
variable {cx:Cx} {n:Nat} {ds:List (Option Nat)} {R:Rg n ds} {its:List It} {fr:Fr} {C:Mem} {L:List Ent} {i k d:Nat} {o:Oper} {g:GL} {v:Value}
variable {kd:TypeDesc} {κ:Type} [DecidableEq κ] (K:KeyT kd κ)
theorem D.makeMap {t:Nat}(c:Nat.ble k 1=false)(e:o.dst=some d)(g:gOn ds fr o.guard=true)(j:o.op=.makeMap t none)(l:∀ v,aP n ds ((d,[],v)::fr) d=true)
  (h:∀ b,D cx R its ((d,[],.map (some b))::fr) C (.obj b (aN K.enc [])::L)):D cx R ((i,k,o)::its) fr C L :=
 Tv (f:=fun b=>.map (some b)) (ob:=aN K.enc []) c e g l (fun a _ w=>by
  have m:execOp a.eval o=(do Pure.pure (.value (<- Instr.makeMap t none)):Sem Next):=by unfold execOp;rw [j];rfl
  rw [m];rfl) h
def jZ (z:Value)(ok:Bool):Option Value->Value
 | some u=>bif ok then .tuple #[u,.bool true] else u
 | none=>bif ok then .tuple #[z,.bool false] else z
theorem Bw {P:Program}{T:Tab}(c:nP P T=true){t d e:Nat}{f g:TI}{a:Bool}(i:T.get t=some f)(j:f.k=.map d e)(h:P.underlying d=some kd)(l:T.get e=some g){w:World}{b:Nat}{m:List (κ × Value)}(n:w.heap[b]?=some (aN K.enc m))(y:κ) :
  (Instr.lookup t (.map (some b)) (K.enc y) a).run P w=.ok (jZ g.zv a (cW m y)) w:=by
 have o:=gp c i j;have q:=gR K y m 0 0;have h1:(getObj b).run P w=.ok (.map ⟨bC K.enc m 0⟩ m.length) w:=Go.MapKept.run_getObj_map n;have h2:=run_findKey (P:=P) (w:=w) h q;rw [<- oH];unfold Instr.lookup;simp only [Sem.run_bind,run_underlying o,Result.andThen_ok,h1,Sem.run_pure,run_checkKey h (K.isKey y)];rw [h2];cases jM m y with
 | none=>cases a <;> simp [jZ,sh c l w]
 | some p=>cases a <;> simp [jZ]
theorem Tn {b t j l:Nat}{x y:Operand}{c:Bool}{m:List (κ × Value)}{f:κ}{p q:TI}(s:Ent.obj b (aN K.enc m)∈L)(r:k=1)(u:o.dst=some d)(z:o.op=.lookup t x y c)(A:gOf ds fr o.guard=some g)(B:ev fr g x=some (.map (some b)))(E:ev fr g y=some (K.enc f))
  (F:cx.T.get t=some p) (G:p.k=.map j l) (H:cx.P.underlying j=some kd) (I:cx.T.get l=some q) (J:jZ q.zv c (cW m f)=v) (M:aP n ds ((d,g,v)::fr) d=true) (N:wfG ds fr g=true)
  (h:D cx R its ((d,g,v)::fr) C L):D cx R ((i,k,o)::its) fr C L :=
 SN (by subst r;rfl) u A M N (fun _ a hs V O w hw=>by
  have Q:w.heap[b]?=some (aN K.enc m):=hw.sep.e _ ((O r).2 _ s);have S:(execOp a.eval o).run cx.P w=.ok (.value v) w:=by
   have U:execOp a.eval o=(do Pure.pure (.value (<- Instr.lookup t (a.eval x) (a.eval y) c)):Sem Next):=by unfold execOp;rw [z]
   rw [U,hs _ _ B,hs _ _ E,<- J];simp only [Sem.run_bind,Bw K cx.hT F G H I Q f,Result.andThen_ok,Sem.run_pure]
  unfold Oper.quietAt;rw [S];exact ⟨Z,Z⟩) h
theorem D.mapUpdate {t l E j b:Nat}{x y z:Operand}{m:List (κ × Value)}{c:κ}{n:TI}(F:k=3)(G:gOn ds fr o.guard=true)(H:o.dst=none)(I:o.op=.mapUpdate t x y z)
  (J:ev fr [] x=some (.map (some b))) (M:ev fr [] y=some (K.enc c)) (N:ev fr [] z=some v) (O:L[j]?=some (.obj b (aN K.enc m)))
  (Q:cx.T.get t=some n) (U:n.k=.map l E) (r:cx.P.underlying l=some kd)
  (h:D cx R its fr C (.obj b (aN K.enc (fD m c v))::L.eraseIdx j)):D cx R ((i,k,o)::its) fr C L :=
 Tr (S:=fun C' L'=>C'=C/\L'=.obj b (aN K.enc (fD m c v))::L.eraseIdx j) (by subst F;rfl) G (fun a hs w _ hw=>by
  have s:=St.perm hw (aj O);have f:w.heap[b]?=some (aN K.enc m):=s.sep.e _ (aJ ..);have V:=gp cx.hT Q U;have W:=gR K c m 0 0;have h1:(getObj b).run cx.P w=.ok (.map ⟨bC K.enc m 0⟩ m.length) w:=Go.MapKept.run_getObj_map f;have h2:=run_findKey (P:=cx.P) (w:=w) r W;have X:(Instr.mapUpdate t (.map (some b)) (K.enc c) v).run cx.P w=.ok () { w with heap:=w.heap.setIfInBounds b (aN K.enc (fD m c v)) }:=by
   unfold Instr.mapUpdate;simp only [Sem.run_bind,run_underlying V,Result.andThen_ok,h1,run_checkKey r (K.isKey c)];rw [h2];cases A:jM m c with
   | none =>
    obtain ⟨h3,h4⟩:=rn K (v:=v) (i:=0) A;simp only [Option.map_none,Result.andThen_ok];rw [Go.MapKept.run_setObj_map (P:=cx.P) _ f];congr 2;simp only [aN,h4,<- h3,PJ];congr 2;apply PW;simp
   | some p =>
    obtain ⟨q,u⟩:=p;obtain ⟨h3,h4,h5⟩:=rm K (v:=v) (i:=0) A;have Y:(((⟨bC K.enc m 0⟩:Array MapEntry)[0+q]?).map (·.key)).getD (K.enc c)=K.enc c:=by
     rw [PJ];show (((bC K.enc m 0).toArray[q]?).map (·.key)).getD (K.enc c)=K.enc c;rw [Px,h5];rfl
    simp only [PY,Result.andThen_ok,Sem.run_bind];rw [Y,run_keyThatStays (d:=kd) (K.isKey c)];simp only [Result.andThen_ok];rw [Go.MapKept.run_setObj_map (P:=cx.P) _ f];congr 2;simp only [aN,h4,<- h3,PJ];congr 2;apply PW;simp
  have aa:(execOp a.eval o).run cx.P w=.ok .skip { w with heap:=w.heap.setIfInBounds b (aN K.enc (fD m c v)) }:=by
   have g:execOp a.eval o=(do Instr.mapUpdate t (a.eval x) (a.eval y) (a.eval z);Pure.pure .skip:Sem Next):=by unfold execOp;rw [I]
   rw [g,hs _ _ J,hs _ _ M,hs _ _ N];simp only [Sem.run_bind,X,Result.andThen_ok,Sem.run_pure]
  unfold Oper.wp;rw [aa];have B:=heap_set (o':=aN K.enc (fD m c v)) f;refine ⟨C,.obj b (aN K.enc (fD m c v))::L.eraseIdx j, ?_,Mem.le.refl _,fun h2=>by omega,St.put s B.1 B.2 am Z Z Z (Oo _),Z,Z⟩;rw [H];rfl)
  (fun C' L' _ ⟨g,e2⟩=>by subst g;subst e2;exact h)
end
theorem DH (a b:List UInt8):((⟨a.toArray⟩:ByteArray) == ⟨b.toArray⟩)=decide (a=b):=by
 by_cases h:a=b
 ·subst h;simp [(bytes_beq _ _).2 rfl]
 have:¬ ((⟨a.toArray⟩:ByteArray) == ⟨b.toArray⟩)=true:=fun e=>h (by
  have:=(bytes_beq _ _).1 e;have h2:=congrArg (fun x:ByteArray=>x.data.toList) this;simpa using h2)
 simp [h,Bool.eq_false_iff.2 this]
def keyS:KeyT .string (List UInt8) where
 enc s:=.string ⟨s.toArray⟩
 isKey _:=trivial
 same a b:=by simp only [Instr.sameNow,DH]
end Go.Jog
namespace Go.Jog
open Go
variable {C C0:Mem}{L L0:List Ent}{b:Nat}{ob:Obj}{w w0:World}
def Mem.unset (C:Mem)(b:Nat):Mem:=fun k=>if k=b then none else C k
theorem Mem.unset_le (C:Mem)(b:Nat):(C.unset b).le C:=fun k o h=>by
 unfold Mem.unset at h;split at h
 ·cases h
 exact h
theorem Mem.le_unset {D:Mem}(h:C.le D)(c:C b=none):C.le (D.unset b):=fun k o a=>by
 unfold Mem.unset;split
 ·rename_i e;subst e;rw [c] at a;cases a
 exact h k o a
theorem St.aside (h:St w0 C0 L0 C (.obj b ob::L) w):St w (C.set b ob) L (C.set b ob) L w :=
 (St.freeze h).2 |> fun s=>St.start s.sep
theorem St.back {f:Mem}{g:List Ent}{i:World}(h:St w0 C0 L0 C (.obj b ob::L) w)(k:St w (C.set b ob) L f g i):St w0 C0 L0 (f.unset b) (.obj b ob::g) i:=by
 have j:C b=none:=h.sep.n b ⟨_,aJ ..,rfl⟩;have l:C.le f:=(Mem.le_set j).trans k.c0;have m:St w C L (f.unset b) g i:=⟨⟨fun q o a=>k.sep.c q o (Mem.unset_le _ _ q o a),k.sep.e,k.sep.d,fun q a=>by
   have:=k.sep.n q a;unfold Mem.unset;split
   ·rfl
   ·exact this⟩,k.ev,Mem.le_unset l j,fun q o a=>by
   have p:q≠b:=fun e=>by subst e;simp [Mem.unset] at a
   rcases k.cn q o (Mem.unset_le _ _ q o a) with h1 | h1
   ·unfold Mem.set at h1;rw [aA p] at h1;exact .inl h1
   exact .inr h1,k.ln⟩
 have h2:St w0 C0 L0 C (L++[.obj b ob]) w:=St.perm h (O2 (l₁:=[Ent.obj b ob]) (l₂:=L));exact St.perm (St.call h2 m) (O2 (l₁:=g) (l₂:=[Ent.obj b ob]))
end Go.Jog
namespace Go.Jog
structure Arc3 where
 i:Nat
 lo:Nat
 up:Nat
 deriving DecidableEq,Inhabited
def Jk:Nat->List Arc3->Nat->Prop
 | u,[],v=>u=v
 | u,a::p,v=>a.lo=u/\Jk a.up p v
def In (A p:List Arc3):Prop:=∀ a∈p,a∈A
def Ol (A:List Arc3)(k u v:Nat):Prop:=∃ p,In A p/\p.length=k/\Jk u p v
end Go.Jog
namespace Go.Jog
def dAt (d:List Int)(u:Nat):Int:=d.getD u (-1)
/-! ### Relaxing -/
def fin (d:List Int):Nat:=d.countP (fun x=>decide (0<=x))
structure Ns (A:List Arc3)(to n:Nat)(d:List Int):Prop where
 len:d.length=n
 neg:∀ u,u<n->-1<=dAt d u
 small:∀ u,u<n->dAt d u<fin d
 walk:∀ u,u<n->0<=dAt d u->Ol A (dAt d u).toNat u to
 zero:dAt d to=0
/-! ### The first smallest cycle -/
def nums (p:List Arc3):List Nat:=p.map (·.i)
def NA (x y:List Nat):Prop:=∃ c b b' s s',x=c++b::s/\y=c++b'::s'/\b<b'
def above (A:List Arc3)(i:Nat):List Arc3:=A.filter fun a=>decide (i<a.i)
structure Greedy (A:List Arc3)(from_ to m:Nat)(p:List Arc3)(at_:Nat):Prop where
 inA:In A p
 chain:Jk from_ p at_
 ahead:∀ r,In A r->Jk from_ r to->r.length=m->(∃ s,r=p++s)∨NA (nums p) (nums r)
end Go.Jog
namespace Go.Jog
def Ord (A:List Arc3)(o:List Nat):Prop:=∀ pre u post,o=pre++u::post->∀ a∈A,a.up=u->a.lo∈pre
def Topo (A:List Arc3)(n:Nat)(o:List Nat):Prop:=o.length=n/\o.Nodup/\(∀ u∈o,u<n)/\Ord A o
/-! ### Taking the Fa free place, again and again -/
def cnt (A:List Arc3)(dn:List Nat)(u:Nat):Nat:=A.countP fun a=>decide (a.up=u) && !(dn.contains a.lo)
structure Kahn (A:List Arc3)(n:Nat)(dn av:List Nat):Prop where
 nodup:dn.Nodup
 below:∀ u∈dn,u<n
 ord:Ord A dn
 avnd:av.Nodup
 av:∀ u,u∈av ↔ u<n/\u ∉ dn/\cnt A dn u=0
 Fa:∀ o,Topo A n o->(∃ s,o=dn++s)∨NA dn o
end Go.Jog
namespace Go.Jog
def addW (o:Nat)(self:Bool)(x:Nat):Nat:=max (if self=true then max x 1 else x) (if 0<o then min 8 (o+1) else 0)
def rowT (f:Nat->Nat->Nat)(c v:Nat):List Arc3->Nat->Nat
 | [],x=>x
 | a::l,x=>rowT f c v l (if a.up=v then addW (f c a.lo) (decide (c=a.lo)) x else x)
def tab (A:List Arc3):Nat->Nat->Nat->Nat
 | 0,_,_=>0
 | k+1,c,v=>rowT (tab A k) c v A (tab A k c v)
end Go.Jog
namespace Go.Jog
open Go
def I8 (a b:Nat):Nat:=a &&& (18446744073709551616-(b+1))
section
variable {cx:Cx} {n:Nat} {ds:List (Option Nat)} {R:Rg n ds} {its:List It} {fr:Fr} {C:Mem} {L:List Ent} {i k d:Nat} {o:Oper} {g:GL}
theorem kO {a:Nat}(b:a<18446744073709551616):(BitVec.ofInt 64 (a:Int)).toNat=a:=by
 rw [BitVec.ofInt_natCast,BitVec.toNat_ofNat];exact QU om_
theorem Tf (a:Nat)(b:Nat){t c:Nat}{x y:Operand}{p q:Int}(f:Z8 (Nat.ble k 1) true o.dst (some d) o.op (.binOp .and t x y c) (gOf ds fr o.guard) (some g) (ev fr g x) (some (.int .u64 p)) (ev fr g y) (some (.int .u64 q)) p a q b)(j:a<18446744073709551616)(l:b<18446744073709551616)(m:Z2 (aP n ds ((d,g,.int .u64 ((a &&& b:Nat):Int))::fr) d) true (wfG ds fr g) true)(h:D cx R its ((d,g,.int .u64 ((a &&& b:Nat):Int))::fr) C L):D cx R ((i,k,o)::its) fr C L :=
 have ⟨r,s,u,v,z,hy,B,E⟩:=f;have ⟨F,G⟩:=m;D.run _ r s v (fun _ A hs w=>by
  subst B E;rw [bY u (hs _ _ z) (hs _ _ hy) (fun _ _=>.inl am) (.inl am) w];have e:IntKind.u64.wrap ((BitVec.ofInt 64 (a:Int) &&& BitVec.ofInt 64 (b:Int)).toNat:Int)=((a &&& b:Nat):Int):=bits_and_u64_nat a b j l;simp [binOp,Op.intBits,IntKind.bits];exact e) F G h
theorem pF (a b:Nat)(c:a<18446744073709551616)(d:b<18446744073709551616):IntKind.u64.wrap ((BitVec.ofInt 64 (a:Int) &&& ~~~ BitVec.ofInt 64 (b:Int)).toNat:Int)=((I8 a b:Nat):Int):=by
 have f:I8 a b<2 ^ 64:=Nat.and_lt_two_pow _ om_;rw [BitVec.toNat_and,BitVec.toNat_not,kO c,kO d,IntKind.wrap_u64];have e:2 ^ 64-1-b=18446744073709551616-(b+1):=by omega
 rw [e];show ((I8 a b:Nat):Int) % _=_;omega
theorem Ur (a b:Nat){t c:Nat}{x y:Operand}{p q:Int}(f:Nat.ble k 1=true)(j:o.dst=some d)(l:o.op=.binOp .andNot t x y c)(m:gOf ds fr o.guard=some g)(r:ev fr g x=some (.int .u64 p))(s:ev fr g y=some (.int .u64 q))
  (u:p=a) (v:q=b) (z:a<18446744073709551616) (B:b<18446744073709551616) (E:aP n ds ((d,g,.int .u64 ((I8 a b:Nat):Int))::fr) d=true) (F:wfG ds fr g=true)
  (h:D cx R its ((d,g,.int .u64 ((I8 a b:Nat):Int))::fr) C L):D cx R ((i,k,o)::its) fr C L :=
 D.run _ f j m (fun _ A hs w=>by
  subst u v;rw [bY l (hs _ _ r) (hs _ _ s) (fun _ _=>.inl am) (.inl am) w];have e:=pF a b z B;simp [binOp,Op.intBits,IntKind.bits];exact e) E F h
theorem TR (m:Nat){a c:IntKind}{t f:Nat}{x y:Operand}{q:Int}(j:Nat.ble k 1=true)(l:o.dst=some d)(p:o.op=.binOp .shl t x y f)(r:gOf ds fr o.guard=some g)(s:ev fr g x=some (.int a 1))(u:ev fr g y=some (.int c q))
  (b:a=.u64∨a=.i64) (v:q=m) (z:m<=62) (B:aP n ds ((d,g,.int a ((2 ^ m:Nat):Int))::fr) d=true) (E:wfG ds fr g=true)
  (h:D cx R its ((d,g,.int a ((2 ^ m:Nat):Int))::fr) C L):D cx R ((i,k,o)::its) fr C L :=
 D.run _ j l r (fun _ A hs w=>by
  subst v;rw [bY p (hs _ _ s) (hs _ _ u) (fun _ _=>.inl am) (.inl am) w];have h0:¬ ((m:Int)<0):=by omega
  have F:a.bits=64:=by rcases b with rfl | rfl <;> rfl
  have G:Min.min m 64=m:=by omega
  have H:2 ^ m<=2 ^ 62:=OO dc_ z;have e:a.wrap (1*2 ^ m)=((2 ^ m:Nat):Int):=by
   have I:(1:Int)*2 ^ m=((2 ^ m:Nat):Int):=by rw [Int.one_mul];norm_cast
   rw [I];have J:2 ^ m<=4611686018427387904:=H;generalize 2 ^ m=P at J;rcases b with rfl | rfl
   ·rw [IntKind.wrap_u64];omega
   exact wrap_i64 om_ om_
  simp only [binOp,Op.shift,h0,PG,Qk,F,G,Sem.run_pure,Result.andThen_ok];rw [e]) B E h
end
end Go.Jog
namespace Go.Jog
open Go
section
variable {cx:Cx} {n:Nat} {ds:List (Option Nat)} {R:Rg n ds} {its:List It} {fr:Fr} {C:Mem} {L:List Ent} {i k d:Nat} {o:Oper} {g:GL}
theorem Gn (a b:Nat)(c:a<9223372036854775808):a &&& b<9223372036854775808:=Pk Nat.and_le_left c
theorem Uz (a b:Nat){t c:Nat}{x y:Operand}{p q:Int}(f:Nat.ble k 1=true)(j:o.dst=some d)(l:o.op=.binOp .and t x y c)(m:gOf ds fr o.guard=some g)(r:ev fr g x=some (.int .i64 p))(s:ev fr g y=some (.int .i64 q))
  (u:p=a) (v:q=b) (z:a<9223372036854775808) (F:b<9223372036854775808) (B:aP n ds ((d,g,.int .i64 ((a &&& b:Nat):Int))::fr) d=true) (E:wfG ds fr g=true)
  (h:D cx R its ((d,g,.int .i64 ((a &&& b:Nat):Int))::fr) C L):D cx R ((i,k,o)::its) fr C L :=
 D.run _ f j m (fun _ A hs w=>by
  subst u v;rw [bY l (hs _ _ r) (hs _ _ s) (fun _ _=>.inl am) (.inl am) w];have e:IntKind.i64.wrap ((BitVec.ofInt 64 (a:Int) &&& BitVec.ofInt 64 (b:Int)).toNat:Int)=((a &&& b:Nat):Int):=by
   rw [BitVec.toNat_and,kO om_,kO om_];have:=Gn a b z;exact wrap_i64 om_ om_
  simp [binOp,Op.intBits,IntKind.bits];exact e) B E h
end
end Go.Jog
namespace Go.Jog
variable {a b:List Nat}{i:Nat}{l:List Nat}{x:Nat}
abbrev BP:Nat:=10000
def bI:List Nat->Nat
 | []=>0
 | x::l=>x+BP*bI l
def DigP (l:List Nat):Prop:=∀ x∈l,x<BP
def Be (l:List Nat):Prop:=DigP l/\l.getLast?≠some 0
theorem gn:∀ (a b:List Nat),bI (a++b)=bI a+BP ^ a.length*bI b
 | [],b=>by simp [bI]
 | x::a,b=>by
  simp only [PZ,bI,gn a b,OI,PE];rw [PC,<- QD,Pe (BP ^ a.length) BP,Ra]
theorem nH (a:List Nat)(x:Nat):bI (a++[x])=bI a+BP ^ a.length*x:=by
 rw [gn];simp [bI]
theorem lI:∀ {l:List Nat},DigP l->bI l<BP ^ l.length
 | [],_=>by simp [bI]
 | x::l,h=>by
  have h1:=h x am;have h2:=lI (l:=l) (fun y hy=>h y (by simp [hy]));simp only [bI,OI,PE];have h3:BP*(bI l+1)<=BP*BP ^ l.length:=PO _ h2;rw [Pe (BP ^ l.length) BP];rw [PC] at h3;omega
theorem iv (h:l[i]?=some x):bI (l.take (i+1))=bI (l.take i)+BP ^ i*x:=by
 have a:=(aF.1 h).1;rw [OS,h];simp only [PF];rw [nH,OG,PK om_]
theorem DigP.take {l:List Nat}(h:DigP l)(i:Nat):DigP (l.take i):=fun x a=>h x (Pw a)
theorem DigP.snoc (h:DigP l)(a:x<BP):DigP (l++[x]):=fun y hy=>by
 rcases OJ.1 hy with hy | hy
 ·exact h y hy
 rw [OP.1 hy];exact a
def Ct (l:List Nat):Nat->Nat
 | 0=>0
 | k+1=>if l[k]?=some 0 then Ct l k else k+1
def vY (l:List Nat):List Nat:=l.take (Ct l l.length)
theorem pn (l:List Nat):∀ k,k<=l.length->(l.take (Ct l k)).getLast?≠some 0/\bI (l.take (Ct l k))=bI (l.take k)
 | 0,_=>by simp [Ct]
 | k+1,b=>by
  rw [Ct];obtain ⟨x,a⟩:∃ x,l[k]?=some x:=⟨l[k],ak om_⟩;split
  ·rename_i h;obtain ⟨h1,h2⟩:=pn l k om_;refine ⟨h1, ?_⟩;rw [h2,iv h];simp
  rename_i h;refine ⟨?_,Z⟩;rw [OS,a];simp only [PF,List.getLast?_append,List.getLast?_singleton];intro e;rw [a] at h;simp at e;exact h (by rw [e])
theorem gU (l:List Nat):bI (vY l)=bI l:=by
 have:=(pn l l.length (Oo _)).2;rw [OH] at this;exact this
theorem lu (h:DigP l):Be (vY l):=⟨h.take _,(pn l l.length (Oo _)).1⟩
theorem tR (h:Be l)(b:0<l.length):BP ^ (l.length-1)<=bI l:=by
 obtain ⟨x,a⟩:∃ x,l[l.length-1]?=some x:=⟨l[l.length-1]'om_,ak om_⟩;have h1:=iv a;rw [show l.length-1+1=l.length by omega,OH] at h1;have c:x≠0:=fun e=>h.2 (by rw [Qx,a,e]);rw [h1];have:BP ^ (l.length-1)*1<=BP ^ (l.length-1)*x:=PO _ om_;omega
theorem AK (h:Be l):bI l=0 ↔ l=[]:=by
 constructor
 ·intro e;apply O3;intro a;have:=tR h (O9.2 a);rw [e] at this;have b:0<BP ^ (l.length-1):=QI dc_;omega
 rintro rfl;rfl
theorem E4 (c:DigP a)(d:Be b)(h:a.length<b.length):bI a<bI b:=by
 have h1:=lI c;have h2:=tR d om_;have h3:BP ^ a.length<=BP ^ (b.length-1):=OO dc_ om_;omega
theorem J3 {y:Nat}(e:DigP a)(l:a.length=b.length)(c:a[i]?=some x)(d:b[i]?=some y)(f:x<y)(g:a.drop (i+1)=b.drop (i+1)):bI a<bI b:=by
 have h:bI a=bI (a.take (i+1))+BP ^ (i+1)*bI (a.drop (i+1)):=by
  have j:=(aF.1 c).1
  conv=>lhs;rw [<- Pq (i+1) a]
  rw [gn,OG,PK om_]
 have k:bI b=bI (b.take (i+1))+BP ^ (i+1)*bI (b.drop (i+1)):=by
  have j:=(aF.1 d).1
  conv=>lhs;rw [<- Pq (i+1) b]
  rw [gn,OG,PK om_]
 rw [h,k,g,iv c,iv d];have h1:=lI (e.take i);have h2:(a.take i).length<=i:=by rw [OG];omega
 have h3:BP ^ (a.take i).length<=BP ^ i:=OO dc_ h2;have h4:BP ^ i*(x+1)<=BP ^ i*y:=PO _ f;rw [PC] at h4;omega
/-! ### Decimal texts -/
def eB (c:UInt8):Bool:=decide (48<=c.toNat/\c.toNat<=57)
def AC (a:Nat)(c:UInt8):Nat:=10*a+(c.toNat-48)
def bS (s:List UInt8):Nat:=s.foldl AC 0
def uj (s:List UInt8):Prop:=(∀ c∈s,eB c=true)/\s≠[]/\(s.head?=some 48->s.length=1)
theorem js:∀ (s:List UInt8)(a:Nat),s.foldl AC a=a*10 ^ s.length+bS s
 | [],a=>by simp [bS]
 | c::s,a=>by
  have h1:=js s (AC a c);have h2:=js s (AC 0 c);simp only [bS,Qc] at h1 h2 ⊢;rw [h1,h2];simp only [AC,OI,PE,P9];simp only [Nat.mul_zero,Nat.zero_mul,PJ];rw [Pe 10 a,QD,Pe 10,Ra]
theorem dm (c:UInt8)(s:List UInt8):bS (c::s)=(c.toNat-48)*10 ^ s.length+bS s:=by
 show s.foldl AC (AC 0 c)=_;rw [js];simp [AC]
theorem cS (a b:List UInt8):bS (a++b)=bS a*10 ^ b.length+bS b:=by
 show (a++b).foldl AC 0=_;rw [List.foldl_append,js];rfl
theorem dE:∀ {s:List UInt8},(∀ c∈s,eB c=true)->bS s<10 ^ s.length
 | [],_=>by simp [bS]
 | c::s,h=>by
  have h1:=dE (s:=s) (fun d a=>h d (by simp [a]));have h2:=h c am;simp only [eB,Oz] at h2;rw [dm,OI,PE];have h3:(c.toNat-48)*10 ^ s.length<=9*10 ^ s.length:=Po _ om_;omega
theorem nu {s:List UInt8}(h:uj s)(a:1<s.length):10 ^ (s.length-1)<=bS s:=by
 obtain ⟨h1,h2,h3⟩:=h
 match s,h2 with
 | c::s,_ =>
  have h4:=h1 c am;simp only [eB,Oz] at h4;have h5:c≠48:=fun e=>by
   have:=h3 (by simp [e]);omega
  have b:c.toNat≠48:=fun e=>h5 (RH.1 (by rw [e];rfl));rw [dm];simp only [OI,Qw];have:1*10 ^ s.length<=(c.toNat-48)*10 ^ s.length:=Po _ om_;omega
theorem xT:∀ {a b:List UInt8},(∀ c∈a,eB c=true)->(∀ c∈b,eB c=true)->a.length=b.length->bS a=bS b->a=b
 | [],[],_,_,_,_=>rfl
 | [],_::_,_,_,h,_=>by simp at h
 | _::_,[],_,_,h,_=>by simp at h
 | c::a,d::b,f,g,k,i=>by
  have j:a.length=b.length:=by simpa using k
  have h1:=dE (s:=a) (fun x e=>f x (by simp [e]));have h2:=dE (s:=b) (fun x e=>g x (by simp [e]));have l:=f c am;have m:=g d am;simp only [eB,Oz] at l m;rw [dm,dm,j] at i;rw [j] at h1;have n:c.toNat-48=d.toNat-48:=by
   have o:(bS a+10 ^ b.length*(c.toNat-48)) / 10 ^ b.length=c.toNat-48:=by
    rw [Q8 _ _ (QI dc_),QG h1,PJ]
   have p:(bS b+10 ^ b.length*(d.toNat-48)) / 10 ^ b.length=d.toNat-48:=by
    rw [Q8 _ _ (QI dc_),QG h2,PJ]
   rw [<- o,<- p,Pe,QJ,i,Pe (10 ^ b.length),QJ (bS b)]
  rw [n] at i;have q:c=d:=RH.1 om_;rw [q,xT (fun x e=>f x (by simp [e])) (fun x e=>g x (by simp [e])) j om_]
theorem pA {a b:List UInt8}(c:uj a)(d:uj b)(h:bS a=bS b):a=b:=by
 refine xT c.1 d.1 ?_ h;have e:=O9.2 c.2.1;have f:=O9.2 d.2.1;rcases Nat.lt_trichotomy a.length b.length with h1 | h1 | h1
 ·have h2:=nu d om_;have h3:=dE c.1;have h4:10 ^ a.length<=10 ^ (b.length-1):=OO dc_ om_;omega
 ·exact h1
 have h2:=nu c om_;have h3:=dE d.1;have h4:10 ^ b.length<=10 ^ (a.length-1):=OO dc_ om_;omega
end Go.Jog
namespace Go.Jog
variable {e lo:Nat}{s:List UInt8}
theorem tm {a b:List UInt8}(h:a≠[]):(a++b).head?=a.head?:=by
 cases a with
 | nil=>exact absurd rfl h
 | cons=>rfl
def gP (l:List Nat)(i:Nat):Nat:=l.getD i 0
theorem Ft {l:List Nat}(h:DigP l)(i:Nat):gP l i<BP:=by
 unfold gP;rw [ax];cases a:l[i]? with
 | none=>decide
 | some x=>exact h x (Oq a)
theorem JB (j:Nat):10 ^ (4*j)=BP ^ j:=by rw [Nat.pow_mul]
def gi (s:List UInt8)(lo hi:Nat):List UInt8:=(s.take hi).drop lo
theorem Dz {a:List Nat}{j:Nat}(d:e+4*j=s.length)(b:a.length=j)(f:lo<=e)(h:bI a=bS (s.drop e)) :
  bI (a++[bS (gi s lo e)])=bS (s.drop lo):=by
 rw [nH,b,h];have c:s.drop lo=gi s lo e++s.drop e:=by
  unfold gi;have:s.drop lo=(s.take e++s.drop e).drop lo:=by rw [Pq]
  rw [this,List.drop_append_of_le_length (by rw [OG];omega)]
 rw [c,cS,Qv,show s.length-e=4*j by omega,JB,Pe,QJ]
theorem FZ (a:∀ c∈s,eB c=true)(h:e<=lo+4):bS (gi s lo e)<BP:=by
 have h1:∀ c∈gi s lo e,eB c=true:=fun c b=>a c (Pw (Q7 b));have h2:=dE h1;have h3:(gi s lo e).length<=4:=by
  unfold gi;rw [Qv,OG];omega
 have h4:10 ^ (gi s lo e).length<=10 ^ 4:=OO dc_ h3;have h5:(10:Nat) ^ 4=BP:=rfl;omega
def lG:Nat->Nat->List UInt8
 | 0,_=>[]
 | k+1,n=>lG k (n / 10)++[UInt8.ofNat (48+n % 10)]
theorem tC {d:Nat}(h:d<10):(UInt8.ofNat (48+d)).toNat=48+d:=by rw [UInt8.toNat_ofNat'];omega
theorem jY:∀ (k n:Nat),n<10 ^ k->(lG k n).length=k/\(∀ c∈lG k n,eB c=true)/\bS (lG k n)=n
 | 0,n,h=>by
  have:n=0:=by simpa using h
  subst this;exact ⟨Z,by simp [lG],Z⟩
 | k+1,n,h=>by
  obtain ⟨h1,h2,h3⟩:=jY k (n / 10) (by rw [PE] at h;exact (Qm dc_).2 h);have b:=tC (Pd n (show 0<10 by decide));refine ⟨by simp [lG,h1],fun c a=>?_, ?_⟩
  ·simp only [lG,OJ,OP] at a;rcases a with a | rfl
   ·exact h2 c a
   have:=Pd n (show 0<10 by decide);simp only [eB,b,Oz];omega
  simp only [lG];rw [cS,h3,dm,b];simp [bS];omega
def bj (n:Nat):List UInt8:=if n<10 then [UInt8.ofNat (48+n)] else bj (n / 10)++[UInt8.ofNat (48+n % 10)]
 termination_by n
 decreasing_by omega
theorem bA (n:Nat):uj (bj n)/\bS (bj n)=n:=by
 induction n using Nat.strongRecOn with
 | ind n f =>
  rw [bj];split
  ·rename_i h;have b:=tC h;refine ⟨⟨fun c a=>?_,by simp,fun _=>rfl⟩, ?_⟩
   ·rw [OP.1 a];simp only [eB,b,Oz];omega
   rw [dm,b];simp [bS]
  rename_i h;obtain ⟨⟨h1,h2,h3⟩,h4⟩:=f (n / 10) om_;have b:=tC (Pd n (show 0<10 by decide));refine ⟨⟨fun c a=>?_,by simp,fun e=>?_⟩, ?_⟩
  ·rcases OJ.1 a with a | a
   ·exact h1 c a
   rw [OP.1 a];have:=Pd n (show 0<10 by decide);simp only [eB,b,Oz];omega
  ·exfalso;rw [tm h2] at e;have h5:=h3 e
   match hs:bj (n / 10),h2 with
   | [c],_ =>
    rw [hs] at e h4;simp at e;subst e;have:n / 10=0:=by rw [<- h4];rfl
    omega
   | c::d::s,_=>rw [hs] at h5;simp at h5
  rw [cS,h4,dm,b];simp [bS];omega
theorem nv (h:uj s):s=bj (bS s):=pA h (bA _).1 (bA _).2.symm
theorem Fp {p:List Nat}{i x:Nat}(j:DigP p)(f:p[i]?=some x)(h:uj s)(k:bS s=bI (p.drop (i+1)))(l:0<bS s) :
  uj (s++lG 4 x)/\bS (s++lG 4 x)=bI (p.drop i)/\0<bS (s++lG 4 x):=by
 have m:=j x (Oq f);obtain ⟨h1,h2,h3⟩:=jY 4 x m;have g:=aF.1 f;have e:bI (p.drop i)=x+BP*bI (p.drop (i+1)):=by rw [OW g.1,g.2];rfl
 have n:bS (s++lG 4 x)=bI (p.drop i):=by
  rw [cS,h1,h3,k,e,QJ,Pe]
 refine ⟨⟨fun c a=>?_, ?_,fun b=>?_⟩,n, ?_⟩
 ·rcases OJ.1 a with a | a
  ·exact h.1 c a
  exact h2 c a
 ·intro e;exact h.2.1 (Rv.1 e).1
 ·exfalso;rw [tm h.2.1] at b;have h5:=h.2.2 b
  match hs:s,h.2.1 with
  | [c],_ =>
   simp at b;subst b;have:bS ([48]:List UInt8)=0:=rfl;omega
  | c::d::s,_=>simp at h5
 rw [cS];have:0<bS s*10 ^ (lG 4 x).length:=QR l (QI dc_);omega
end Go.Jog
namespace Go.Jog
def iw:List Int->Int
 | []=>0
 | x::l=>x+10000*iw l
theorem yM:∀ l:List Nat,iw (l.map fun (x:Nat)=>(x:Int))=(bI l:Nat)
 | []=>rfl
 | x::l=>by
  simp only [O1,iw,bI,yM l];show (x:Int)+10000*(bI l:Nat)=((x+10000*bI l:Nat):Int);omega
theorem nI:∀ (a b:List Int),iw (a++b)=iw a+(10000:Int) ^ a.length*iw b
 | [],b=>by simp [iw]
 | x::a,b=>by
  simp only [PZ,iw,nI a b,OI,Int.pow_succ];rw [Rw,<- Int.mul_assoc,Int.mul_comm ((10000:Int) ^ a.length) 10000,Int.add_assoc]
theorem ut (a:List Int)(x:Int):iw (a++[x])=iw a+(10000:Int) ^ a.length*x:=by
 rw [nI];simp [iw]
theorem Dq {l:List Int}{i:Nat}{x:Int}(h:l[i]?=some x):iw (l.take (i+1))=iw (l.take i)+(10000:Int) ^ i*x:=by
 have a:=(aF.1 h).1;rw [OS,h];simp only [PF];rw [ut,OG,PK om_]
theorem yf (o:Int):0<=o % 10000/\o % 10000<10000/\o=o % 10000+10000*((o-o % 10000) / 10000):=by
 refine ⟨RI _ dc_,Int.emod_lt_of_pos _ dc_, ?_⟩;omega
theorem Hx (o:Int):(if Int.tmod o 10000<0 then Int.tmod o 10000+10000 else Int.tmod o 10000)=o % 10000:=by
 have h1:=RI o (show (10000:Int)≠0 by decide);have h2:=Int.emod_lt_of_pos o (show (0:Int)<10000 by decide);rcases Int.le_total 0 o with h | h
 ·rw [Int.tmod_eq_emod_of_nonneg h,aA om_]
 rw [Int.tmod_eq_emod];split <;> rename_i a <;> omega
end Go.Jog
namespace Go.Jog
theorem FJ {t Q x:Nat}(a:0<Q):(x+BP*t) / Q=BP*(t / Q)+(x+BP*(t % Q)) / Q/\(x+BP*t) % Q=(x+BP*(t % Q)) % Q:=by
 have h1:=Ri t Q;have e:x+BP*t=Q*(BP*(t / Q))+(x+BP*(t % Q)):=by
  conv=>lhs;rw [<- h1,PC]
  rw [RX];omega
 rw [e,Nat.mul_add_div a,Nat.mul_add_mod];exact ⟨Z,Z⟩
theorem vV {t Q x:Nat}(a:0<Q)(b:x<BP):(x+BP*(t % Q)) / Q<BP:=by
 rw [Qm a];have h1:=Pd t a;have h2:BP*(t % Q+1)<=BP*Q:=PO _ h1;rw [PC] at h2;omega
theorem Ll {r Q a b:Nat}(c:0<Q)(d:a<=r / Q)(e:r / Q<=b)(_f:a<b) :
  (r<Q*((a+b+1) / 2)->a<=r / Q/\r / Q<=(a+b+1) / 2-1)/\(¬ r<Q*((a+b+1) / 2)->(a+b+1) / 2<=r / Q/\r / Q<=b):=by
 constructor
 ·intro hr;have:=(Qm c).2 (by rw [Pe];exact hr);omega
 intro hr;have:=(Nat.le_div_iff_mul_le c).2 (by rw [Pe];exact Nat.le_of_not_lt hr);omega
theorem Nh (a b:Nat)(_c:0<b):Nat.gcd a b=Nat.gcd b (a % b):=by
 rw [Qy a b,RS b a,Qy]
end Go.Jog
namespace Go.Jog
open Go
section
variable {cx:Cx} {n:Nat} {ds:List (Option Nat)} {R:Rg n ds} {its:List It} {fr:Fr} {C:Mem} {L:List Ent} {i k d:Nat} {o:Oper} {g:GL}
theorem Tk (a:Nat)(m:Nat){b:IntKind}{t c:Nat}{x y:Operand}{p q:Int}(f:Z8 (Nat.ble k 1) true o.dst (some d) o.op (.binOp .shr t x y c) (gOf ds fr o.guard) (some g) (ev fr g x) (some (.int .u64 p)) (ev fr g y) (some (.int b q)) p a q m)(I:m<=63)(j:Z2 (aP n ds ((d,g,.int .u64 ((a / 2 ^ m:Nat):Int))::fr) d) true (wfG ds fr g) true)(h:D cx R its ((d,g,.int .u64 ((a / 2 ^ m:Nat):Int))::fr) C L):D cx R ((i,k,o)::its) fr C L :=
 have ⟨l,r,s,u,v,hy,z,B⟩:=f;have ⟨E,F⟩:=j;D.run _ l r u (fun _ A hs w=>by
  subst z B;rw [bY s (hs _ _ v) (hs _ _ hy) (fun _ _=>.inl am) (.inl am) w];have h0:¬ ((m:Int)<0):=by omega
  have G:Min.min m 64=m:=by omega
  have e:(a:Int).fdiv (2 ^ m)=((a / 2 ^ m:Nat):Int):=by
   have H:(2:Int) ^ m=((2 ^ m:Nat):Int):=by norm_cast
   rw [H,Int.fdiv_eq_ediv_of_nonneg _ (RU _)];exact (RZ _ _).symm
  simp only [binOp,Op.shift,h0,PG,Qk,IntKind.bits,G,Sem.run_pure,Result.andThen_ok];rw [e]) E F h
end
end Go.Jog
