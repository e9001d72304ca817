import Derived.Test.YtfjcldheldflbaaGreatDoorG1
import Derived.OpenShut
import Derived.Deep.Slices
import Derived.Deep.DeepHandedRow
import Derived.LaidLaws
import Derived.ProofKit
import Derived.Shelf.Vars
namespace Go.Jog
open Go
section
variable {cx:Cx} {n:Nat} {ds:List (Option Nat)} {R:Rg n ds} {its:List It} {fr:Fr} {C:Mem} {L:List Ent} {i k d:Nat} {o:Oper} {g:GL} {v:Value}
theorem Sl.flat {C:Mem}{s:Nat}{A:Option Addr}{d c:Nat}{b:List (List Value)}(k:Sl C s (.slice A d c) b)(l:0<s)(m:b≠[]) :
  d=b.length/\∃a,A=some a/\a.spot=none/\∀(q:Nat)(u:Value),b.flatten[q]?=some u->CCell C (a.add q) u:=by
 let⟨y,z,h1,h2,h3,h4,h5⟩:=k;cases h1
 refine⟨U, ?_⟩;cases b with
|nil=>exact absurd rfl m
|cons r rs =>
  let⟨n,o,p,_⟩:=h5 0 r am;subst o;refine⟨n,U,p,λq u e=>?_⟩;have t:q<(r::rs).length*s:=by rw[<- aQ h4];exact(R0.1 e).1
  have f:q / s<(r::rs).length:=VB (by rw[Tt];exact t);have g:(r::rs)[q / s]?=some (r::rs)[q / s]:=aj f;have v:q % s<((r::rs)[q / s]).length:=by rw[h4 _ (TC f)];exact Ts _ l
  have h:=aj v;have i:=getElem?_flatten_rows h4 g h;have j:q / s*s+q % s=q:=by rw[Tt];exact Vt q s
  rw[j,e]at i;let⟨B,w,D,x⟩:=h5 _ _ g;cases w
  have:=x _ _ h;rw[j]at this;rw[Ue i];exact this
theorem sf {P:Program}{a:Act}{o:Oper}{t:Nat}{x y:Operand}(c:o.op=.call ⟨.builtin .append,#[x,y],#[t,t]⟩){r:Value}{w b:World}(h:(Builtin.append_ #[t,t] o.type #[a.eval x,a.eval y]).run P w=.ok r b) :
  (execOp a.eval o).run P w=.ok (.value r) b:=by
 have d:execOp a.eval o=(do let dd <- resolve a.eval ⟨.builtin .append,#[x,y],#[t,t]⟩ o.type;invoke dd.target dd.args:Sem Next):=by unfold execOp;rw[c]
 rw[d];simp only[resolve,invoke,builtin,Sem.run_bind,Sem.run_pure,Result.andThen_ok,Us,Tq,Ut,h]
theorem Yo {t e n0 l:Nat}{x y:Operand}{Q m:TI}{p:Value}{A:Option Addr}{g f:List (List Value)}(hk:k=3)(hd:o.dst=some d)(hg:gOn ds fr o.guard=true)
  (aa:o.op=.call ⟨.builtin .append,#[x,y],#[t,t]⟩) (ht:cx.T.get t=some Q) (ab:Q.k=.slice e) (he:cx.T.get e=some m) (ac:Nat.beq m.size 0=false)
  (hx:ev fr [] x=some (.slice A n0 l)) (hy:ev fr [] y=some p) (V:Sl C m.size (.slice A n0 l) g) (ae:Sl C m.size p f) (ar:f=[]∨l<g.length+f.length)
  (W:g.length+f.length<=maxLen) (af:(g.length+f.length)*m.bytes<=140737488355328) (hp:∀v,aZ n ds ((d,[],v)::fr) d=true)
  (h:∀E z,C.le z->Sl z m.size E (g++f)->D cx R its ((d,[],E)::fr) z L):D cx R ((i,k,o)::its) fr C L:=by
 have H:cx.P.underlying t=some (.slice e):=by
  let⟨kk,s1,b1,z1,g1⟩:=Q;simp only at ab;subst ab;exact bW cx.hT ht
 let⟨inf,I,J,ag,hz,aK⟩:=(dC cx.hT he).info;have ah:0<m.size:=UH (λe=>by rw[e]at ac;cases ac);have au:=V;let⟨A1,c1,av,ai,aL,aj,aw⟩:=au;cases av
 have ax:=ae;let⟨B,c,X,aM,aN,ak,aO⟩:=ax;have al:Nat.ble k 1=false:=by subst hk;rfl
 by_cases K:f=[]
 .subst K;refine Xc (S:=λE z L'=>E=.slice A g.length l/\z=C/\L'=L) al hd hg hp (λa G w _ M=>?_) (λE z L' Y ⟨Z,e2,e3⟩=>?_)
  .have hr:(Builtin.append_ #[t,t] o.type #[a.eval x,a.eval y]).run cx.P w=.ok (.slice A g.length l) w:=by
    rw[G _ _ hx,G _ _ hy,X];have an:(Builtin.firstCells m.size 0 (.slice B 0 c)).run cx.P w=.ok #[] w:=by
     cases B <;> simp[Builtin.firstCells,loadCells,loadCellsFrom]
    simp only[Tp];cases A with
   |none=>simp[Builtin.append_,run_underlying H,sizeOf,typeInfo,I,J,Builtin.lenOf,an,ai]
   |some a0=>simp[Builtin.append_,run_underlying H,sizeOf,typeInfo,I,J,Builtin.lenOf,an,ai,storeCells]
   unfold Oper.wp;rw[sf aa hr];exact⟨_,C,L,U,Mem.le.refl _,λh2=>by omega,M,U,U,U⟩
  subst Z;subst e2;subst e3;exact h _ z Y (by simpa using V)
 have ay:l<g.length+f.length:=ar.resolve_left K;obtain⟨-,b0,hB, -,az⟩:=Sl.flat (X ▸ ae) ah K;subst hB;have aP:0<f.length:=Tw.2 K;have aA:=aQ ak;have aB:=aQ aj;refine Ya (S:=λE b ob=>∃(cc:Nat)(rest:Array Value),E=s_ b (g.length+f.length) cc/\ob=.cells (g.flatten.toArray++f.flatten.toArray++rest) e (0,0)/\g.length+f.length<=cc/\cc<=maxLen) al hd hg hp
  (λa G w _ L1 w1 M=>?_) (λE b ob z Y N ⟨cc,rest,Z,e2,e3,e4⟩=>?_)
 .have ao:∀(j:Nat)(u:Value),f.flatten[j]?=some u->w.cell? (b0.add j)=some u:=λj u F=>(az j u F).cell M.sep;have ap:f.flatten.length=f.length*inf.size:=by rw[aA,J]
  have aC:g.flatten.length=g.length*inf.size:=by rw[aB,J]
  refine⟨.slice (some ⟨w.heap.size,0,none⟩) (g.length+f.length) (grownCap w (g.length+f.length) l e),_,w.drew.alloc (.cells (g.flatten.toArray++f.flatten.toArray++Builtin.zeroCells m.zv.cells (grownCap w (g.length+f.length) l e-(g.length+f.length))) e), ?_, ?_,grownCap w (g.length+f.length) l e,Builtin.zeroCells m.zv.cells (grownCap w (g.length+f.length) l e-(g.length+f.length)),U,U,grownCap_ge w _ _ e,grownCap_le_maxLen w _ _ e W⟩
  .refine sf aa ?_;rw[G _ _ hx,G _ _ hy,X];cases O:A with
  |none =>
    subst O;have aD:g=[]:=by
     cases g with
    |nil=>rfl
    |cons r rs=>let⟨ad,O,_⟩:=aw 0 r am;cases O
    subst aD;have aE:l<f.length:=by simpa using ay
    have hf:=run_firstCells_some (P:=cx.P) w.drew inf.size f.length b0 f.length c f.flatten ap (by simpa using ao);have hn:f.length≠0:=by omega
    have aF:¬ (9223372036854775807<(f.length:Int)):=by simp only[maxLen,Tp]at W;omega
    have aG:¬ (281474976710656<Builtin.nextslicecap f.length l*inf.bytes):=by
     have N:=af;simp only[Tp,TX,<- ag]at N;have:=growslice_fits (need:=f.length) (bytes:=inf.bytes) (old:=l) aE N;omega
    have aH:¬ (f.length<=l):=by omega
    simp[Builtin.append_,run_underlying H,sizeOf,typeInfo,zeroValue,I,hz,Builtin.lenOf,aH,aF,aG,Question.forced,run_firstCells_none,hf,newRow,grownCap]
  |some a0 =>
    subst O;have hold:∀(j:Nat)(u:Value),g.flatten[j]?=some u->w.cell? (a0.add j)=some u:=λj u F=>by
     cases hr:g with
    |nil=>subst hr;simp at F
    |cons r rs =>
      obtain⟨-,a1,aI, -,aJ⟩:=Sl.flat V ah (by rw[hr];simp);cases aI
      exact(aJ j u F).cell M.sep
    exact run_append_grow (P:=cx.P) w t o.type e inf m.zv H I hz a0 g.length l g.flatten aC hold b0 f.length c f.flatten ap ao om_ (by simp only[maxLen]at W;omega) (by rw[ag];exact growslice_fits om_ af)
  exact⟨U,U,U,by simp,λq hq=>heap_alloc_old w.drew _ hq,heap_alloc_new w.drew _,UZ _⟩
 subst Z;subst e2;have:=Sl.ofBlock (rows:=g++f) (s:=m.size) (c:=cc) N (λr hr=>(SZ.1 hr).elim (aj r) (ak r)) (λj u F=>by
  have aq:=(R0.1 F).1;rw[Ta]at F aq;have e5:(g.flatten.toArray++f.flatten.toArray:Array Value)=(g.flatten++f.flatten).toArray:=by simp
  rw[e5];rw[Array.getElem?_append_left (by simpa using aq)];simpa using F) (by simpa using e3) e4
 simp only[SP]at this;exact h _ z Y this
theorem St.objArr {o:World}{p:Mem}{q:List Ent}{C:Mem}{L:List Ent}{w:World}{b e s m g:Nat}{i j:List Value}(h:St o p q C (.obj b (.cells ⟨i⟩ e (0,0))::L) w)(r:i.take (m*s)=j)(u:i.length=g*s)(t:m<=g)(v:g<=maxLen) :
  St o p q C (.arr (s_ b m g) e s m j::L) w:=by
 have z:w.heap[b]?=some (.cells ⟨i⟩ e (0,0)):=h.sep.e _ (SK ..);have hd:=TW.1 h.sep.d;have l:∀k,(Ent.arr (s_ b m g) e s m j).own k->k=b:=λk f=>by simp only[Ent.own,Value.ownBlock,Tv]at f;exact f.symm
 have A:m*s<=g*s:=To _ t;refine⟨⟨h.sep.c,λx a=>?_,TW.2 ⟨λy hy k f=>hd.1 y hy k (l k f),hd.2⟩,λk ⟨x,a,f⟩=>?_⟩,h.ev,h.c0,h.cn,λk ⟨x,a,f⟩=>?_⟩
 .rcases SY.1 a with rfl|a
  .exact⟨by rw[<- r,S2];omega,.inr ⟨b,g,⟨i⟩,U,SM _,z,t,v,by simpa using u,by simpa using r⟩⟩
  exact h.sep.e x (by simp[a])
 .rcases SY.1 a with rfl|a
  .exact h.sep.n k ⟨_,SK ..,l k f⟩
  exact h.sep.n k ⟨x,by simp[a],f⟩
 rcases SY.1 a with rfl|a
 .exact h.ln k ⟨_,SK ..,l k f⟩
 exact h.ln k ⟨x,by simp[a],f⟩
theorem X9 {e s m c:Nat}{cs f:List Value}(p:Nat.ble k 1=false)(q:o.dst=some d)(r:gOn ds fr o.guard=true)(t:∀v,aZ n ds ((d,[],v)::fr) d=true)
  (u:∀a,MA (ev fr []) a->∀w,(execOp a.eval o).run cx.P w=.ok (.value (.slice (some ⟨w.heap.size,0,none⟩) m c)) (w.alloc (.cells ⟨cs⟩ e))) (g:cs.take (m*s)=f) (y:cs.length=c*s) (z:m<=c) (A:c<=maxLen)
  (h:∀b,D cx R its ((d,[],s_ b m c)::fr) C (.arr (s_ b m c) e s m f::L)):D cx R ((i,k,o)::its) fr C L :=
 Xc (S:=λv j l=>j=C/\∃b,v=s_ b m c/\l=.arr (s_ b m c) e s m f::L) p q r t (λa hs w _ B=>by
  unfold Oper.wp;rw[u a hs w];exact⟨_,C,.arr (.slice (some ⟨w.heap.size,0,none⟩) m c) e s m f::L,U,Mem.le.refl _,λ_ x g=>by simp[g],St.objArr (St.alloc B _) g y z A,U,_,U,U⟩)
  (λv j l _ ⟨E,b,F,G⟩=>by subst E;subst F;subst G;exact h b)
theorem Xu {t e g:Nat}{j:Array (Nat × Operand)}{m f:TI}(c:List (List Value))(y:Z12 (Nat.ble k 1) false o.dst (some d) (gOn ds fr o.guard) true o.op (.buildSlice t g j) (cx.T.get t) (some m) m.k (.slice e) (cx.T.get e) (some f) (rowsO (ev fr []) j.toList 0) (some c) (c.all λr=>Nat.beq r.length f.size) true (Nat.beq j.toList.length g) true (Nat.ble (g*f.size) 16777216) true (Nat.beq f.size 0) false)(z:∀v,aZ n ds ((d,[],v)::fr) d=true)(h:∀b,D cx R its ((d,[],s_ b c.length c.length)::fr) C (.arr (s_ b c.length c.length) e f.size c.length c.flatten::L)):D cx R ((i,k,o)::its) fr C L:=by
 have ⟨A,hd,B,E,ht,F,G,p,H,I,q,s⟩:=y;have l:∀r∈c,r.length=f.size:=λr hr=>Tr (S3.1 H r hr);have u:=Tr I;rw[UC]at q;have J:=(eo p l).2;have K:=aQ l;have h0:0<f.size:=UH (λe=>by rw[e]at s;cases s);refine X9 (cs:=c.flatten) A hd B z (λa hs w=>?_) (Td om_) K (SH _) ?_ h
 .have M:execOp a.eval o=(do Pure.pure (.value (<- Instr.buildSlice t g (j.map λ(i,x)=>(i,a.eval x)))):Sem Next):=by unfold execOp;rw[E]
  rw[M];have N:(j.map λ(i,x)=>(i,a.eval x))=(j.toList.map λ(i,x)=>(i,a.eval x)).toArray:=by apply Uz;simp
  rw[N];simp only[Sem.run_bind,gG cx.hT ht F G (λx v O=>hs x v O) p l u q w,Result.andThen_ok,Sem.run_pure]
 rw[J,u];have:g<=g*f.size:=Vk _ h0;simp only[maxLen];omega
def fK (z:List Value):Nat->List Value
|0=>[]
|m+1=>z++fK z m
theorem cH (z:List Value):∀m,(fK z m).length=m*z.length
|0=>by simp[fK]
|m+1=>by simp[fK,cH z m,Ug];omega
theorem dJ (z:List Value):∀m,fK z m=(List.replicate m z).flatten
|0=>rfl
|m+1=>by simp[fK,dJ z m,TN]
theorem BU (z:List Value):∀(m q:Nat),q<m*z.length->(fK z m)[q]?=z[q % z.length]?
|0,q,h=>by simp at h
|m+1,q,h=>by
  simp only[fK];by_cases a:q<z.length
  .rw[Tz a,Vn a]
  rw[Tj om_,BU z m _ (by rw[Ug]at h;omega)];congr 1;rw[Nat.mod_eq_sub_mod (by omega:z.length<=q)]
theorem AI (z:List Value)(m:Nat):madeCells ⟨z⟩ (m*z.length)=⟨fK z m⟩:=by
 apply Uz;apply List.ext_getElem?;intro q;simp only[madeCells,Array.toList_map,Array.toList_range,SI,Uu];by_cases a:q<m*z.length
 .rw[BU z m q a,Tl a];have c:0<z.length:=by
   rcases TY z.length with h|h
   .rw[h]at a;simp at a
   exact h
  have b:q % z.length<z.length:=Ts _ c;simp only[Uk];rw[aj b];simp[b]
 rw[SR ap,SR (by rw[cH];omega)];rfl
theorem Xq {t e:Nat}{x y:Operand}{p r:IntKind}{l c:Nat}{g f:TI}(B:Z9 (Nat.ble k 1) false o.dst (some d) (gOn ds fr o.guard) true o.op (.makeSlice t x y) (cx.T.get t) (some g) g.k (.slice e) (cx.T.get e) (some f) (ev fr [] x) (some (.int p l)) (ev fr [] y) (some (.int r c)))(E:l<=c)(W:f.bytes*c<=281474976710656)(s:c<=maxLen)(F:∀v,aZ n ds ((d,[],v)::fr) d=true)(h:∀b,D cx R its ((d,[],s_ b l c)::fr) C (.arr (s_ b l c) e f.size l (fK (f.zero.map Zv.val) l)::L)):D cx R ((i,k,o)::its) fr C L:=by
 have ⟨G,hd,H,I,ht,u,z,J,hy⟩:=B;have K:cx.P.underlying t=some (.slice e):=by
  let⟨X,Y,Z,z1,g1⟩:=g;simp only at u;subst u;exact bW cx.hT ht
 let⟨inf,M,N,O,Q,A⟩:=(dC cx.hT z).info;have j:(f.zero.map Zv.val).length=f.size:=by
  have:=(dC cx.hT z).zsize;rw[A]at this;simpa using this
 have S:∀m q,fK (f.zero.map Zv.val) (m+q)=fK (f.zero.map Zv.val) m++fK (f.zero.map Zv.val) q:=by
  intro m q;induction m with
 |zero=>simp[fK]
 |succ m U=>rw[show m+1+q=(m+q)+1 by omega];simp[fK,U]
 refine X9 (cs:=fK (f.zero.map Zv.val) c) G hd H F (λa hs w=>?_) ?_ (by rw[cH,j]) E s h
 .have V:execOp a.eval o=(do Pure.pure (.value (<- Instr.makeSlice t (a.eval x) (a.eval y))):Sem Next):=by unfold execOp;rw[I]
  rw[V,hs _ _ J,hs _ _ hy];have hr:=run_make (P:=cx.P) w t e inf f.zv K M Q p r (l:Int) (c:Int) om_ om_ (by rw[O,<- Tc];omega) (by simp only[maxLen]at s;omega);simp only[UD]at hr;rw[N,<- j,A,AI]at hr;simp only[Sem.run_bind,hr,Result.andThen_ok,Sem.run_pure]
 obtain⟨q,rfl⟩:∃q,c=l+q:=⟨c-l,by omega⟩;rw[S];exact List.take_left' (by rw[cH,j])
theorem tk {P:Program}{t e b c:Nat}(d:P.underlying t=some (.array b e)){f:IntKind}{m:Int}(g:0<=m)(h:m<b)(a:Addr){w:World}(i:(sizeOf e).run P w=.ok c w) :
  (Instr.indexAt t (.pointer (some a)) (.int f m)).run P w=.ok (.pointer (some (a.add (m.toNat*c)))) w:=by
 simp[Instr.indexAt,asIntOf,run_underlying d,Instr.sureAddr,i,g,h]
theorem WO (c:Nat){t e f b l:Nat}{x y:Operand}{r:IntKind}{m:Int}{j p:TI}(s:Z9 (Nat.ble k 1) true o.dst (some d) o.op (.indexAddr t x y) (gOf ds fr o.guard) (some g) (ev fr g x) (some (.pointer (some ⟨b,l,none⟩))) (ev fr g y) (some (.int r m)) (cx.T.get t) (some j) j.k (.arr f e) (cx.T.get e) (some p))(u:GT ds fr g->0<=m/\m<f/\c=l+m.toNat*p.size)(v:Z2 (aZ n ds ((d,g,.pointer (some ⟨b,c,none⟩))::fr) d) true (wfG ds fr g) true)(h:D cx R its ((d,g,.pointer (some ⟨b,c,none⟩))::fr) C L):D cx R ((i,k,o)::its) fr C L:=by
 have ⟨z,hd,A,B,E,hy,ht,q,F⟩:=s;have ⟨hp,G⟩:=v;have H:cx.P.underlying t=some (.array f e):=by
  let⟨N,O,Q,S,U⟩:=j;simp only at q;subst q;exact pW cx.hT ht
 refine D.run _ z hd B (λI a hs w=>?_) hp G h;obtain⟨J,K,rfl⟩:=u I;have M:execOp a.eval o=(do Pure.pure (.value (<- Instr.indexAt t (a.eval x) (a.eval y))):Sem Next):=by unfold execOp;rw[A]
 rw[M,hs _ _ E,hs _ _ hy];simp only[Sem.run_bind,tk H J K _ (eD cx.hT F w),Result.andThen_ok,Sem.run_pure,Addr.add_lit]
theorem X2 {t e f:Nat}{x y:Operand}{G:IntKind}{m:Int}{p:Value}{q:List Value}{j b:TI}(H:Z9 (Nat.ble k 1) true o.dst (some d) o.op (.indexAddr t x y) (gOf ds fr o.guard) (some g) (ev fr g x) (some p) (ev fr g y) (some (.int G m)) (cx.T.get t) (some j) j.k (.arr f e) (cx.T.get e) (some b))(I:GT ds fr g->PtrTo C p q)(r:GT ds fr g->0<=m/\m<f)(s:∀v,aZ n ds ((d,g,v)::fr) d=true)(u:wfG ds fr g=true)(h:∀z,(GT ds fr g->PtrTo C z ((q.drop (m.toNat*b.size)).take b.size))->D cx R its ((d,g,z)::fr) C L):D cx R ((i,k,o)::its) fr C L:=by
 have ⟨A,hd,J,B,K,hy,ht,E,M⟩:=H;have N:cx.P.underlying t=some (.array f e):=by
  let⟨W,X,Y,Z,g1⟩:=j;simp only at E;subst E;exact pW cx.hT ht
 by_cases c:GT ds fr g
 .let⟨O,Q,S⟩:=(I c).part (m.toNat*b.size) b.size;refine Xe A hd B (s (.pointer (some (O.add (m.toNat*b.size))))) u (λ_ a F aa ab w hw=>?_) (h _ (λ_=>S));have V:execOp a.eval o=(do Pure.pure (.value (<- Instr.indexAt t (a.eval x) (a.eval y))):Sem Next):=by unfold execOp;rw[J]
  unfold Oper.quietAt;rw[V,F _ _ K,F _ _ hy,Q];simp only[Sem.run_bind,tk N (r c).1 (r c).2 _ (eD cx.hT M w),Result.andThen_ok,Sem.run_pure];exact⟨U,U⟩
 exact Xe A hd B (s undef) u (λl=>absurd l c) (h _ (λl=>absurd l c))
theorem Fw (s:List UInt8):∀a:ByteArray,(s.map λb=>(b.toNat:Int)).foldl (λr n=>r.push (UInt8.ofNat n.toNat)) a=a++⟨s.toArray⟩:=by
 induction s with
|nil =>
  intro a;apply ByteArray.ext;simp[]
|cons b s c =>
  intro a;simp only[Tq,VH];rw[c];have e:UInt8.ofNat ((b.toNat:Int)).toNat=b:=by simp
  rw[e];apply ByteArray.ext;simp[ByteArray.data_push]
theorem XP {g l e:Nat}{x:Operand}{p:Value}{s:List UInt8}{m q r:TI}(B:Sl C 1 p (s.map λb=>[.int .u8 b.toNat]))(W:Z11 k 2 o.dst (some d) o.op (.convert g l x) (gOn ds fr o.guard) true (ev fr [] x) (some p) (cx.T.get g) (some m) m.k (.slice e) (cx.T.get l) (some q) q.k .str (cx.T.get e) (some r) r.k (.int .u8))(X:∀v,aZ n ds ((d,[],v)::fr) d=true)(h:D cx R its ((d,[],.string ⟨s.toArray⟩)::fr) C L):D cx R ((i,k,o)::its) fr C L :=
 have ⟨Y,hd,Z,hg,hx,aa,E,ab,F,ac,G⟩:=W;Xc (S:=λv H I=>v=.string ⟨s.toArray⟩/\H=C/\I=L) (by subst Y;rfl) hd hg X (λa ad w _ J=>by
  have ae:cx.P.underlying g=some (.slice e):=by
   let⟨K,M,N,O,Q⟩:=m;simp only at E;subst E;exact bW cx.hT aa
  have af:cx.P.underlying l=some .string:=by
   let⟨K,M,N,O,Q⟩:=q;simp only at F;subst F;exact pU cx.hT ab
  have ag:cx.P.underlying e=some (.int .u8):=by
   let⟨K,M,N,O,Q⟩:=r;simp only at G;subst G;exact pV cx.hT ac
  have ah:=B;obtain⟨A,c,rfl,aj,ak,al,am⟩:=ah;have ai:(execOp a.eval o).run cx.P w=.ok (.value (.string ⟨s.toArray⟩)) w:=by
   have t:execOp a.eval o=(do Pure.pure (.value (<- convert g l (a.eval x))):Sem Next):=by unfold execOp;rw[Z]
   rw[t,ad _ _ hx];simp only[Sem.run_bind,run_convert_bytes_string w g l e _ _ _ ae ag af];cases u:s with
  |nil =>
    subst u;cases A with
   |none=>simp[Conv.bytesToString];rfl
   |some f =>
     have y:(loadCells f 0).run cx.P w=.ok (([]:List Int).map (Value.int .u8)).toArray w:=by simp[loadCells,loadCellsFrom]
     have z:=run_bytesToString (P:=cx.P) w f 0 c [] y;simp only[Ut,Tp,z,Result.andThen_ok];rfl
  |cons b bs =>
    obtain⟨an,f,rfl, -,V⟩:=Sl.flat B om_ (by rw[u];simp);rw[gJ]at V;have y:(loadCells f (s.map λb=>[Value.int .u8 b.toNat]).length).run cx.P w=.ok ((s.map λb=>(b.toNat:Int)).map (Value.int .u8)).toArray w:=by
     have:=kR (P:=cx.P) (w:=w) (a:=f) (cs:=s.map λb=>Value.int .u8 b.toNat) (λj v hj=>(V j v hj).cell J.sep);simpa [Function.comp_def] using this
    have z:=run_bytesToString (P:=cx.P) w f _ c _ y;rw[<- u];simp only[z,Result.andThen_ok,Fw,Sem.run_pure];congr 3
  unfold Oper.wp;rw[ai];exact⟨_,C,L,U,Mem.le.refl _,λ_ _ h=>h,J,U,U,U⟩)
  (λv H I _ ⟨t,e2,e3⟩=>by subst t;subst e2;subst e3;exact h)
end
section
variable {F:Fx} {k:List KI} {fr:Fr} {C:Mem} {L:List Ent}
theorem fD {w:World}{b t:Nat}{a:List Value}{e:TypeId}{f:Nat × Nat}{c:TI}{v:Value}(g:F.cx.T.get t=some c)(h:w.heap[b]?=some (.cells ⟨a⟩ e f))(i:cJ c (a.take c.size)=some v):(loadVar t ⟨b,0,none⟩).run F.cx.P w=.ok v w:=by
 refine eZ F.cx.hT g (cs:=a.take c.size) (λj u d=>?_) i;rw[Addr.add_lit,cell_of_row w b (0+j) _ e f h];rw[TA]at d;split at d
 .simpa using d
 cases d
theorem Xi {r b t:Nat}{f:List Value}{k:TypeId}{l:Nat × Nat}{c:TI}{v:Value}(m:Ent.obj b (.cells ⟨f⟩ k l)∈L)(n:Z4 F.fn.results (#[.cell r t]) (ev fr [] (.tmp r)) (some (p_ b)) (F.cx.T.get t) (some c) (cJ c (f.take c.size)) (some v))(h:F.post v C [])(g:F.ends:=by exact⟨λ_ _ _ h=>h,rfl⟩):G F [] .ret fr C L:=have ⟨o,hr,ht,q⟩:=n;λ_ a w i j=>by
 refine g.kq ?_;have d:=bP i (λp hp=>by cases hp) hr;simp only[Act.eval]at d;refine bodyPost_ret (v:=v) ?_ (i.defers.trans g.2) ⟨v,C,[],U,St.dropAll j,h⟩;have s:=fD (F:=F) ht (j.sep.e _ m) q;simp only[TM]at d;simp[results,o,d,asAddr,s]
theorem XG {r s b t:Nat}{i:List Value}{l:TypeId}{m:Nat × Nat}{c:TI}{u v:Value}(n:Ent.obj b (.cells ⟨i⟩ l m)∈L)(o:Z5 F.fn.results (#[.cell r t,.tmp s]) (ev fr [] (.tmp r)) (some (p_ b)) (ev fr [] (.tmp s)) (some u) (F.cx.T.get t) (some c) (cJ c (i.take c.size)) (some v))(h:F.post (.tuple #[v,u]) C [])(j:F.ends:=by exact⟨λ_ _ _ h=>h,rfl⟩):G F [] .ret fr C L:=have ⟨q,hr,hs,ht,x⟩:=o;λ_ a w d k=>by
 refine j.kq ?_;have f:=bP d (λp hp=>by cases hp) hr;have g:=bP d (λp hp=>by cases hp) hs;simp only[Act.eval]at f g;refine bodyPost_ret (v:=.tuple #[v,u]) ?_ (d.defers.trans j.2) ⟨_,C,[],U,St.dropAll k,h⟩;have y:=fD (F:=F) ht (k.sep.e _ n) x;simp only[TM]at f g;simp[results,q,f,g,asAddr,y]
end
end Go.Jog
namespace Go.Jog
open Go
theorem eF {a:Type}(f:a->Value):∀l:List a,(l.map λx=>[f x]).flatten=l.map f
|[]=>rfl
|x::l=>by simp[eF f l]
def ag (s:List UInt8):Value:=.string ⟨s.toArray⟩
def cV (c:UInt8):List UInt8->List (List UInt8)
|[]=>[[]]
|b::s=>if b=c then []::cV c s else match cV c s with
 |[]=>[[b]]
 |p::ps=>(b::p)::ps
theorem EI (c:UInt8):∀s,cV c s≠[]
|[]=>by simp[cV]
|b::s=>by
  simp only[cV];split
  .simp
  split <;> simp
theorem oE (c:UInt8):∀s,c ∉ s->cV c s=[s]
|[],_=>rfl
|b::s,h=>by
  have h1:b≠c:=λe=>h (by simp[e]);have h2:=oE c s (λe=>h (by simp[e]));simp[cV,h1,h2]
theorem qt (c:UInt8):∀(a post:List UInt8),c ∉ a->cV c (a++c::post)=a::cV c post
|[],post,_=>by simp[cV]
|b::a,post,h=>by
  have h1:b≠c:=λe=>h (by simp[e]);have h2:=qt c a post (λe=>h (by simp[e]));simp[cV,h1,h2]
theorem kQ (c:UInt8):∀s:List UInt8,(cV c s).length=s.count c+1
|[]=>by simp[cV]
|b::s=>by
  have d:=kQ c s;simp only[cV];by_cases a:b=c
  .subst a;simp[d]
  rw[aF a];have e:¬ (b == c)=true:=by simpa using a
  rw[List.count_cons_of_ne a];cases h:cV c s with
 |nil=>exact absurd h (EI c s)
 |cons p ps=>rw[h]at d;simpa using d
end Go.Jog
namespace Go.Jog
open Go
section
variable {α:Type} {enc:α->List Value} {s:Nat}
theorem bK (a:∀x,(enc x).length=s)(l:List α):(l.map enc).flatten.length=l.length*s:=by
 have:=aQ (s:=s) (rows:=l.map enc) (λr hr=>by obtain⟨x,_,rfl⟩:=SL.1 hr;exact a x);simpa using this
theorem cj (a:∀x,(enc x).length=s):∀(l:List α)(i:Nat),(l.map enc).flatten.take (i*s)=((l.take i).map enc).flatten/\(l.map enc).flatten.drop (i*s)=((l.drop i).map enc).flatten
|[],i=>by simp
|x::l,0=>by simp
|x::l,i+1=>by
  let⟨h1,h2⟩:=cj a l i;have e:(i+1)*s=s+i*s:=by rw[Ug];omega
  have b:=a x;constructor
  .rw[e,Tq,TV,List.take_append,b,Td om_,show s+i*s-s=i*s by omega,h1];simp
  rw[e,Tq,TV,VE,b,Uq om_,show s+i*s-s=i*s by omega,h2];simp
theorem da (a:∀x,(enc x).length=s){l:List α}{i:Nat}{x:α}(h:l[i]?=some x):((l.map enc).flatten.drop (i*s)).take s=enc x:=by
 rw[(cj a l i).2];let⟨h1,h2⟩:=R0.1 h;rw[Tg h1,h2,Tq,TV];rw[List.take_append,a,Td (by rw[a];omega)];simp
theorem bE (a:∀x,(enc x).length=s){l:List α}{i:Nat}(x:α)(h:i<l.length):aC (l.map enc).flatten (enc x) (i*s)=((l.set i x).map enc).flatten:=by
 unfold aC;rw[a,(cj a l i).1,show i*s+s=(i+1)*s by rw[Ug];omega,(cj a l (i+1)).2];rw[List.set_eq_take_append_cons_drop,aL h];simp
end
section
variable {cx:Cx} {n:Nat} {ds:List (Option Nat)} {R:Rg n ds} {its:List It} {fr:Fr} {C:Mem} {L:List Ent} {i k d:Nat} {o:Oper} {g:GL} {v:Value}
theorem Ex (z:List Value)(m:Nat):(Builtin.zeroCells ⟨z⟩ m).toList=fK z m:=by
 have:=AI z m;unfold madeCells at this;simp only[Builtin.zeroCells,Uu]at this⊢;rw[this]
theorem YP (j:Nat){t e d off c B f p m n:Nat}{x:Operand}{A:Option Addr}{g:List Value}{E b:TI}(F:k=3)(hg:gOn ds fr o.guard=true)(N:o.dst=none)
  (ad:o.op=.call ⟨.builtin .clear,#[x],#[t]⟩) (O:ev fr [] x=some (.slice A c B)) (hm:L[j]?=some (.arr (s_ d m n) e f p g))
  (ht:cx.T.get t=some E) (Q:E.k=.slice e) (v:cx.T.get e=some b) (ae:b.size=f) (h1:(b.zero.map Zv.val).all kS=true) (hA:c=0∨A=some ⟨d,off,none⟩) (an:off+c*f<=g.length)
  (h:D cx R its fr C (.arr (s_ d m n) e f p (aC g (fK (b.zero.map Zv.val) c) off)::L.eraseIdx j)):D cx R ((i,k,o)::its) fr C L:=by
 have s:cx.P.underlying t=some (.slice e):=by
  let⟨kk,s1,b1,z1,g1⟩:=E;simp only at Q;subst Q;exact bW cx.hT ht
 have af:(b.zero.map Zv.val).length=b.size:=by
  have:=(dC cx.hT v).zsize;rw[(dC cx.hT v).info.choose_spec.2.2.2.2]at this;simpa using this
 have ag:b.zv.cells=(b.zero.map Zv.val).toArray:=(dC cx.hT v).info.choose_spec.2.2.2.2;refine XI (S:=λV W=>V=C/\W=.arr (s_ d m n) e f p (aC g (fK (b.zero.map Zv.val) c) off)::L.eraseIdx j) (by subst F;rfl) hg (λa hs w _ hw=>?_) (λV W _ ⟨y,e2⟩=>by subst y;subst e2;exact h);have G:=St.perm hw (ax hm);have X:w.ownsRow 0 e f (s_ d m n) p g:=G.sep.e _ (SK ..);have y:execOp a.eval o=(do let dd <- resolve a.eval ⟨.builtin .clear,#[x],#[t]⟩ o.type;invoke dd.target dd.args:Sem Next):=by unfold execOp;rw[ad]
 by_cases H:c=0
 .subst H;have I:(execOp a.eval o).run cx.P w=.ok (.value (.tuple #[])) w:=by
   rw[y];have J:(Builtin.clear_ #[t] o.type #[.slice A 0 B]).run cx.P w=.ok (.tuple #[]) w:=by
    cases A <;> simp[Builtin.clear_,run_underlying s]
   simp only[resolve,invoke,builtin,Sem.run_bind,Sem.run_pure,Result.andThen_ok,Us,Tq,Ut,hs _ _ O,J]
  have e3:aC g (fK (b.zero.map Zv.val) 0) off=g:=by simp[aC,fK]
  unfold Oper.wp;rw[I,e3];exact⟨C,.arr (s_ d m n) e f p g::L.eraseIdx j,by rw[N];rfl,Mem.le.refl _,λh2=>by omega,G,U,U⟩
 obtain rfl:=hA.resolve_left H;obtain⟨rfl,Y,ah,l,Z,K,aa⟩:=cP X;let⟨l⟩:=l;simp only[Uu]at K;simp only at aa;have ai:g.length=m*f:=X.1;have aj:m*f<=l.length:=by rw[K];exact To _ Y
 have z:(fK (b.zero.map Zv.val) c).length=c*f:=by rw[cH,af,ae]
 have ak:∀u∈fK (b.zero.map Zv.val) c,u.oneCell'=true:=λu s=>by
  rw[dJ]at s;let⟨r,hr,ab⟩:=List.mem_flatten.1 s;rw[Uj hr]at ab;exact fW (S3.1 h1 u ab)
 have M:=run_storeCells_at cx.P d off e (fK (b.zero.map Zv.val) c) 0 ⟨l⟩ w Z (by simp[z];omega) ak;simp only[Um]at M;have J:(Builtin.clear_ #[t] o.type #[.slice (some ⟨d,off,none⟩) c B]).run cx.P w=.ok (.tuple #[]) (w.setRow d (aC l (fK (b.zero.map Zv.val) c) off).toArray):=by
  have hz:(Builtin.zeroCells b.zv.cells c).toList=fK (b.zero.map Zv.val) c:=by rw[ag];exact Ex _ _
  cases ac:c with
 |zero=>exact absurd ac H
 |succ q =>
   rw[ac]at hz M;simp[Builtin.clear_,run_underlying s,pN cx.hT v w,hz,M,aC]
 have I:(execOp a.eval o).run cx.P w=.ok (.value (.tuple #[])) (w.setRow d (aC l (fK (b.zero.map Zv.val) c) off).toArray):=by
  rw[y];simp only[resolve,invoke,builtin,Sem.run_bind,Sem.run_pure,Result.andThen_ok,Us,Tq,Ut,hs _ _ O,J]
 have al:(aC l (fK (b.zero.map Zv.val) c) off).length=l.length:=er (by rw[z];omega);have am:(w.setRow d (aC l (fK (b.zero.map Zv.val) c) off).toArray).ownsRow 0 e f (s_ d m n) m (aC g (fK (b.zero.map Zv.val) c) off) :=
  ⟨by rw[er (by rw[z];omega)];exact ai,.inr ⟨d,n,_,rfl,SM _,setRow_heap w d _ _ e _ Z,Y,ah,by simp[al,K],by
     rw[<- aa];exact gF l _ off (m*f) (by rw[z];omega) aj⟩⟩
 unfold Oper.wp;rw[I];refine⟨C,.arr (s_ d m n) e f m (aC g (fK (b.zero.map Zv.val) c) off)::L.eraseIdx j,by rw[N];rfl,Mem.le.refl _,λh2=>by omega,
  St.turn G am ⟨rfl,rfl,rfl,by simp,λk _ F=>setRow_other w d k _ (λe=>F (by simp[Value.ownBlock,e]))⟩ (SH _) (.inl rfl),rfl,rfl⟩
end
section
variable {cx:Cx} {n:Nat} {ds:List (Option Nat)} {R:Rg n ds} {its:List It} {fr:Fr} {C:Mem} {L:List Ent} {i k d:Nat} {o:Oper} {g:GL} {v:Value}
theorem XN (l:Nat)(h:Nat)(m:Nat){t e c f:Nat}{a:Addr}{x:Operand}{j p q:Option Operand}{s u y:Option Value}{r z:TI}(B:Z12 (Nat.ble k 1) true o.dst (some d) o.op (.slice t x j p q) (gOf ds fr o.guard) (some g) (ev fr g x) (some (.pointer (some a))) (HL (ev fr g) j) (some s) (HL (ev fr g) p) (some u) (HL (ev fr g) q) (some y) (cx.T.get t) (some r) r.k (.arr c e) (cx.T.get e) (some z) z.size f)(E:GT ds fr g->SlB c c s u y l h m)(F:Z2 (aZ n ds ((d,g,.slice (some (if m=l then a else a.add (l*f))) (h-l) (m-l))::fr) d) true (wfG ds fr g) true)(G:D cx R its ((d,g,.slice (some (if m=l then a else a.add (l*f))) (h-l) (m-l))::fr) C L):D cx R ((i,k,o)::its) fr C L:=by
 have ⟨H,hd,I,J,b,K,M,N,ht,A,O,Q⟩:=B;have ⟨hp,S⟩:=F;have U:cx.P.underlying t=some (.array c e):=by
  let⟨X,Y,Z,z1,g1⟩:=r;simp only at A;subst A;exact pW cx.hT ht
 refine D.run _ H hd J (λV a hs w=>?_) hp S G;have W:execOp a.eval o=(do Pure.pure (.value (<- Instr.sliceAt t (a.eval x) (j.map a.eval) (p.map a.eval) (q.map a.eval))):Sem Next):=by unfold execOp;rw[I]
 rw[W,hs _ _ b,fo (λx v b=>hs x v b) K,fo (λx v b=>hs x v b) M,fo (λx v b=>hs x v b) N];have h2:=eD cx.hT O w;rw[Q]at h2;simp[Instr.sliceAt,Instr.sureAddr,run_underlying U,fN (E V),h2]
end
section
variable {cx:Cx} {n:Nat} {ds:List (Option Nat)} {R:Rg n ds} {its:List It} {fr:Fr} {C:Mem} {L:List Ent} {i k d:Nat} {o:Oper} {g:GL} {v:Value}
theorem Xm {t e l:Nat}{m:Array (Nat × Operand)}{s g:TI}(c:List (List Value))(B:Z12 (Nat.ble k 1) false o.dst (some d) (gOn ds fr o.guard) true o.op (.buildSlice t l m) (cx.T.get t) (some s) s.k (.slice e) (cx.T.get e) (some g) (rowsO (ev fr []) m.toList 0) (some c) (c.all λr=>Nat.beq r.length g.size) true (Nat.beq m.toList.length l) true (Nat.ble (l*g.size) 16777216) true (Nat.beq g.size 0) false)(E:∀v,aZ n ds ((d,[],v)::fr) d=true)(h:∀b p,C.le p->Sl p g.size (s_ b c.length c.length) c->D cx R its ((d,[],s_ b c.length c.length)::fr) p L):D cx R ((i,k,o)::its) fr C L:=by
 have ⟨F,hd,G,H,ht,I,J,u,K,M,y,z⟩:=B;have q:∀r∈c,r.length=g.size:=λr hr=>Tr (S3.1 K r hr);have A:=Tr M;rw[UC]at y;have N:=(eo u q).2;refine Yh (f:=λb=>s_ b c.length c.length) (ob:=.cells ⟨c.flatten⟩ e) F hd G E (λa hs w=>?_) (λb p O P=>?_)
 .have Q:execOp a.eval o=(do Pure.pure (.value (<- Instr.buildSlice t l (m.map λ(i,x)=>(i,a.eval x)))):Sem Next):=by unfold execOp;rw[H]
  rw[Q];have S:(m.map λ(i,x)=>(i,a.eval x))=(m.toList.map λ(i,x)=>(i,a.eval x)).toArray:=by apply Uz;simp
  rw[S];simp only[Sem.run_bind,gG cx.hT ht I J (λx v U=>hs x v U) u q A y w,Result.andThen_ok,Sem.run_pure]
 refine h b p O (Sl.ofBlock P q (λj v V=>by simpa using V) (SH _) ?_);rw[N,A];have h0:0<g.size:=UH (λe=>by rw[e]at z;cases z);have:l<=l*g.size:=Vk _ h0;simp only[maxLen];omega
theorem Xw {e f:Nat}{x:Operand}{m b:IntKind}{p c:Int}{q j:TI}(r:Z8 (Nat.ble k 1) true o.dst (some d) o.op (.convert e f x) (gOf ds fr o.guard) (some g) (ev fr g x) (some (.int m p)) (cx.T.get e) (some q) (cx.T.get f) (some j) j.k (.int b))(s:b.wrap p=c)(t:Z2 (aZ n ds ((d,g,.int b c)::fr) d) true (wfG ds fr g) true)(h:D cx R its ((d,g,.int b c)::fr) C L):D cx R ((i,k,o)::its) fr C L :=
 have ⟨u,hd,v,y,z,A,B,l⟩:=r;have ⟨hp,E⟩:=t;D.run _ u hd y (λ_ a hs w=>by
  have F:execOp a.eval o=(do Pure.pure (.value (<- convert e f (a.eval x))):Sem Next):=by unfold execOp;rw[v]
  rw[F,hs _ _ z];let⟨du,h1,h2⟩:=(dC cx.hT A).und;let⟨G,H,I,J,K⟩:=j;simp only at l;subst l;subst s;simp[convert,run_underlying h1,run_underlying (pV cx.hT B),Conv.intToInt]) hp E h
end
theorem WK {F:Fx}{k:List KI}{a:Fr}{C:Mem}{L L':List Ent}{e:Exit}(b:L=L')(h:G F k e a C L'):G F k e a C L:=b ▸ h
end Go.Jog
namespace Go.Jog
open Go Go.RowKit Go.WideShapes Go.ChangeShapes Go.Deep
variable {W:World}{v:Value}
def sH (W:World):Mem:=λk=>W.heap[k]?
theorem G5 (W:World):Sep (sH W) [] W:=⟨λ_ _ h=>h,λx a=>(by cases a),List.Pairwise.nil,λk ⟨x,a,_⟩=>(by cases a)⟩
theorem Eb {a:Addr}(h:W.cell? a=some v):CCell (sH W) a v:=by
 unfold World.cell? at h;split at h
 .rename_i c t fz b;split at h
  .cases h
  rename_i hs;exact⟨by simpa using hs,c,t,fz,b,h⟩
 cases h
theorem AU {P:Program}{f:FuncId}{a:List Value}(h:Gives P f a (sH W) v):Calls P f a.toArray W λe b=>e=.returned v/\RowKit.Below W.heap.size W b :=
 (h.2 W (G5 W)).mono λe b ⟨u,j,l,c,d,g,m⟩=>⟨by rw[c,g],d.ev.below (λk ⟨x,i,_⟩=>by cases i)⟩
theorem If {α:Type}{p:Nat->α->Prop}:∀{n:Nat},(∀i,i<n->∃x,p i x)->∃l:List α,l.length=n/\∀i x,l[i]?=some x->p i x
|0,_=>⟨[],rfl,λi x h=>by simp at h⟩
|n+1,h=>by
  let⟨l,h1,h2⟩:=If (n:=n) (λi a=>h i om_);let⟨x,b⟩:=h n om_;refine⟨l++[x],by simp[h1],λi y hy=>?_⟩;by_cases a:i<n
  .rw[Tz om_]at hy;exact h2 i y hy
  rw[Tj om_]at hy;have:i-l.length=0:=by
   rcases TY (i-l.length) with h0|h0
   .exact h0
   rw[SR ap]at hy;cases hy
  rw[this]at hy;simp only[List.getElem?_cons_zero,Tv]at hy;subst hy;have c:i=n:=by omega
  subst c;exact b
section
variable {H:Type} {enc:TypeId × Value->H} {P:Program} {W:World} {spare:Nat->Bool} {held:Bool}
theorem GU {d:Type}{t e:TypeId}{k:Nat}{C:Nat}{v:Value}{x:DataW H × List MemPlace}(f:d->List Value)(E:P.underlying t=some (.slice e))(F:P.cellsOf e=k)(S:k≠0)
  (G:∀(n:Nat)(cs:List Value)(y:DataW H × List MemPlace),cs.length=k->DataW.trod enc P W 0 spare held n e cs=some y->∃z:d,cs=f z)
  (h:DataW.trod enc P W 0 spare held C t [v]=some x):∃l:List d,Sl (sH W) k v (l.map f):=by
 rcases open_slice E h with⟨h1,_⟩|⟨a,len,I,m,n,D,T,s,_,J,hm,K,_,w⟩
 .simp only[Vv,Wn]at h1;subst h1;exact⟨[],Sl.nil _ _⟩
 simp only[Vv,Wn]at s;subst s;have V:len<=m:=by rw[K];split <;> omega
 rw[F]at w;let⟨l,A,o⟩:=If (α:=d) (n:=len) (p:=λi z=>W.cells? 0 (a.add (i*k)) k=some (f z)) (λi b=>by
  let⟨L,h1,h2⟩:=w i om_;let⟨_,h3,_⟩:=World.cells?_some h1;obtain⟨z,rfl⟩:=G n L _ h3 h2;exact⟨z,h1⟩)
 refine⟨l,some a,I,by simp[A],by simp[A];exact J,hm,λr hr=>?_,λi r b=>?_⟩
 .obtain⟨z,c,rfl⟩:=SL.1 hr;let⟨i,b⟩:=Uh c;exact(World.cells?_some (o i z b)).2.1
 rw[SI]at b;cases c:l[i]? with
|none=>rw[c]at b;cases b
|some z =>
  rw[c]at b;simp only[Uk,Tv]at b;subst b;let⟨_,h4,h5⟩:=World.cells?_some (o i z c);have M:∀j u,(f z)[j]?=some u->W.cell? ((a.add (i*k)).add j)=some u:=λj u g=>by
   have N:j<k:=by rw[<- h4];exact(R0.1 g).1
   rw[h5 j N];exact g
  have hs:a.spot=none:=by
   have h0:0<l.length:=by have:=(R0.1 c).1;omega
   let⟨q,O⟩:∃q,l[0]?=some q:=⟨l[0],aj h0⟩;let⟨_,X,Q⟩:=World.cells?_some (o 0 q O);have B:=Q 0 om_;rw[aj om_]at B;have R:=(Eb B).1;simpa [Addr.add] using R
  exact⟨a,U,hs,λj u g=>by
   have:=Eb (M j u g)
   rwa [wq a _ _ hs]at this⟩
theorem uZ {f:Func}{s:ChangeSpec}{l x y z:Bool}{W d:World}{i:Array Value}{v:Value}{e g:List (DataW H)}{a pa pv:List MemPlace}
  (k:DataW.Whole enc P f.params.toList s.vars l W i.toList e g a)
  (m:∀(b:Nat)(c:Nat->Bool)(hd:Bool),DataW.TrodAll enc P d b c hd f.resultTypes.toList (v.resultList f.resultTypes.size) (s.fn H (e++g)).results [])
  (n:∀c:Nat->Bool,(∀p∈a,c p.block=true)->DataW.TrodAll enc P d 0 c true f.params.toList i.toList (s.fn H (e++g)).args pa)
  (o:∀c:Nat->Bool,(∀p∈a,c p.block=true)->DataW.TrodVars enc P d c s.vars (s.fn H (e++g)).vars pv)
  (h:a=pa++pv) (q:RowKit.Below W.heap.size W d)
  (A:∀(j:Nat)(t:TypeId)(r:Value),f.resultTypes[j]?=some t->(v.resultList f.resultTypes.size)[j]?=some r->Value.okWide P d .any 0 t r) :
  s.post enc P f l x y z W i v d:=by
 have u:∀p∈a,p.block<W.heap.size:=λp hp=>k.lt p hp;have hold:∀p∈a,(λb=>decide (b<W.heap.size)) p.block=true:=λp hp=>by simpa using u p hp
 refine⟨e,g,a,[],pa,pv,k,m _ _ _,n _ hold,o _ hold,World.keptBut_mono (λp hp=>⟨hp, ?_⟩) (q.frame (·∈a)),λ_=>?_⟩
 .rw[h,SZ]at hp;exact Or.inr hp
 let⟨_,_,_,_,_,B,C⟩:=k;refine⟨A,_,_,([]++pa)++pv,⟨[]++pa,pv,trodAll_append (n _ (λ_ _=>rfl)) (m _ _ _),o _ (λ_ _=>rfl),U, ?_, ?_⟩, ?_⟩
 .intro b off hp;have w:MemPlace.cell b off∈a:=by rw[h];simpa using hp
  rw[q.frozen (u _ w)];exact B b off w
 .intro D;have:=C D;rw[h]at this;simpa using this
 intro p hp _;rw[h];simpa using hp
end
end Go.Jog
namespace Go.Jog
open Go
def AX (P:Program)(t:Nat):Bool:=match P.underlying t with
|some (.array _ e)=>(match P.underlying e with|some d=>tx d|none=>false) && Nat.beq (P.cellsOf e) 1 && !(P.eqGuardType P.depth t) && (P.info? e).isSome
|_=>false
def Sx (P:Program)(t:Nat)(xs:List Value):Bool:=match P.underlying t with
|some (.array m e)=>Nat.beq xs.length m && xs.all (λx=>tV (P.underlying e) x)
|_=>false
theorem ja {P:Program}{e:TypeId}{d:TypeDesc}(m:Nat)(w:World)(c:P.underlying e=some d)(f:tx d=true):∀{xs ys X Y:List Value}{i:Nat}{b:Bool},xs.all (λx=>tV (P.underlying e) x)=true->kK xs ys=some b->X.drop i=xs->Y.drop i=ys ->
  (Op.eqItems (m+1) e 1 ⟨X⟩ ⟨Y⟩ (List.range' i xs.length)).run P w=.ok b w
|[],ys,X,Y,i,b,_,a,_,_=>by
  cases ys with
 |nil=>simp[kK]at a;subst a;simp[Op.eqItems]
 |cons=>simp[kK]at a
|x::xs,ys,X,Y,i,b,g,a,h,j=>by
  cases ys with
 |nil=>simp[kK]at a
 |cons y ys =>
   simp only[List.all_cons,S1]at g;simp only[kK]at a;split at a
   .rename_i p q hp k;cases a
    have l:X[i]?=some x:=by
     have:=congrArg (·[0]?) h;simpa using this
    have hy:Y[i]?=some y:=by
     have:=congrArg (·[0]?) j;simpa using this
    have n:X.drop (i+1)=xs:=by
     have:=congrArg (List.drop 1) h;simpa using this
    have o:Y.drop (i+1)=ys:=by
     have:=congrArg (List.drop 1) j;simpa using this
    have hr:=CN hp m w g.1;have r:=ja m w c f g.2 k n o;simp only[S5,Wq,Op.eqItems,T0,Sem.run_bind,jt c f l w,jt c f hy w,hr,Result.andThen_ok];cases p
    .simp
    simpa using r
   cases a
theorem ES {P:Program}{t:Nat}(a:AX P t=true){xs ys:List Value}(c:Sx P t xs=true){b:Bool}(i:kK xs ys=some b)(w:World):(Op.equalIn 10000 t (.agg ⟨xs⟩) (.agg ⟨ys⟩)).run P w=.ok b w:=by
 unfold AX at a;unfold Sx at c;cases f:P.underlying t with
|none=>rw[f]at a;cases a
|some D =>
  rw[f]at a c;cases D <;> try (cases a)
  rename_i n e;simp only[S1]at a c;let⟨⟨⟨h1,h2⟩,h3⟩,h4⟩:=a;have j:=Tr h2;have k:=Tr c.1;cases h:P.info? e with
 |none=>rw[h]at h4;cases h4
 |some inf =>
   cases g:P.underlying e with
  |none=>rw[g]at h1;cases h1
  |some d =>
    rw[g]at h1;rw[run_equalIn_array w 9999 ⟨xs⟩ ⟨ys⟩ f h,j,<- k,Wc];exact ja 9998 w g h1 c.2 i U U
end Go.Jog
namespace Go.Jog
open Go
inductive OT where
|fin (π:List Nat)
|cut (π:List Nat) (t:OT)
|alt (i:Nat) (t:OT) (r:OT)
|stop
section
variable {P:Program} {ops:Array Oper} {ι:Type} {cls:ι->World->Prop} {le:ι->ι->Prop} {md:Region.Mode}
def DT (P:Program)(ops:Array Oper)(cls:ι->World->Prop)(le:ι->ι->Prop)(kd:Nat->Nat)(Post:Act->ι->Prop):OT->Act->ι->Prop
|.fin π=>DU P ops cls le kd Post π
|.cut π t=>DU P ops cls le kd (DT P ops cls le kd Post t) π
|.alt i t r=>λa κ=>gV P ops cls le (kd i) i (DT P ops cls le kd Post t) a κ/\DT P ops cls le kd Post r a κ
|.stop=>λ_ _=>True
def jE:OT->List Nat
|.alt i _ r=>i::jE r
|_=>[]
def O6:OT->Bool
|.fin _|.cut _ _=>true
|_=>false
def iD:List Nat->Array Bool->Array Bool
|[],listed=>listed
|i::π,listed=>iD π (listed.setIfInBounds i true)
def QI (md:Region.Mode)(ops:Array Oper)(kd:Nat->Nat):List Nat->Array Bool->Bool
|[],_=>true
|i::π,listed=>(bif Nat.ble (kd i) 1 then (Region.ready md ops listed).contains i && LN md ops kd listed i else (Region.ready md ops listed == [i])) && QI md ops kd π (listed.setIfInBounds i true)
def Kt (md:Region.Mode)(ops:Array Oper)(kd:Nat->Nat):OT->Nat->Array Bool->Bool
|.fin π,f,listed=>Nat.beq π.length f && (QI md ops kd π listed && (Region.ready md ops (iD π listed)).isEmpty)
|.cut π t,f,listed=>Nat.blt π.length f && (QI md ops kd π listed && ((Region.ready md ops (iD π listed)).all (λi=>(jE t).contains i) && (!(Region.ready md ops (iD π listed)).isEmpty && Kt md ops kd t (f-π.length) (iD π listed))))
|.alt i t r,f,listed=>(Nat.blt 0 f && (O6 t && Kt md ops kd t (f-1) (listed.setIfInBounds i true))) && Kt md ops kd r f listed
|.stop,_,_=>true
theorem fA (r:∀a b c,le a b->le b c->le a c){k:Nat->Nat}{u K:Act->ι->Prop}(s:Region.noSelect ops=true){f:Nat} :
  ∀(d:List Nat)(e:Array Bool)(a:Act)(κ:ι),Closed md ops e->QI md ops k d e=true->(∀a κ,Closed md ops (iD d e)->K a κ->lR P md ops cls le k u f (iD d e) a κ) ->
   DU P ops cls le k K d a κ->lR P md ops cls le k u (d.length+f) e a κ
|[],e,a,κ,l,_,n,h=>by
  rw[Tp,TX];exact n a κ l h
|i::d,e,a,κ,l,w,n,h=>by
  simp only[QI,S1]at w;let⟨g,x⟩:=w;rw[S5,Nat.add_right_comm];by_cases p:k i<=1
  .have t:Nat.ble (k i) 1=true:=by rw[UC];exact p
   rw[t]at g;simp only[Ux,S1,V5]at g;let⟨hr,y⟩:=g;simp only[DU]at h;unfold gV at h;cases q:ops[i]? with
  |none=>simp only[q]at h
  |some o =>
    simp only[q,p,UK]at h;let⟨v,hy,A⟩:=h;refine oA (F:=ops.size) r q p (λj o cs b=>Region.noSelect_spec s j o cs b) (d.length+f) e a κ l (λj I m B C=>?_) hr hy
     (fA r s d _ _ κ (l.set hr) x n A)
    simp only[LN,q,S3,S7]at y;have:=y j (UJ.1 m).1;simp only[m,UG,Uo,B,false_or,C,TG,S1,UC]at this;rcases this with h1|h1
    .exact .inr h1
    exact .inl h1
  have t:Nat.ble (k i) 1=false:=by
   cases z:Nat.ble (k i) 1 with
  |false=>rfl
  |true=>exact absurd (by rw[UC]at z;exact z) p
  rw[t]at g;simp only[cond_false,Uo]at g;have D:i∈Region.ready md ops e:=by rw[g];simp
  refine⟨λh0=>(by rw[h0]at g;cases g),λj m=>?_⟩;rw[g]at m;obtain rfl:j=i:=by simpa using m
  exact jU (λE G H=>fA r s d _ E G (l.set D) x n H) h
theorem gr (p:∀a b c,le a b->le b c->le a c){q:Nat->Nat}{z:Act->ι->Prop}(s:Region.noSelect ops=true) :
  ∀(t:OT)(f:Nat)(d:Array Bool)(a:Act)(κ:ι),Closed md ops d->Kt md ops q t f d=true->DT P ops cls le q z t a κ ->
   (match t with
   |.fin _|.cut _ _=>lR P md ops cls le q z f d a κ
   |_=>∀i∈jE t,i∈Region.ready md ops d->(∃n,f=n+1/\gV P ops cls le (q i) i (lR P md ops cls le q z n (d.setIfInBounds i true)) a κ))
|.fin g,f,d,a,κ,o,k,h=>by
  simp only[Kt,S1,Vm]at k;let⟨A,u,v⟩:=k;have:=Tr A;have h2:=fA (f:=0) p s g d a κ o u (λa κ _ B=>⟨v,B⟩) h;rw[Um,this]at h2;exact h2
|.cut g t,f,d,a,κ,o,k,h=>by
  simp only[Kt,S1,S3]at k;let⟨A,u,v,C,F⟩:=k;rw[Wa]at A;have G:Region.ready md ops (iD g d)≠[]:=λe=>by rw[e]at C;cases C
  have h2:=fA (f:=f-g.length) p s g d a κ o u (λa κ H B=>by
   have l:=gr p s t (f-g.length) (iD g d) a κ H F B;let⟨n,I⟩:∃n,f-g.length=n+1:=⟨f-g.length-1,by omega⟩;rw[I]at l⊢;refine⟨λh0=>absurd h0 G,λi m=>?_⟩;have w:=v i m;rw[V5]at w;cases t with
  |fin x=>simp[jE]at w
  |cut x y=>simp[jE]at w
  |stop=>simp[jE]at w
  |alt j y r' =>
    let⟨J,Q,hs⟩:=l i w m;obtain rfl:n=J:=by omega
    exact hs) h
  rw[show g.length+(f-g.length)=f by omega]at h2;exact h2
|.alt j t r,f,d,a,κ,o,k,h=>by
  simp only[Kt,S1]at k;let⟨⟨K,D,u⟩,v⟩:=k;rw[Wa]at K;intro i m hr;simp only[jE,SY]at m;by_cases E:i=j
  .subst E;refine⟨f-1,by omega,jU (λL M N=>?_) h.1⟩;have l:=gr p s t (f-1) _ L M (o.set hr) u N;cases t with
  |fin x=>exact l
  |cut x y=>exact l
  |stop=>cases D
  |alt O y r'=>cases D
  have h2:=m.resolve_left E;have l:=gr p s r f d a κ o v h.2;cases r with
 |fin x=>simp[jE]at h2
 |cut x y=>simp[jE]at h2
 |stop=>simp[jE]at h2
 |alt O y r'=>exact l i h2 hr
|.stop,_,_,_,_,_,_,_=>by
  intro i m;simp[jE]at m
theorem sy (W:Cw P)(n:W.nd ops)(d:∀κ,le κ κ)(o:∀a b c,le a b->le b c->le a c){e:Nat->Nat}{f:Act->ι->Prop}{p:Nat}{Q:Exit->Act->World->Prop}{a:Act}{w:World}{κ:ι}
  (q:P.follows .mixedOrders=true) (g:cls κ { w with drawn:=w.drawn+1 }) (t:OT) (k:O6 t=true)
  (l:(Region.noSelect ops && Kt .any ops e t ops.size (Array.replicate ops.size false))=true) (h:DT P ops cls le e f t a κ)
  (m:∀a κ w,f a κ->cls κ w->Q .normal a w):W.wp (Code.region p ops true) Q a w:=by
 simp only[S1]at l;let⟨hs,s⟩:=l;refine W.any q n ?_;have h0:Closed .any ops (Array.replicate ops.size false):=λj x _ u=>by
  rcases Th j ops.size with h|h <;> simp[h]at u
 have:=gr o hs t ops.size _ a κ h0 s h;cases t with
|fin v=>exact jT d m _ _ _ _ _ g this
|cut v t=>exact jT d m _ _ _ _ _ g this
|stop=>cases k
|alt i t r=>cases k
end
section
variable {cx:Cx} {n:Nat} {ds:List (Option Nat)} {fr:Fr} {C:Mem} {L:List Ent}
def RgT (P:Program)(R:Rg n ds)(t:OT):Rg n ds:=⟨R.b,R.ops,R.kd,DT P R.ops R.b.cls kle R.kd R.Post t,R.hy,R.dd⟩
def DN (cx:Cx)(R:Rg n ds)(l:List Oper)(ov:List (Nat × Nat)):OT->Fr->Mem->List Ent->Prop
|.fin π=>D cx R (jh l ov π)
|.cut π t=>D cx (RgT cx.P R t) (jh l ov π)
|_=>λ_ _ _=>True
def DA (cx:Cx)(R:Rg n ds)(l:List Oper)(ov:List (Nat × Nat)):OT->Fr->Mem->List Ent->Prop
|.alt i (.fin π) r=>λfr C L=>D cx R (jh l ov (i::π)) fr C L/\DA cx R l ov r fr C L
|.alt i (.cut π t) r=>λfr C L=>D cx (RgT cx.P R t) (jh l ov (i::π)) fr C L/\DA cx R l ov r fr C L
|.stop=>λ_ _ _=>True
|_=>λ_ _ _=>False
def LG (m:Nat):OT->Bool
|.fin π=>π.all (λi=>Nat.blt i m)
|.cut π t=>π.all (λi=>Nat.blt i m) && LG m t
|.alt i t r=>Nat.blt i m && (LG m t && LG m r)
|.stop=>true
theorem vB {R:Rg n ds}{l:List Oper}{a:List (Nat × Nat)}(d:∀i,i<l.length->R.kd i=ovr a i (fZ (oU l i))/\R.ops[i]?=some (oU l i)){b:List Nat}(h:b.all (λi=>Nat.blt i l.length)=true) :
  ∀x∈jh l a b,R.kd x.1=x.2.1/\R.ops[x.1]?=some x.2.2:=λx e=>by
 let⟨h1,h2,h3⟩:=ia e;have c:=S3.1 h x.1 h1;rw[Wa]at c;have:=d x.1 c;exact⟨this.1.trans h2.symm,by rw[this.2,h3]⟩
theorem wx {R:Rg n ds}{l:List Oper}{g:List (Nat × Nat)}(d:∀i,i<l.length->R.kd i=ovr g i (fZ (oU l i))/\R.ops[i]?=some (oU l i))(e:R.b.C0.le C){a:Act}(f:FrOk n ds R.dd fr a) :
  ∀(t:OT),LG l.length t=true->DA cx R l g t fr C L->DT cx.P R.ops R.b.cls kle R.kd R.Post t a (C,L)
|.alt i (.fin j) r,c,h=>by
  simp only[LG,S1]at c;have h1:=h.1 e (vB d (by simp only[List.all_cons,S1];exact⟨c.1,c.2.1⟩)) a f;rw[eL]at h1;exact⟨h1,wx d e f r c.2.2 h.2⟩
|.alt i (.cut j t) r,c,h=>by
  simp only[LG,S1]at c;have h1:=h.1 e (vB (R:=RgT cx.P R t) d (by simp only[List.all_cons,S1];exact⟨c.1,c.2.1.1⟩)) a f;rw[eL]at h1;exact⟨h1,wx d e f r c.2.2 h.2⟩
|.stop,_,_=>trivial
|.fin _,_,h=>h.elim
|.cut _ _,_,h=>h.elim
|.alt _ (.alt _ _ _) _,_,h=>h.elim
|.alt _ .stop _,_,h=>h.elim
theorem Xh {R:Rg n ds}{l:List Oper}{a:List (Nat × Nat)}{t:OT}(b:∀i,i<l.length->R.kd i=ovr a i (fZ (oU l i))/\R.ops[i]?=some (oU l i))(c:LG l.length t=true)(h:DA cx R l a t fr C L):D cx (RgT cx.P R t) [] fr C L :=
 λh0 _ _ d=>wx b h0 d t c h
end
section
variable {F:Fx} {k:List KI} {fr:Fr} {C:Mem} {L:List Ent}
theorem Xt {z:Nat}{l:List Oper}(t:OT)(f:List (Nat × Nat))(c:fr.all (λx=>x.2.1.isEmpty)=true)(o:O6 t=true)
  (j:((Region.noSelect l.toArray && Kt .any l.toArray (λi=>ovr f i (fZ (oU l i))) t l.toArray.size (Array.replicate l.toArray.size false)) && LG l.length t)=true)
  (h:∀R:Rg F.n (l.map (·.dst)),C.le R.b.C0->(∀fr C L,fr.all (λx=>x.2.1.isEmpty)=true->G F (kJ 64 k) .normal fr C L->D F.cx R [] fr C L) ->
   (∀i,i<l.length->R.kd i=ovr f i (fZ (oU l i))/\R.ops[i]?=some (oU l i))->DN F.cx R l f t fr C L) (A:F.W.nd l.toArray:=by first|exact trivial|exact rfl) :
  G F (.code (.region z l.toArray true)::k) .normal fr C L:=λh0 a w d e=>by
 simp only[Kq];rw[S1]at j
 let kd:=λi=>ovr f i (fZ (oU l i))
 let b:Bs:=⟨F.b.w0,C,F.b.L0⟩
 let Post:Act->Mem × List Ent->Prop:=λa κ=>∀w,b.cls κ w->Kq F k .normal a w
 let R:Rg F.n (l.map (·.dst)):=⟨b,l.toArray,kd,Post,λtmps=>gS l tmps,F.dd⟩
 have B:∀κ w,b.cls κ w->F.b.cls κ w:=λκ w E=>St.unbase h0 e.cn E;have q:∀i,i<l.length->R.kd i=ovr f i (fZ (oU l i))/\R.ops[i]?=some (oU l i):=λi m=>⟨rfl,by
  show(l.toArray)[i]?=_;rw[T9,gZ m]⟩
 have u:=h R l_ (λfr N L c H I _ a d w e=>Xf 64 H (h0.trans I) a w ⟨d.size,d.defers,λs g v y=>by
  have hm:=S3.1 c _ (Fr.get_mem y);simp only[Vm]at hm;subst hm;exact⟨λ_=>(d.ent s [] v y).1 (λp c=>by cases c),λJ=>absurd (λp c=>by cases c) J⟩⟩ (B _ _ e)) q
 have hT:DT F.cx.P l.toArray b.cls kle kd Post t a (C,L):=by
  cases t with
 |fin K =>
   have h1:=u l_ (vB q j.2) a (d.enter _ c);rw[eL]at h1;exact h1
 |cut K t =>
   have m:=j.2;simp only[LG,S1]at m;have h1:=u l_ (vB (R:=RgT F.cx.P R t) q m.1) a (d.enter _ c);rw[eL]at h1;exact h1
 |stop=>cases o
 |alt i t r=>cases o
 exact sy F.W A (cls:=b.cls) (le:=kle) kle.refl kle.trans F.cx.mixed (St.rebase (St.drew e)) t o j.1 hT (λa κ w M e=>M w e)
end
end Go.Jog
namespace Go.Jog
open Go Go.MapKept
section
variable {κ β:Type} [DecidableEq κ]
def eh:List (κ × β)->κ->Option β
|[],_=>none
|(k',v)::m,k=>if k'=k then some v else eh m k
def jd:List (κ × β)->κ->β->List (κ × β)
|[],k,v=>[(k,v)]
|(k',v')::m,k,v=>if k'=k then (k,v)::m else (k',v')::jd m k v
theorem Dz {a:Type}(f:β->a):∀(m:List (κ × β))(k:κ),eh (m.map λp=>(p.1,f p.2)) k=(eh m k).map f
|[],_=>rfl
|(b,v)::m,k=>by
  simp only[Tq,eh];split
  .rfl
  exact Dz f m k
def kT:List (κ × β)->κ->Option (Nat × β)
|[],_=>none
|(k',v)::m,k=>if k'=k then some (0,v) else (kT m k).map λp=>(p.1+1,p.2)
theorem rj:∀(m:List (κ × β))(k:κ),(kT m k).map (·.2)=eh m k
|[],_=>rfl
|(a,v)::m,k=>by
  simp only[kT,eh];split
  .rfl
  rw[<- rj m k];cases kT m k <;> rfl
end
structure KeyT (d:TypeDesc)(κ:Type)[DecidableEq κ] where
 enc:κ->Value
 isKey:∀a,IsKey d (enc a)
 same:∀a b,Instr.sameNow d (enc a) (enc b)=some (decide (a=b))
def bJ {κ:Type}(enc:κ->Value):List (κ × Value)->Nat->List MapEntry
|[],_=>[]
|(k,v)::m,i=>⟨enc k,v,i⟩::bJ enc m (i+1)
def bh {κ:Type}(enc:κ->Value)(m:List (κ × Value)):Obj:=.map ⟨bJ enc m 0⟩ m.length
section
variable {d:TypeDesc} {κ:Type} [DecidableEq κ] (K:KeyT d κ)
theorem iN (k:κ):∀(m:List (κ × Value))(i j:Nat),Instr.findNow d (K.enc k) (bJ K.enc m i) j=some ((kT m k).map λp=>(j+p.1,p.2))
|[],i,j=>rfl
|(a,v)::m,i,j=>by
  simp only[bJ,Instr.findNow,K.same];by_cases h:k=a
  .subst h;simp[kT]
  have b:¬ a=k:=λe=>h e.symm;simp only[h,decide_false,iN k m (i+1) (j+1),kT,aF b];cases kT m k with
 |none=>rfl
 |some p=>simp;omega
theorem oI {a:Type}(b:a->Value):∀(m:List (a × Value))(i:Nat),(bJ b m i).length=m.length
|[],_=>rfl
|_::m,i=>by simp[bJ,oI b m]
theorem tH {k:κ}{v:Value}:∀{m:List (κ × Value)}{i:Nat},kT m k=none->bJ K.enc m i++[⟨K.enc k,v,i+m.length⟩]=bJ K.enc (jd m k v) i/\(jd m k v).length=m.length+1
|[],i,_=>⟨rfl,rfl⟩
|(d,e)::m,i,h=>by
  simp only[kT]at h;split at h
  .cases h
  rename_i a;have b:kT m k=none:=by
   cases c:kT m k with
  |none=>rfl
  |some p=>rw[c]at h;cases h
  let⟨h1,h2⟩:=tH (i:=i+1) (v:=v) b;simp only[jd,aF a,bJ,UA,S5,h2];refine⟨?_,trivial⟩;rw[<- h1];congr 3;congr 1;omega
theorem tG {k:κ}{v:Value}:∀{m:List (κ × Value)}{i q:Nat}{u:Value},kT m k=some (q,u)->(bJ K.enc m i).modify q (λe=>{ e with key:=K.enc k,val:=v })=bJ K.enc (jd m k v) i/\(jd m k v).length=m.length/\((bJ K.enc m i)[q]?).map (·.key)=some (K.enc k)
|[],_,_,_,h=>by cases h
|(c,d)::m,i,q,u,h=>by
  simp only[kT]at h;split at h
  .rename_i e;subst e;cases h
   simp[bJ,jd]
  rename_i b;cases a:kT m k with
 |none=>rw[a]at h;cases h
 |some p =>
   let⟨f,g⟩:=p;rw[a]at h;cases h
   let⟨h1,h2,h3⟩:=tG (i:=i+1) (v:=v) a;simp only[jd,aF b,bJ,S5,h2,List.modify_succ_cons,h1];exact⟨trivial,trivial,by simpa using h3⟩
end
theorem ip {T:Tab}{P:Program}(f:oZ P T=true){t k e:Nat}{a:TI}(h:T.get t=some a)(c:a.k=.map k e):P.underlying t=some (.map k e):=by
 let⟨i,s,b,z,g⟩:=a;simp only at c;subst c;let⟨d,h1,h2⟩:=Nl f h;cases d <;> simp[tkB]at h2
 rw[h1,h2.1,h2.2]
section
variable {cx:Cx} {n:Nat} {ds:List (Option Nat)} {R:Rg n ds} {its:List It} {fr:Fr} {C:Mem} {L:List Ent} {i k d:Nat} {o:Oper} {g:GL} {v:Value}
variable {kd:TypeDesc} {κ:Type} [DecidableEq κ] (K:KeyT kd κ)
theorem D.makeMap {t:Nat}(c:Nat.ble k 1=false)(e:o.dst=some d)(g:gOn ds fr o.guard=true)(j:o.op=.makeMap t none)(l:∀v,aZ n ds ((d,[],v)::fr) d=true)
  (h:∀b,D cx R its ((d,[],.map (some b))::fr) C (.obj b (bh K.enc [])::L)):D cx R ((i,k,o)::its) fr C L :=
 XO (f:=λb=>.map (some b)) (ob:=bh K.enc []) c e g l (λa _ w=>by
  have m:execOp a.eval o=(do Pure.pure (.value (<- Instr.makeMap t none)):Sem Next):=by unfold execOp;rw[j];rfl
  rw[m];rfl) h
def mF (z:Value)(ok:Bool):Option Value->Value
|some u=>bif ok then .tuple #[u,.bool true] else u
|none=>bif ok then .tuple #[z,.bool false] else z
theorem EQ {P:Program}{T:Tab}(c:oZ P T=true){t d e:Nat}{f g:TI}{a:Bool}(i:T.get t=some f)(j:f.k=.map d e)(h:P.underlying d=some kd)(l:T.get e=some g){w:World}{b:Nat}{m:List (κ × Value)}(n:w.heap[b]?=some (bh K.enc m))(y:κ) :
  (Instr.lookup t (.map (some b)) (K.enc y) a).run P w=.ok (mF g.zv a (eh m y)) w:=by
 have o:=ip c i j;have q:=iN K y m 0 0;have h1:(getObj b).run P w=.ok (.map ⟨bJ K.enc m 0⟩ m.length) w:=Go.MapKept.run_getObj_map n;have h2:=run_findKey (P:=P) (w:=w) h q;rw[<- rj];unfold Instr.lookup;simp only[Sem.run_bind,run_underlying o,Result.andThen_ok,h1,Sem.run_pure,run_checkKey h (K.isKey y)];rw[h2];cases kT m y with
|none=>cases a <;> simp[mF,pN c l w]
|some p=>cases a <;> simp[mF]
theorem XM {b t j l:Nat}{x y:Operand}{c:Bool}{m:List (κ × Value)}{f:κ}{p q:TI}(s:Ent.obj b (bh K.enc m)∈L)(r:k=1)(u:o.dst=some d)(z:o.op=.lookup t x y c)(A:gOf ds fr o.guard=some g)(B:ev fr g x=some (.map (some b)))(E:ev fr g y=some (K.enc f))
  (F:cx.T.get t=some p) (G:p.k=.map j l) (H:cx.P.underlying j=some kd) (I:cx.T.get l=some q) (J:mF q.zv c (eh m f)=v) (M:aZ n ds ((d,g,v)::fr) d=true) (N:wfG ds fr g=true)
  (h:D cx R its ((d,g,v)::fr) C L):D cx R ((i,k,o)::its) fr C L :=
 Xe (by subst r;rfl) u A M N (λ_ a hs X O w Q=>by
  have S:w.heap[b]?=some (bh K.enc m):=Q.sep.e _ ((O r).2 _ s);have V:(execOp a.eval o).run cx.P w=.ok (.value v) w:=by
   have W:execOp a.eval o=(do Pure.pure (.value (<- Instr.lookup t (a.eval x) (a.eval y) c)):Sem Next):=by unfold execOp;rw[z]
   rw[W,hs _ _ B,hs _ _ E,<- J];simp only[Sem.run_bind,EQ K cx.hT F G H I S f,Result.andThen_ok,Sem.run_pure]
  unfold Oper.quietAt;rw[V];exact⟨U,U⟩) h
theorem D.mapUpdate {t l F j b:Nat}{x y z:Operand}{m:List (κ × Value)}{c:κ}{n:TI}(G:k=3)(H:gOn ds fr o.guard=true)(I:o.dst=none)(J:o.op=.mapUpdate t x y z)
  (M:ev fr [] x=some (.map (some b))) (N:ev fr [] y=some (K.enc c)) (O:ev fr [] z=some v) (Q:L[j]?=some (.obj b (bh K.enc m)))
  (V:cx.T.get t=some n) (W:n.k=.map l F) (r:cx.P.underlying l=some kd)
  (h:D cx R its fr C (.obj b (bh K.enc (jd m c v))::L.eraseIdx j)):D cx R ((i,k,o)::its) fr C L :=
 XI (S:=λs L'=>s=C/\L'=.obj b (bh K.enc (jd m c v))::L.eraseIdx j) (by subst G;rfl) H (λa hs w _ X=>by
  have A:=St.perm X (ax Q);have f:w.heap[b]?=some (bh K.enc m):=A.sep.e _ (SK ..);have Y:=ip cx.hT V W;have Z:=iN K c m 0 0;have h1:(getObj b).run cx.P w=.ok (.map ⟨bJ K.enc m 0⟩ m.length) w:=Go.MapKept.run_getObj_map f;have h2:=run_findKey (P:=cx.P) (w:=w) r Z;have aa:(Instr.mapUpdate t (.map (some b)) (K.enc c) v).run cx.P w=.ok () { w with heap:=w.heap.setIfInBounds b (bh K.enc (jd m c v)) }:=by
   unfold Instr.mapUpdate;simp only[Sem.run_bind,run_underlying Y,Result.andThen_ok,h1,run_checkKey r (K.isKey c)];rw[h2];cases B:kT m c with
  |none =>
    let⟨h3,h4⟩:=tH K (v:=v) (i:=0) B;simp only[Option.map_none,Result.andThen_ok];rw[Go.MapKept.run_setObj_map (P:=cx.P) _ f];congr 2;simp only[bh,h4,<- h3,TX];congr 2;apply Uz;simp
  |some p =>
    let⟨q,u⟩:=p;let⟨h3,h4,h5⟩:=tG K (v:=v) (i:=0) B;have hq:(((⟨bJ K.enc m 0⟩:Array MapEntry)[0+q]?).map (·.key)).getD (K.enc c)=K.enc c:=by
     rw[TX];show(((bJ K.enc m 0).toArray[q]?).map (·.key)).getD (K.enc c)=K.enc c;rw[T9,h5];rfl
    simp only[Uk,Result.andThen_ok,Sem.run_bind];rw[hq,run_keyThatStays (d:=kd) (K.isKey c)];simp only[Result.andThen_ok];rw[Go.MapKept.run_setObj_map (P:=cx.P) _ f];congr 2;simp only[bh,h4,<- h3,TX];congr 2;apply Uz;simp
  have ab:(execOp a.eval o).run cx.P w=.ok .skip { w with heap:=w.heap.setIfInBounds b (bh K.enc (jd m c v)) }:=by
   have g:execOp a.eval o=(do Instr.mapUpdate t (a.eval x) (a.eval y) (a.eval z);Pure.pure .skip:Sem Next):=by unfold execOp;rw[J]
   rw[g,hs _ _ M,hs _ _ N,hs _ _ O];simp only[Sem.run_bind,aa,Result.andThen_ok,Sem.run_pure]
  unfold Oper.wp;rw[ab];have E:=heap_set (o':=bh K.enc (jd m c v)) f;refine⟨C,.obj b (bh K.enc (jd m c v))::L.eraseIdx j, ?_,Mem.le.refl _,λh2=>by omega,St.put A E.1 E.2 am U U U (SH _),U,U⟩;rw[I];rfl)
  (λs L' _ ⟨g,e2⟩=>by subst g;subst e2;exact h)
end
theorem GK (a b:List UInt8):((⟨a.toArray⟩:ByteArray) == ⟨b.toArray⟩)=decide (a=b):=by
 by_cases h:a=b
 .subst h;simp[(bytes_beq _ _).2 rfl]
 have:¬ ((⟨a.toArray⟩:ByteArray) == ⟨b.toArray⟩)=true:=λe=>h (by
  have:=(bytes_beq _ _).1 e;have h2:=congrArg (λx:ByteArray=>x.data.toList) this;simpa using h2)
 simp[h,Bool.eq_false_iff.2 this]
def keyS:KeyT .string (List UInt8) where
 enc s:=.string ⟨s.toArray⟩
 isKey _:=trivial
 same a b:=by simp only[Instr.sameNow,GK]
end Go.Jog
namespace Go.Jog
open Go
variable {C C0:Mem}{L L0:List Ent}{b:Nat}{ob:Obj}{w w0:World}
def Mem.unset (C:Mem)(b:Nat):Mem:=λk=>if k=b then none else C k
theorem Mem.unset_le (C:Mem)(b:Nat):(C.unset b).le C:=λk o h=>by
 unfold Mem.unset at h;split at h
 .cases h
 exact h
theorem Mem.le_unset {D:Mem}(h:C.le D)(c:C b=none):C.le (D.unset b):=λk o a=>by
 unfold Mem.unset;split
 .rename_i e;subst e;rw[c]at a;cases a
 exact h k o a
theorem St.aside (h:St w0 C0 L0 C (.obj b ob::L) w):St w (C.set b ob) L (C.set b ob) L w :=
 (St.freeze h).2 |> λs=>St.start s.sep
theorem St.back {f:Mem}{g:List Ent}{i:World}(h:St w0 C0 L0 C (.obj b ob::L) w)(k:St w (C.set b ob) L f g i):St w0 C0 L0 (f.unset b) (.obj b ob::g) i:=by
 have j:C b=none:=h.sep.n b ⟨_,SK ..,rfl⟩;have l:C.le f:=(Mem.le_set j).trans k.c0;have k2:St w C L (f.unset b) g i:=⟨⟨λq o a=>k.sep.c q o (Mem.unset_le _ _ q o a),k.sep.e,k.sep.d,λq a=>by
   have:=k.sep.n q a;unfold Mem.unset;split
   .rfl
   .exact this⟩,k.ev,Mem.le_unset l j,λq o a=>by
   have m:q≠b:=λe=>by subst e;simp[Mem.unset]at a
   rcases k.cn q o (Mem.unset_le _ _ q o a) with h1|h1
   .unfold Mem.set at h1;rw[aF m]at h1;exact .inl h1
   exact .inr h1,k.ln⟩
 have h2:St w0 C0 L0 C (L++[.obj b ob]) w:=St.perm h (TR (l₁:=[Ent.obj b ob]) (l₂:=L));exact St.perm (St.call h2 k2) (TR (l₁:=g) (l₂:=[Ent.obj b ob]))
section
variable {F:Fx} {k:List KI} {fr:Fr} {C:Mem} {L:List Ent}
theorem X6 {J:Nat}{l:List Oper}(j:Nat){b:Nat}{d:Obj}(K:L[j]?=some (.obj b d))(e:List Nat)(q:List (Nat × Nat))(c:fr.all (λx=>x.2.1.isEmpty)=true)
  (r:(Region.noSelect l.toArray && (e.length == l.toArray.size) && N9 .any l.toArray (λi=>ovr q i (fZ (oU l i))) e (Array.replicate l.toArray.size false) && e.all (λi=>Nat.blt i l.length))=true)
  (h:∀(o:Mem)(R:Rg F.n (l.map (·.dst))),C.le o->o b=some d->o.le R.b.C0->(∀fr t u,fr.all (λx=>x.2.1.isEmpty)=true->(∀z,C.le z->G F (kJ 64 k) .normal fr z (.obj b d::u))->D F.cx R [] fr t u)->D F.cx R (jh l q e) fr o (L.eraseIdx j)) (M:F.W.nd l.toArray:=by first|exact trivial|exact rfl) :
  G F (.code (.region J l.toArray true)::k) .normal fr C L:=λh0 a w f N=>by
 simp only[Kq];have m:St F.b.w0 F.b.C0 F.b.L0 C (.obj b d::L.eraseIdx j) w:=St.perm N (ax K);rw[S1]at r;have y:C b=none:=m.sep.n b ⟨_,SK ..,rfl⟩
 let kd:=λi=>ovr q i (fZ (oU l i))
 let bs:Bs:=⟨w,C.set b d,L.eraseIdx j⟩
 let Post:Act->Mem × List Ent->Prop:=λa κ=>∀w,bs.cls κ w->Kq F k .normal a w
 let R:Rg F.n (l.map (·.dst)):=⟨bs,l.toArray,kd,Post,λtmps=>gS l tmps,F.dd⟩
 have A:=h (C.set b d) R (Mem.le_set y) (Mem.set_self _ _ _) l_ (λfr t u c O U _ a f w' B=>by
  have P:=St.back m B;have E:C.le (t.unset b):=Mem.le_unset ((Mem.le_set y).trans B.c0) y;exact Xf 64 (O _ E) (h0.trans E) a w' ⟨f.size,f.defers,λs g v H=>by
   have hm:=S3.1 c _ (Fr.get_mem H);simp only[Vm]at hm;subst hm;exact⟨λ_=>(f.ent s [] v H).1 (λp c=>by cases c),λQ=>absurd (λp c=>by cases c) Q⟩⟩ P) l_ (λx S=>by
   let⟨h1,h2,h3⟩:=ia S;refine⟨h2.symm, ?_⟩;have I:=S3.1 r.2 x.1 h1;rw[Wa]at I;show(l.toArray)[x.1]?=_;rw[T9,gZ I,h3]) a (f.enter _ c)
 rw[eL]at A;exact lO F.W M (cls:=bs.cls) (le:=kle) kle.refl kle.trans F.cx.mixed (St.drew (St.aside m)) e r.1 A (λa κ w T m=>T w m)
end
end Go.Jog
namespace Go.Jog
structure Arc3 where
 i:Nat
 lo:Nat
 up:Nat
 deriving DecidableEq,Inhabited
def MI:Nat->List Arc3->Nat->Prop
|u,[],v=>u=v
|u,a::p,v=>a.lo=u/\MI a.up p v
def In (A p:List Arc3):Prop:=∀a∈p,a∈A
def SF (A:List Arc3)(k u v:Nat):Prop:=∃p,In A p/\p.length=k/\MI u p v
end Go.Jog
namespace Go.Jog
def dAt (d:List Int)(u:Nat):Int:=d.getD u (-1)
def fin (d:List Int):Nat:=d.countP (λx=>decide (0<=x))
structure P5 (A:List Arc3)(to n:Nat)(d:List Int):Prop where
 len:d.length=n
 neg:∀u,u<n->-1<=dAt d u
 small:∀u,u<n->dAt d u<fin d
 walk:∀u,u<n->0<=dAt d u->SF A (dAt d u).toNat u to
 zero:dAt d to=0
def P3 (d:List Int)(a:Arc3):Prop:=0<=dAt d a.up->0<=dAt d a.lo/\dAt d a.lo<=dAt d a.up+1
def nums (p:List Arc3):List Nat:=p.map (·.i)
def RT (x y:List Nat):Prop:=∃c b b' s s',x=c++b::s/\y=c++b'::s'/\b<b'
def above (A:List Arc3)(i:Nat):List Arc3:=A.filter λa=>decide (i<a.i)
structure Greedy (A:List Arc3)(from_ to m:Nat)(p:List Arc3)(at_:Nat):Prop where
 inA:In A p
 chain:MI from_ p at_
 ahead:∀r,In A r->MI from_ r to->r.length=m->(∃s,r=p++s)∨RT (nums p) (nums r)
end Go.Jog
namespace Go.Jog
def Ord (A:List Arc3)(o:List Nat):Prop:=∀pre u post,o=pre++u::post->∀a∈A,a.up=u->a.lo∈pre
def Topo (A:List Arc3)(n:Nat)(o:List Nat):Prop:=o.length=n/\o.Nodup/\(∀u∈o,u<n)/\Ord A o
def cnt (A:List Arc3)(dn:List Nat)(u:Nat):Nat:=A.countP λa=>decide (a.up=u) && !(dn.contains a.lo)
structure Kahn (A:List Arc3)(n:Nat)(dn av:List Nat):Prop where
 nodup:dn.Nodup
 below:∀u∈dn,u<n
 ord:Ord A dn
 avnd:av.Nodup
 av:∀u,u∈av ↔ u<n/\u ∉ dn/\cnt A dn u=0
 least:∀o,Topo A n o->(∃s,o=dn++s)∨RT dn o
end Go.Jog
namespace Go.Jog
def addW (o:Nat)(self:Bool)(x:Nat):Nat:=max (if self=true then max x 1 else x) (if 0<o then min 8 (o+1) else 0)
def rowT (f:Nat->Nat->Nat)(c v:Nat):List Arc3->Nat->Nat
|[],x=>x
|a::l,x=>rowT f c v l (if a.up=v then addW (f c a.lo) (decide (c=a.lo)) x else x)
def tab (A:List Arc3):Nat->Nat->Nat->Nat
|0,_,_=>0
|k+1,c,v=>rowT (tab A k) c v A (tab A k c v)
end Go.Jog
namespace Go.Jog
variable {a b:List Nat}{i:Nat}{l:List Nat}{x:Nat}
abbrev BP:Nat:=10000
def bx:List Nat->Nat
|[]=>0
|x::l=>x+BP*bx l
def DigP (l:List Nat):Prop:=∀x∈l,x<BP
def BS (l:List Nat):Prop:=DigP l/\l.getLast?≠some 0
theorem io:∀(a b:List Nat),bx (a++b)=bx a+BP ^ a.length*bx b
|[],b=>by simp[bx]
|x::a,b=>by
  simp only[UA,bx,io a b,S5,T3];rw[TT,<- Ur,Tt (BP ^ a.length) BP,UQ]
theorem pS (a:List Nat)(x:Nat):bx (a++[x])=bx a+BP ^ a.length*x:=by
 rw[io];simp[bx]
theorem nF:∀{l:List Nat},DigP l->bx l<BP ^ l.length
|[],_=>by simp[bx]
|x::l,h=>by
  have h1:=h x am;have h2:=nF (l:=l) (λy hy=>h y (by simp[hy]));simp only[bx,S5,T3];have h3:BP*(bx l+1)<=BP*BP ^ l.length:=Ua _ h2;rw[Tt (BP ^ l.length) BP];rw[TT]at h3;omega
theorem gT (h:l[i]?=some x):bx (l.take (i+1))=bx (l.take i)+BP ^ i*x:=by
 have a:=(R0.1 h).1;rw[S9,h];simp only[T7];rw[pS,S2,TJ om_]
theorem DigP.take {l:List Nat}(h:DigP l)(i:Nat):DigP (l.take i):=λx a=>h x (TP a)
theorem DigP.snoc (h:DigP l)(a:x<BP):DigP (l++[x]):=λy hy=>by
 rcases SZ.1 hy with hy|hy
 .exact h y hy
 rw[S6.1 hy];exact a
theorem sU:∀{l:List Nat},(∀x∈l,x=0)->bx l=0
|[],_=>rfl
|x::l,h=>by
  rw[bx,h x am,sU (λy hy=>h y (by simp[hy]))];rfl
def FH (l:List Nat):Nat->Nat
|0=>0
|k+1=>if l[k]?=some 0 then FH l k else k+1
def yW (l:List Nat):List Nat:=l.take (FH l l.length)
theorem rS (l:List Nat):∀k,k<=l.length->(l.take (FH l k)).getLast?≠some 0/\bx (l.take (FH l k))=bx (l.take k)
|0,_=>by simp[FH]
|k+1,b=>by
  rw[FH];let⟨x,a⟩:∃x,l[k]?=some x:=⟨l[k],aj om_⟩;split
  .rename_i h;let⟨h1,h2⟩:=rS l k om_;refine⟨h1, ?_⟩;rw[h2,gT h];simp
  rename_i h;refine⟨?_,U⟩;rw[S9,a];simp only[T7,List.getLast?_append,List.getLast?_singleton];intro e;rw[a]at h;simp at e;exact h (by rw[e])
theorem iR (l:List Nat):bx (yW l)=bx l:=by
 have:=(rS l l.length (SH _)).2;rw[SU]at this;exact this
theorem na (h:DigP l):BS (yW l):=⟨h.take _,(rS l l.length (SH _)).1⟩
theorem wj (h:BS l)(b:0<l.length):BP ^ (l.length-1)<=bx l:=by
 let⟨x,a⟩:∃x,l[l.length-1]?=some x:=⟨l[l.length-1]'om_,aj om_⟩;have h1:=gT a;rw[show l.length-1+1=l.length by omega,SU]at h1;have c:x≠0:=λe=>h.2 (by rw[UY,a,e]);rw[h1];have:BP ^ (l.length-1)*1<=BP ^ (l.length-1)*x:=Ua _ om_;omega
theorem Ed (h:BS l):bx l=0 ↔ l=[]:=by
 constructor
 .intro e;apply Ti;intro a;have:=wj h (Tw.2 a);rw[e]at this;have hp:0<BP ^ (l.length-1):=Vp dc_;omega
 rintro rfl;rfl
theorem Ij (c:DigP a)(d:BS b)(h:a.length<b.length):bx a<bx b:=by
 have h1:=nF c;have h2:=wj d om_;have h3:BP ^ a.length<=BP ^ (b.length-1):=Tb dc_ om_;omega
theorem NE {y:Nat}(e:DigP a)(l:a.length=b.length)(c:a[i]?=some x)(d:b[i]?=some y)(f:x<y)(g:a.drop (i+1)=b.drop (i+1)):bx a<bx b:=by
 have h:bx a=bx (a.take (i+1))+BP ^ (i+1)*bx (a.drop (i+1)):=by
  have j:=(R0.1 c).1
  conv=>lhs;rw[<- TE (i+1) a]
  rw[io,S2,TJ om_]
 have k:bx b=bx (b.take (i+1))+BP ^ (i+1)*bx (b.drop (i+1)):=by
  have j:=(R0.1 d).1
  conv=>lhs;rw[<- TE (i+1) b]
  rw[io,S2,TJ om_]
 rw[h,k,g,gT c,gT d];have h1:=nF (e.take i);have h2:(a.take i).length<=i:=by rw[S2];omega
 have h3:BP ^ (a.take i).length<=BP ^ i:=Tb dc_ h2;have h4:BP ^ i*(x+1)<=BP ^ i*y:=Ua _ f;rw[TT]at h4;omega
def dZ (c:UInt8):Bool:=decide (48<=c.toNat/\c.toNat<=57)
def D1 (a:Nat)(c:UInt8):Nat:=10*a+(c.toNat-48)
def bT (s:List UInt8):Nat:=s.foldl D1 0
def wK (s:List UInt8):Prop:=(∀c∈s,dZ c=true)/\s≠[]/\(s.head?=some 48->s.length=1)
theorem kz:∀(s:List UInt8)(a:Nat),s.foldl D1 a=a*10 ^ s.length+bT s
|[],a=>by simp[bT]
|c::s,a=>by
  have h1:=kz s (D1 a c);have h2:=kz s (D1 0 c);simp only[bT,VH]at h1 h2⊢;rw[h1,h2];simp only[D1,S5,T3,Ug];simp only[Wr,Nat.zero_mul,TX];rw[Tt 10 a,Ur,Tt 10,UQ]
theorem dP (c:UInt8)(s:List UInt8):bT (c::s)=(c.toNat-48)*10 ^ s.length+bT s:=by
 show s.foldl D1 (D1 0 c)=_;rw[kz];simp[D1]
theorem dB (a b:List UInt8):bT (a++b)=bT a*10 ^ b.length+bT b:=by
 show(a++b).foldl D1 0=_;rw[List.foldl_append,kz];rfl
theorem dG:∀{s:List UInt8},(∀c∈s,dZ c=true)->bT s<10 ^ s.length
|[],_=>by simp[bT]
|c::s,h=>by
  have h1:=dG (s:=s) (λd hd=>h d (by simp[hd]));have h2:=h c am;simp only[dZ,SS]at h2;rw[dP,S5,T3];have h3:(c.toNat-48)*10 ^ s.length<=9*10 ^ s.length:=To _ om_;omega
theorem pE {s:List UInt8}(h:wK s)(a:1<s.length):10 ^ (s.length-1)<=bT s:=by
 let⟨h1,h2,h3⟩:=h
 match s,h2 with
|c::s,_ =>
  have h4:=h1 c am;simp only[dZ,SS]at h4;have h5:c≠48:=λe=>by
   have:=h3 (by simp[e]);omega
  have b:c.toNat≠48:=λe=>h5 (VQ.1 (by rw[e];rfl));rw[dP];simp only[S5,UX];have:1*10 ^ s.length<=(c.toNat-48)*10 ^ s.length:=To _ om_;omega
theorem Bj:∀{a b:List UInt8},(∀c∈a,dZ c=true)->(∀c∈b,dZ c=true)->a.length=b.length->bT a=bT b->a=b
|[],[],_,_,_,_=>rfl
|[],_::_,_,_,h,_=>by simp at h
|_::_,[],_,_,h,_=>by simp at h
|c::a,d::b,f,g,k,i=>by
  have j:a.length=b.length:=by simpa using k
  have h1:=dG (s:=a) (λx e=>f x (by simp[e]));have h2:=dG (s:=b) (λx e=>g x (by simp[e]));have l:=f c am;have hd:=g d am;simp only[dZ,SS]at l hd;rw[dP,dP,j]at i;rw[j]at h1;have m:c.toNat-48=d.toNat-48:=by
   have n:(bT a+10 ^ b.length*(c.toNat-48)) / 10 ^ b.length=c.toNat-48:=by
    rw[VM _ _ (Vp dc_),UN h1,TX]
   have o:(bT b+10 ^ b.length*(d.toNat-48)) / 10 ^ b.length=d.toNat-48:=by
    rw[VM _ _ (Vp dc_),UN h2,TX]
   rw[<- n,<- o,Tt,UT,i,Tt (10 ^ b.length),UT (bT b)]
  rw[m]at i;have p:c=d:=VQ.1 om_;rw[p,Bj (λx e=>f x (by simp[e])) (λx e=>g x (by simp[e])) j om_]
theorem rX {a b:List UInt8}(c:wK a)(d:wK b)(h:bT a=bT b):a=b:=by
 refine Bj c.1 d.1 ?_ h;have e:=Tw.2 c.2.1;have f:=Tw.2 d.2.1;rcases Nat.lt_trichotomy a.length b.length with h1|h1|h1
 .have h2:=pE d om_;have h3:=dG c.1;have h4:10 ^ a.length<=10 ^ (b.length-1):=Tb dc_ om_;omega
 .exact h1
 have h2:=pE c om_;have h3:=dG d.1;have h4:10 ^ b.length<=10 ^ (a.length-1):=Tb dc_ om_;omega
end Go.Jog
namespace Go.Jog
variable {e lo:Nat}{s:List UInt8}
theorem vC {a b:List UInt8}(h:a≠[]):(a++b).head?=a.head?:=by
 cases a with
|nil=>exact absurd rfl h
|cons=>rfl
def gP (l:List Nat)(i:Nat):Nat:=l.getD i 0
theorem IN {l:List Nat}(h:DigP l)(i:Nat):gP l i<BP:=by
 unfold gP;rw[al];cases a:l[i]? with
|none=>decide
|some x=>exact h x (aK a)
theorem M8 (j:Nat):10 ^ (4*j)=BP ^ j:=by rw[Nat.pow_mul]
def ij (s:List UInt8)(lo hi:Nat):List UInt8:=(s.take hi).drop lo
theorem GA {a:List Nat}{j:Nat}(d:e+4*j=s.length)(b:a.length=j)(f:lo<=e)(h:bx a=bT (s.drop e)) :
  bx (a++[bT (ij s lo e)])=bT (s.drop lo):=by
 rw[pS,b,h];have c:s.drop lo=ij s lo e++s.drop e:=by
  unfold ij;have:s.drop lo=(s.take e++s.drop e).drop lo:=by rw[TE]
  rw[this,List.drop_append_of_le_length (by rw[S2];omega)]
 rw[c,dB,UI,show s.length-e=4*j by omega,M8,Tt,UT]
theorem Jk (a:∀c∈s,dZ c=true)(h:e<=lo+4):bT (ij s lo e)<BP:=by
 have h1:∀c∈ij s lo e,dZ c=true:=λc b=>a c (TP (Vb b));have h2:=dG h1;have h3:(ij s lo e).length<=4:=by
  unfold ij;rw[UI,S2];omega
 have h4:10 ^ (ij s lo e).length<=10 ^ 4:=Tb dc_ h3;have h5:(10:Nat) ^ 4=BP:=rfl;omega
def nC:Nat->Nat->List UInt8
|0,_=>[]
|k+1,n=>nC k (n / 10)++[UInt8.ofNat (48+n % 10)]
theorem vQ {d:Nat}(h:d<10):(UInt8.ofNat (48+d)).toNat=48+d:=by rw[UInt8.toNat_ofNat'];omega
theorem li:∀(k n:Nat),n<10 ^ k->(nC k n).length=k/\(∀c∈nC k n,dZ c=true)/\bT (nC k n)=n
|0,n,h=>by
  have:n=0:=by simpa using h
  subst this;exact⟨U,by simp[nC],U⟩
|k+1,n,h=>by
  let⟨h1,h2,h3⟩:=li k (n / 10) (by rw[T3]at h;exact(UF dc_).2 h);have hd:=vQ (Ts n (show 0<10 by decide));refine⟨by simp[nC,h1],λc a=>?_, ?_⟩
  .simp only[nC,SZ,S6]at a;rcases a with a|rfl
   .exact h2 c a
   have:=Ts n (show 0<10 by decide);simp only[dZ,hd,SS];omega
  simp only[nC];rw[dB,h3,dP,hd];simp[bT];omega
def bi (n:Nat):List UInt8:=if n<10 then [UInt8.ofNat (48+n)] else bi (n / 10)++[UInt8.ofNat (48+n % 10)]
 termination_by n
 decreasing_by omega
theorem bB (n:Nat):wK (bi n)/\bT (bi n)=n:=by
 induction n using Nat.strongRecOn with
|ind n e =>
  rw[bi];split
  .rename_i h;have hd:=vQ h;refine⟨⟨λc a=>?_,by simp,λ_=>rfl⟩, ?_⟩
   .rw[S6.1 a];simp only[dZ,hd,SS];omega
   rw[dP,hd];simp[bT]
  rename_i h;let⟨⟨h1,h2,h3⟩,h4⟩:=e (n / 10) om_;have hd:=vQ (Ts n (show 0<10 by decide));refine⟨⟨λc a=>?_,by simp,λb=>?_⟩, ?_⟩
  .rcases SZ.1 a with a|a
   .exact h1 c a
   rw[S6.1 a];have:=Ts n (show 0<10 by decide);simp only[dZ,hd,SS];omega
  .exfalso;rw[vC h2]at b;have h5:=h3 b
   match hs:bi (n / 10),h2 with
  |[c],_ =>
    rw[hs]at b h4;simp at b;subst b;have:n / 10=0:=by rw[<- h4];rfl
    omega
  |c::d::s,_=>rw[hs]at h5;simp at h5
  rw[dB,h4,dP,hd];simp[bT];omega
theorem pF (h:wK s):s=bi (bT s):=rX h (bB _).1 (bB _).2.symm
theorem IJ {p:List Nat}{i x:Nat}(j:DigP p)(f:p[i]?=some x)(h:wK s)(k:bT s=bx (p.drop (i+1)))(l:0<bT s) :
  wK (s++nC 4 x)/\bT (s++nC 4 x)=bx (p.drop i)/\0<bT (s++nC 4 x):=by
 have m:=j x (aK f);let⟨h1,h2,h3⟩:=li 4 x m;have g:=R0.1 f;have e:bx (p.drop i)=x+BP*bx (p.drop (i+1)):=by rw[Tg g.1,g.2];rfl
 have n:bT (s++nC 4 x)=bx (p.drop i):=by
  rw[dB,h1,h3,k,e,UT,Tt]
 refine⟨⟨λc a=>?_, ?_,λb=>?_⟩,n, ?_⟩
 .rcases SZ.1 a with a|a
  .exact h.1 c a
  exact h2 c a
 .intro e;exact h.2.1 (VZ.1 e).1
 .exfalso;rw[vC h.2.1]at b;have h5:=h.2.2 b
  match hs:s,h.2.1 with
 |[c],_ =>
   simp at b;subst b;have:bT ([48]:List UInt8)=0:=rfl;omega
 |c::d::s,_=>simp at h5
 rw[dB];have:0<bT s*10 ^ (nC 4 x).length:=Va l (Vp dc_);omega
end Go.Jog
namespace Go.Jog
def jl:List Int->Int
|[]=>0
|x::l=>x+10000*jl l
theorem oY:∀l:List Nat,jl (l.map λ(x:Nat)=>(x:Int))=(bx l:Nat)
|[]=>rfl
|x::l=>by
  simp only[Tq,jl,bx,oY l];show(x:Int)+10000*(bx l:Nat)=((x+10000*bx l:Nat):Int);omega
theorem pT:∀(a b:List Int),jl (a++b)=jl a+(10000:Int) ^ a.length*jl b
|[],b=>by simp[jl]
|x::a,b=>by
  simp only[UA,jl,pT a b,S5,Int.pow_succ];rw[V0,<- Int.mul_assoc,Int.mul_comm ((10000:Int) ^ a.length) 10000,Int.add_assoc]
theorem wT (a:List Int)(x:Int):jl (a++[x])=jl a+(10000:Int) ^ a.length*x:=by
 rw[pT];simp[jl]
theorem Gs {l:List Int}{i:Nat}{x:Int}(h:l[i]?=some x):jl (l.take (i+1))=jl (l.take i)+(10000:Int) ^ i*x:=by
 have a:=(R0.1 h).1;rw[S9,h];simp only[T7];rw[wT,S2,TJ om_]
theorem Bx (o:Int):0<=o % 10000/\o % 10000<10000/\o=o % 10000+10000*((o-o % 10000) / 10000):=by
 refine⟨Wd _ dc_,Int.emod_lt_of_pos _ dc_, ?_⟩;omega
theorem KN (o:Int):(if Int.tmod o 10000<0 then Int.tmod o 10000+10000 else Int.tmod o 10000)=o % 10000:=by
 have h1:=Wd o (show(10000:Int)≠0 by decide);have h2:=Int.emod_lt_of_pos o (show(0:Int)<10000 by decide);rcases Int.le_total 0 o with h|h
 .rw[Int.tmod_eq_emod_of_nonneg h,aF om_]
 rw[Int.tmod_eq_emod];split <;> rename_i hh <;> omega
end Go.Jog
namespace Go.Jog
theorem I5 {t Q x:Nat}(a:0<Q):(x+BP*t) / Q=BP*(t / Q)+(x+BP*(t % Q)) / Q/\(x+BP*t) % Q=(x+BP*(t % Q)) % Q:=by
 have h1:=Vt t Q;have e:x+BP*t=Q*(BP*(t / Q))+(x+BP*(t % Q)):=by
  conv=>lhs;rw[<- h1,TT]
  rw[Wp];omega
 rw[e,Nat.mul_add_div a,Nat.mul_add_mod];exact⟨U,U⟩
theorem yT {t Q x:Nat}(a:0<Q)(b:x<BP):(x+BP*(t % Q)) / Q<BP:=by
 rw[UF a];have h1:=Ts t a;have h2:BP*(t % Q+1)<=BP*Q:=Ua _ h1;rw[TT]at h2;omega
theorem Pp {r Q a b:Nat}(c:0<Q)(d:a<=r / Q)(e:r / Q<=b)(_f:a<b) :
  (r<Q*((a+b+1) / 2)->a<=r / Q/\r / Q<=(a+b+1) / 2-1)/\(¬ r<Q*((a+b+1) / 2)->(a+b+1) / 2<=r / Q/\r / Q<=b):=by
 constructor
 .intro hr;have:=(UF c).2 (by rw[Tt];exact hr);omega
 intro hr;have:=(Nat.le_div_iff_mul_le c).2 (by rw[Tt];exact Nat.le_of_not_lt hr);omega
theorem Ru (a b:Nat)(_c:0<b):Nat.gcd a b=Nat.gcd b (a % b):=by
 rw[UO a b,V1 b a,UO]
end Go.Jog
