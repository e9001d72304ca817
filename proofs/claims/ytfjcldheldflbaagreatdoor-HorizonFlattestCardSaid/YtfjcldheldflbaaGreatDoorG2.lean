import Derived.Test.YtfjcldheldflbaaGreatDoorG1
import Derived.OpenShut
import Derived.Deep.Slices
import Derived.Deep.DeepHandedRow
import Derived.LaidLaws
import Derived.ProofKit
import Derived.Shelf.Vars
namespace Go.Jog
open Go
section
variable {cx:Cx} {n:Nat} {ds:List (Option Nat)} {R:Rg n ds} {its:List It} {fr:Fr} {C:Mem} {L:List Ent} {i k d:Nat} {o:Oper} {g:GL} {v:Value}
theorem Sl.flat {C:Mem}{s:Nat}{A:Option Addr}{d c:Nat}{b:List (List Value)}(k:Sl C s (.slice A d c) b)(l:0<s)(m:b≠[]) :
  d=b.length/\∃a,A=some a/\a.spot=none/\∀(q:Nat)(u:Value),b.flatten[q]?=some u->CCell C (a.add q) u:=by
 obtain⟨y,z,h1,h2,h3,h4,h5⟩:=k;cases h1
 refine⟨U, ?_⟩;cases b with
|nil=>exact absurd rfl m
|cons r rs =>
  obtain⟨n,o,p,_⟩:=h5 0 r al;subst o;refine⟨n,U,p,λq u e=>?_⟩;have t:q<(r::rs).length*s:=by rw[<- aP h4];exact(aT.1 e).1
  have f:q / s<(r::rs).length:=Vc (by rw[S3];exact t);have g:(r::rs)[q / s]?=some (r::rs)[q / s]:=ah f;have v:q % s<((r::rs)[q / s]).length:=by rw[h4 _ (Td f)];exact S5 _ l
  have h:=ah v;have i:=getElem?_flatten_rows h4 g h;have j:q / s*s+q % s=q:=by rw[S3];exact UU q s
  rw[j,e]at i;obtain⟨B,w,D,x⟩:=h5 _ _ g;cases w
  have:=x _ _ h;rw[j]at this;rw[TO i];exact this
theorem rZ {P:Program}{a:Act}{o:Oper}{t:Nat}{x y:Operand}(c:o.op=.call ⟨.builtin .append,#[x,y],#[t,t]⟩){r:Value}{w b:World}(h:(Builtin.append_ #[t,t] o.type #[a.eval x,a.eval y]).run P w=.ok r b) :
  (execOp a.eval o).run P w=.ok (.value r) b:=by
 have d:execOp a.eval o=(do let dd <- resolve a.eval ⟨.builtin .append,#[x,y],#[t,t]⟩ o.type;invoke dd.target dd.args:Sem Next):=by unfold execOp;rw[c]
 rw[d];simp only[resolve,invoke,builtin,Sem.run_bind,Sem.run_pure,Result.andThen_ok,T2,S1,T3,h]
theorem XZ {t e n0 l:Nat}{x y:Operand}{Q m:TI}{p:Value}{A:Option Addr}{g f:List (List Value)}(hk:k=3)(hd:o.dst=some d)(hg:gOn ds fr o.guard=true)
  (aa:o.op=.call ⟨.builtin .append,#[x,y],#[t,t]⟩) (ht:cx.T.get t=some Q) (ab:Q.k=.slice e) (he:cx.T.get e=some m) (ac:Nat.beq m.size 0=false)
  (hx:ev fr [] x=some (.slice A n0 l)) (hy:ev fr [] y=some p) (V:Sl C m.size (.slice A n0 l) g) (ae:Sl C m.size p f) (ar:f=[]∨l<g.length+f.length)
  (W:g.length+f.length<=maxLen) (af:(g.length+f.length)*m.bytes<=140737488355328) (hp:∀v,aY n ds ((d,[],v)::fr) d=true)
  (h:∀E z,C.le z->Sl z m.size E (g++f)->D cx R its ((d,[],E)::fr) z L):D cx R ((i,k,o)::its) fr C L:=by
 have H:cx.P.underlying t=some (.slice e):=by
  obtain⟨kk,s1,b1,z1,g1⟩:=Q;simp only at ab;subst ab;exact bV cx.hT ht
 obtain⟨inf,I,J,ag,hz,aK⟩:=(dA cx.hT he).info;have ah:0<m.size:=Ui (λe=>by rw[e]at ac;cases ac);have au:=V;obtain⟨A1,c1,av,ai,aL,aj,aw⟩:=au;cases av
 have ax:=ae;obtain⟨B,c,X,aM,aN,ak,aO⟩:=ax;have am:Nat.ble k 1=false:=by subst hk;rfl
 by_cases K:f=[]
 .subst K;refine WI (S:=λE z L'=>E=.slice A g.length l/\z=C/\L'=L) am hd hg hp (λa G w _ M=>?_) (λE z L' Y ⟨Z,e2,e3⟩=>?_)
  .have hr:(Builtin.append_ #[t,t] o.type #[a.eval x,a.eval y]).run cx.P w=.ok (.slice A g.length l) w:=by
    rw[G _ _ hx,G _ _ hy,X];have an:(Builtin.firstCells m.size 0 (.slice B 0 c)).run cx.P w=.ok #[] w:=by
     cases B <;> simp[Builtin.firstCells,loadCells,loadCellsFrom]
    simp only[SZ];cases A with
   |none=>simp[Builtin.append_,run_underlying H,sizeOf,typeInfo,I,J,Builtin.lenOf,an,ai]
   |some a0=>simp[Builtin.append_,run_underlying H,sizeOf,typeInfo,I,J,Builtin.lenOf,an,ai,storeCells]
   unfold Oper.wp;rw[rZ aa hr];exact⟨_,C,L,U,Mem.le.refl _,λh2=>by omega,M,U,U,U⟩
  subst Z;subst e2;subst e3;exact h _ z Y (by simpa using V)
 have ay:l<g.length+f.length:=ar.resolve_left K;obtain⟨-,b0,hB, -,az⟩:=Sl.flat (X ▸ ae) ah K;subst hB;have aQ:0<f.length:=S7.2 K;have aA:=aP ak;have aB:=aP aj;refine XL (S:=λE b ob=>∃(cc:Nat)(rest:Array Value),E=s_ b (g.length+f.length) cc/\ob=.cells (g.flatten.toArray++f.flatten.toArray++rest) e (0,0)/\g.length+f.length<=cc/\cc<=maxLen) am hd hg hp
  (λa G w _ L1 w1 M=>?_) (λE b ob z Y N ⟨cc,rest,Z,e2,e3,e4⟩=>?_)
 .have ao:∀(j:Nat)(u:Value),f.flatten[j]?=some u->w.cell? (b0.add j)=some u:=λj u F=>(az j u F).cell M.sep;have ap:f.flatten.length=f.length*inf.size:=by rw[aA,J]
  have aC:g.flatten.length=g.length*inf.size:=by rw[aB,J]
  refine⟨.slice (some ⟨w.heap.size,0,none⟩) (g.length+f.length) (grownCap w (g.length+f.length) l e),_,w.drew.alloc (.cells (g.flatten.toArray++f.flatten.toArray++Builtin.zeroCells m.zv.cells (grownCap w (g.length+f.length) l e-(g.length+f.length))) e), ?_, ?_,grownCap w (g.length+f.length) l e,Builtin.zeroCells m.zv.cells (grownCap w (g.length+f.length) l e-(g.length+f.length)),U,U,grownCap_ge w _ _ e,grownCap_le_maxLen w _ _ e W⟩
  .refine rZ aa ?_;rw[G _ _ hx,G _ _ hy,X];cases O:A with
  |none =>
    subst O;have aD:g=[]:=by
     cases g with
    |nil=>rfl
    |cons r rs=>obtain⟨ad,O,_⟩:=aw 0 r al;cases O
    subst aD;have aE:l<f.length:=by simpa using ay
    have hf:=run_firstCells_some (P:=cx.P) w.drew inf.size f.length b0 f.length c f.flatten ap (by simpa using ao);have hn:f.length≠0:=by omega
    have aF:¬ (9223372036854775807<(f.length:Int)):=by simp only[maxLen,SZ]at W;omega
    have aG:¬ (281474976710656<Builtin.nextslicecap f.length l*inf.bytes):=by
     have N:=af;simp only[SZ,Tw,<- ag]at N;have:=growslice_fits (need:=f.length) (bytes:=inf.bytes) (old:=l) aE N;omega
    have aH:¬ (f.length<=l):=by omega
    simp[Builtin.append_,run_underlying H,sizeOf,typeInfo,zeroValue,I,hz,Builtin.lenOf,aH,aF,aG,Question.forced,run_firstCells_none,hf,newRow,grownCap]
  |some a0 =>
    subst O;have hold:∀(j:Nat)(u:Value),g.flatten[j]?=some u->w.cell? (a0.add j)=some u:=λj u F=>by
     cases hr:g with
    |nil=>subst hr;simp at F
    |cons r rs =>
      obtain⟨-,a1,aI, -,aJ⟩:=Sl.flat V ah (by rw[hr];simp);cases aI
      exact(aJ j u F).cell M.sep
    exact run_append_grow (P:=cx.P) w t o.type e inf m.zv H I hz a0 g.length l g.flatten aC hold b0 f.length c f.flatten ap ao om_ (by simp only[maxLen]at W;omega) (by rw[ag];exact growslice_fits om_ af)
  exact⟨U,U,U,by simp,λq hq=>heap_alloc_old w.drew _ hq,heap_alloc_new w.drew _,UA _⟩
 subst Z;subst e2;have:=Sl.ofBlock (rows:=g++f) (s:=m.size) (c:=cc) N (λr hr=>(Sx.1 hr).elim (aj r) (ak r)) (λj u F=>by
  have aq:=(aT.1 F).1;rw[SI]at F aq;have e5:(g.flatten.toArray++f.flatten.toArray:Array Value)=(g.flatten++f.flatten).toArray:=by simp
  rw[e5];rw[Array.getElem?_append_left (by simpa using aq)];simpa using F) (by simpa using e3) e4
 simp only[So]at this;exact h _ z Y this
theorem St.objArr {o:World}{p:Mem}{q:List Ent}{C:Mem}{L:List Ent}{w:World}{b e s m g:Nat}{i j:List Value}(h:St o p q C (.obj b (.cells ⟨i⟩ e (0,0))::L) w)(r:i.take (m*s)=j)(u:i.length=g*s)(t:m<=g)(v:g<=maxLen) :
  St o p q C (.arr (s_ b m g) e s m j::L) w:=by
 have z:w.heap[b]?=some (.cells ⟨i⟩ e (0,0)):=h.sep.e _ (Sj ..);have hd:=Tv.1 h.sep.d;have l:∀k,(Ent.arr (s_ b m g) e s m j).own k->k=b:=λk f=>by simp only[Ent.own,Value.ownBlock,S6]at f;exact f.symm
 have A:m*s<=g*s:=SY _ t;refine⟨⟨h.sep.c,λx a=>?_,Tv.2 ⟨λy hy k f=>hd.1 y hy k (l k f),hd.2⟩,λk ⟨x,a,f⟩=>?_⟩,h.ev,h.c0,h.cn,λk ⟨x,a,f⟩=>?_⟩
 .rcases Sw.1 a with rfl|a
  .exact⟨by rw[<- r,Sy];omega,.inr ⟨b,g,⟨i⟩,U,Sm _,z,t,v,by simpa using u,by simpa using r⟩⟩
  exact h.sep.e x (by simp[a])
 .rcases Sw.1 a with rfl|a
  .exact h.sep.n k ⟨_,Sj ..,l k f⟩
  exact h.sep.n k ⟨x,by simp[a],f⟩
 rcases Sw.1 a with rfl|a
 .exact h.ln k ⟨_,Sj ..,l k f⟩
 exact h.ln k ⟨x,by simp[a],f⟩
theorem XK {e s m c:Nat}{cs f:List Value}(p:Nat.ble k 1=false)(q:o.dst=some d)(r:gOn ds fr o.guard=true)(t:∀v,aY n ds ((d,[],v)::fr) d=true)
  (u:∀a,Mo (ev fr []) a->∀w,(execOp a.eval o).run cx.P w=.ok (.value (.slice (some ⟨w.heap.size,0,none⟩) m c)) (w.alloc (.cells ⟨cs⟩ e))) (g:cs.take (m*s)=f) (y:cs.length=c*s) (z:m<=c) (A:c<=maxLen)
  (h:∀b,D cx R its ((d,[],s_ b m c)::fr) C (.arr (s_ b m c) e s m f::L)):D cx R ((i,k,o)::its) fr C L :=
 WI (S:=λv j l=>j=C/\∃b,v=s_ b m c/\l=.arr (s_ b m c) e s m f::L) p q r t (λa hs w _ B=>by
  unfold Oper.wp;rw[u a hs w];exact⟨_,C,.arr (.slice (some ⟨w.heap.size,0,none⟩) m c) e s m f::L,U,Mem.le.refl _,λ_ x g=>by simp[g],St.objArr (St.alloc B _) g y z A,U,_,U,U⟩)
  (λv j l _ ⟨E,b,F,G⟩=>by subst E;subst F;subst G;exact h b)
theorem W0 {t e g:Nat}{j:Array (Nat × Operand)}{m f:TI}(c:List (List Value))(y:Z12 (Nat.ble k 1) false o.dst (some d) (gOn ds fr o.guard) true o.op (.buildSlice t g j) (cx.T.get t) (some m) m.k (.slice e) (cx.T.get e) (some f) (rowsO (ev fr []) j.toList 0) (some c) (c.all λr=>Nat.beq r.length f.size) true (Nat.beq j.toList.length g) true (Nat.ble (g*f.size) 16777216) true (Nat.beq f.size 0) false)(z:∀v,aY n ds ((d,[],v)::fr) d=true)(h:∀b,D cx R its ((d,[],s_ b c.length c.length)::fr) C (.arr (s_ b c.length c.length) e f.size c.length c.flatten::L)):D cx R ((i,k,o)::its) fr C L:=by
 have ⟨A,hd,B,E,ht,F,G,p,H,I,q,s⟩:=y;have l:∀r∈c,r.length=f.size:=λr hr=>S2 (SA.1 H r hr);have u:=S2 I;rw[Ud]at q;have J:=(eh p l).2;have K:=aP l;have h0:0<f.size:=Ui (λe=>by rw[e]at s;cases s);refine XK (cs:=c.flatten) A hd B z (λa hs w=>?_) (SL om_) K (Sg _) ?_ h
 .have M:execOp a.eval o=(do Pure.pure (.value (<- Instr.buildSlice t g (j.map λ(i,x)=>(i,a.eval x)))):Sem Next):=by unfold execOp;rw[E]
  rw[M];have N:(j.map λ(i,x)=>(i,a.eval x))=(j.toList.map λ(i,x)=>(i,a.eval x)).toArray:=by apply Ua;simp
  rw[N];simp only[Sem.run_bind,gG cx.hT ht F G (λx v O=>hs x v O) p l u q w,Result.andThen_ok,Sem.run_pure]
 rw[J,u];have:g<=g*f.size:=UL _ h0;simp only[maxLen];omega
def fI (z:List Value):Nat->List Value
|0=>[]
|m+1=>z++fI z m
theorem cG (z:List Value):∀m,(fI z m).length=m*z.length
|0=>by simp[fI]
|m+1=>by simp[fI,cG z m,TQ];omega
theorem dH (z:List Value):∀m,fI z m=(List.replicate m z).flatten
|0=>rfl
|m+1=>by simp[fI,dH z m,Tm]
theorem BO (z:List Value):∀(m q:Nat),q<m*z.length->(fI z m)[q]?=z[q % z.length]?
|0,q,h=>by simp at h
|m+1,q,h=>by
  simp only[fI];by_cases a:q<z.length
  .rw[Ta a,UO a]
  rw[SR om_,BO z m _ (by rw[TQ]at h;omega)];congr 1;rw[Nat.mod_eq_sub_mod (by omega:z.length<=q)]
theorem Ao (z:List Value)(m:Nat):madeCells ⟨z⟩ (m*z.length)=⟨fI z m⟩:=by
 apply Ua;apply List.ext_getElem?;intro q;simp only[madeCells,Array.toList_map,Array.toList_range,Sh,T5];by_cases a:q<m*z.length
 .rw[BO z m q a,SU a];have c:0<z.length:=by
   rcases Tx z.length with h|h
   .rw[h]at a;simp at a
   exact h
  have b:q % z.length<z.length:=S5 _ c;simp only[TU];rw[ah b];simp[b]
 rw[Sq am,Sq (by rw[cG];omega)];rfl
theorem WX {t e:Nat}{x y:Operand}{p r:IntKind}{l c:Nat}{g f:TI}(B:Z9 (Nat.ble k 1) false o.dst (some d) (gOn ds fr o.guard) true o.op (.makeSlice t x y) (cx.T.get t) (some g) g.k (.slice e) (cx.T.get e) (some f) (ev fr [] x) (some (.int p l)) (ev fr [] y) (some (.int r c)))(E:l<=c)(W:f.bytes*c<=281474976710656)(s:c<=maxLen)(F:∀v,aY n ds ((d,[],v)::fr) d=true)(h:∀b,D cx R its ((d,[],s_ b l c)::fr) C (.arr (s_ b l c) e f.size l (fI (f.zero.map Zv.val) l)::L)):D cx R ((i,k,o)::its) fr C L:=by
 have ⟨G,hd,H,I,ht,u,z,J,hy⟩:=B;have K:cx.P.underlying t=some (.slice e):=by
  obtain⟨X,Y,Z,z1,g1⟩:=g;simp only at u;subst u;exact bV cx.hT ht
 obtain⟨inf,M,N,O,Q,A⟩:=(dA cx.hT z).info;have j:(f.zero.map Zv.val).length=f.size:=by
  have:=(dA cx.hT z).zsize;rw[A]at this;simpa using this
 have S:∀m q,fI (f.zero.map Zv.val) (m+q)=fI (f.zero.map Zv.val) m++fI (f.zero.map Zv.val) q:=by
  intro m q;induction m with
 |zero=>simp[fI]
 |succ m U=>rw[show m+1+q=(m+q)+1 by omega];simp[fI,U]
 refine XK (cs:=fI (f.zero.map Zv.val) c) G hd H F (λa hs w=>?_) ?_ (by rw[cG,j]) E s h
 .have V:execOp a.eval o=(do Pure.pure (.value (<- Instr.makeSlice t (a.eval x) (a.eval y))):Sem Next):=by unfold execOp;rw[I]
  rw[V,hs _ _ J,hs _ _ hy];have hr:=run_make (P:=cx.P) w t e inf f.zv K M Q p r (l:Int) (c:Int) om_ om_ (by rw[O,<- SK];omega) (by simp only[maxLen]at s;omega);simp only[Ue]at hr;rw[N,<- j,A,Ao]at hr;simp only[Sem.run_bind,hr,Result.andThen_ok,Sem.run_pure]
 obtain⟨q,rfl⟩:∃q,c=l+q:=⟨c-l,by omega⟩;rw[S];exact List.take_left' (by rw[cG,j])
theorem sY {P:Program}{t e b c:Nat}(d:P.underlying t=some (.array b e)){f:IntKind}{m:Int}(g:0<=m)(h:m<b)(a:Addr){w:World}(i:(sizeOf e).run P w=.ok c w) :
  (Instr.indexAt t (.pointer (some a)) (.int f m)).run P w=.ok (.pointer (some (a.add (m.toNat*c)))) w:=by
 simp[Instr.indexAt,asIntOf,run_underlying d,Instr.sureAddr,i,g,h]
theorem Wp (c:Nat){t e f b l:Nat}{x y:Operand}{r:IntKind}{m:Int}{j p:TI}(s:Z9 (Nat.ble k 1) true o.dst (some d) o.op (.indexAddr t x y) (gOf ds fr o.guard) (some g) (ev fr g x) (some (.pointer (some ⟨b,l,none⟩))) (ev fr g y) (some (.int r m)) (cx.T.get t) (some j) j.k (.arr f e) (cx.T.get e) (some p))(u:GT ds fr g->0<=m/\m<f/\c=l+m.toNat*p.size)(v:Z2 (aY n ds ((d,g,.pointer (some ⟨b,c,none⟩))::fr) d) true (wfG ds fr g) true)(h:D cx R its ((d,g,.pointer (some ⟨b,c,none⟩))::fr) C L):D cx R ((i,k,o)::its) fr C L:=by
 have ⟨z,hd,A,B,E,hy,ht,q,F⟩:=s;have ⟨hp,G⟩:=v;have H:cx.P.underlying t=some (.array f e):=by
  obtain⟨N,O,Q,S,U⟩:=j;simp only at q;subst q;exact pP cx.hT ht
 refine D.run _ z hd B (λI a hs w=>?_) hp G h;obtain⟨J,K,rfl⟩:=u I;have M:execOp a.eval o=(do Pure.pure (.value (<- Instr.indexAt t (a.eval x) (a.eval y))):Sem Next):=by unfold execOp;rw[A]
 rw[M,hs _ _ E,hs _ _ hy];simp only[Sem.run_bind,sY H J K _ (eC cx.hT F w),Result.andThen_ok,Sem.run_pure,Addr.add_lit]
theorem XC {t e f:Nat}{x y:Operand}{G:IntKind}{m:Int}{p:Value}{q:List Value}{j b:TI}(H:Z9 (Nat.ble k 1) true o.dst (some d) o.op (.indexAddr t x y) (gOf ds fr o.guard) (some g) (ev fr g x) (some p) (ev fr g y) (some (.int G m)) (cx.T.get t) (some j) j.k (.arr f e) (cx.T.get e) (some b))(I:GT ds fr g->PtrTo C p q)(r:GT ds fr g->0<=m/\m<f)(s:∀v,aY n ds ((d,g,v)::fr) d=true)(u:wfG ds fr g=true)(h:∀z,(GT ds fr g->PtrTo C z ((q.drop (m.toNat*b.size)).take b.size))->D cx R its ((d,g,z)::fr) C L):D cx R ((i,k,o)::its) fr C L:=by
 have ⟨A,hd,J,B,K,hy,ht,E,M⟩:=H;have N:cx.P.underlying t=some (.array f e):=by
  obtain⟨W,X,Y,Z,g1⟩:=j;simp only at E;subst E;exact pP cx.hT ht
 by_cases c:GT ds fr g
 .obtain⟨O,Q,S⟩:=(I c).part (m.toNat*b.size) b.size;refine WL A hd B (s (.pointer (some (O.add (m.toNat*b.size))))) u (λ_ a F aa ab w hw=>?_) (h _ (λ_=>S));have V:execOp a.eval o=(do Pure.pure (.value (<- Instr.indexAt t (a.eval x) (a.eval y))):Sem Next):=by unfold execOp;rw[J]
  unfold Oper.quietAt;rw[V,F _ _ K,F _ _ hy,Q];simp only[Sem.run_bind,sY N (r c).1 (r c).2 _ (eC cx.hT M w),Result.andThen_ok,Sem.run_pure];exact⟨U,U⟩
 exact WL A hd B (s undef) u (λl=>absurd l c) (h _ (λl=>absurd l c))
theorem Fl (s:List UInt8):∀a:ByteArray,(s.map λb=>(b.toNat:Int)).foldl (λr n=>r.push (UInt8.ofNat n.toNat)) a=a++⟨s.toArray⟩:=by
 induction s with
|nil =>
  intro a;apply ByteArray.ext;simp[]
|cons b s c =>
  intro a;simp only[S1,Vi];rw[c];have e:UInt8.ofNat ((b.toNat:Int)).toNat=b:=by simp
  rw[e];apply ByteArray.ext;simp[ByteArray.data_push]
theorem Xp {g l e:Nat}{x:Operand}{p:Value}{s:List UInt8}{m q r:TI}(B:Sl C 1 p (s.map λb=>[.int .u8 b.toNat]))(W:Z11 k 2 o.dst (some d) o.op (.convert g l x) (gOn ds fr o.guard) true (ev fr [] x) (some p) (cx.T.get g) (some m) m.k (.slice e) (cx.T.get l) (some q) q.k .str (cx.T.get e) (some r) r.k (.int .u8))(X:∀v,aY n ds ((d,[],v)::fr) d=true)(h:D cx R its ((d,[],.string ⟨s.toArray⟩)::fr) C L):D cx R ((i,k,o)::its) fr C L :=
 have ⟨Y,hd,Z,hg,hx,aa,E,ab,F,ac,G⟩:=W;WI (S:=λv H I=>v=.string ⟨s.toArray⟩/\H=C/\I=L) (by subst Y;rfl) hd hg X (λa ad w _ J=>by
  have ae:cx.P.underlying g=some (.slice e):=by
   obtain⟨K,M,N,O,Q⟩:=m;simp only at E;subst E;exact bV cx.hT aa
  have af:cx.P.underlying l=some .string:=by
   obtain⟨K,M,N,O,Q⟩:=q;simp only at F;subst F;exact pN cx.hT ab
  have ag:cx.P.underlying e=some (.int .u8):=by
   obtain⟨K,M,N,O,Q⟩:=r;simp only at G;subst G;exact pO cx.hT ac
  have ah:=B;obtain⟨A,c,rfl,aj,ak,al,am⟩:=ah;have ai:(execOp a.eval o).run cx.P w=.ok (.value (.string ⟨s.toArray⟩)) w:=by
   have t:execOp a.eval o=(do Pure.pure (.value (<- convert g l (a.eval x))):Sem Next):=by unfold execOp;rw[Z]
   rw[t,ad _ _ hx];simp only[Sem.run_bind,run_convert_bytes_string w g l e _ _ _ ae ag af];cases u:s with
  |nil =>
    subst u;cases A with
   |none=>simp[Conv.bytesToString];rfl
   |some f =>
     have y:(loadCells f 0).run cx.P w=.ok (([]:List Int).map (Value.int .u8)).toArray w:=by simp[loadCells,loadCellsFrom]
     have z:=run_bytesToString (P:=cx.P) w f 0 c [] y;simp only[T3,SZ,z,Result.andThen_ok];rfl
  |cons b bs =>
    obtain⟨an,f,rfl, -,V⟩:=Sl.flat B om_ (by rw[u];simp);rw[gJ]at V;have y:(loadCells f (s.map λb=>[Value.int .u8 b.toNat]).length).run cx.P w=.ok ((s.map λb=>(b.toNat:Int)).map (Value.int .u8)).toArray w:=by
     have:=kQ (P:=cx.P) (w:=w) (a:=f) (cs:=s.map λb=>Value.int .u8 b.toNat) (λj v hj=>(V j v hj).cell J.sep);simpa [Function.comp_def] using this
    have z:=run_bytesToString (P:=cx.P) w f _ c _ y;rw[<- u];simp only[z,Result.andThen_ok,Fl,Sem.run_pure];congr 3
  unfold Oper.wp;rw[ai];exact⟨_,C,L,U,Mem.le.refl _,λ_ _ h=>h,J,U,U,U⟩)
  (λv H I _ ⟨t,e2,e3⟩=>by subst t;subst e2;subst e3;exact h)
end
section
variable {F:Fx} {k:List KI} {fr:Fr} {C:Mem} {L:List Ent}
theorem fC {w:World}{b t:Nat}{a:List Value}{e:TypeId}{f:Nat × Nat}{c:TI}{v:Value}(g:F.cx.T.get t=some c)(h:w.heap[b]?=some (.cells ⟨a⟩ e f))(i:cS c (a.take c.size)=some v):(loadVar t ⟨b,0,none⟩).run F.cx.P w=.ok v w:=by
 refine eW F.cx.hT g (cs:=a.take c.size) (λj u d=>?_) i;rw[Addr.add_lit,cell_of_row w b (0+j) _ e f h];rw[Tb]at d;split at d
 .simpa using d
 cases d
theorem WO {r b t:Nat}{f:List Value}{k:TypeId}{l:Nat × Nat}{c:TI}{v:Value}(m:Ent.obj b (.cells ⟨f⟩ k l)∈L)(n:Z4 F.fn.results (#[.cell r t]) (ev fr [] (.tmp r)) (some (p_ b)) (F.cx.T.get t) (some c) (cS c (f.take c.size)) (some v))(h:F.post v C [])(g:F.ends:=by exact⟨λ_ _ _ h=>h,rfl⟩):G F [] .ret fr C L:=have ⟨o,hr,ht,q⟩:=n;λ_ a w i j=>by
 refine g.kq ?_;have d:=bO i (λp hp=>by cases hp) hr;simp only[Act.eval]at d;refine bodyPost_ret (v:=v) ?_ (i.defers.trans g.2) ⟨v,C,[],U,St.dropAll j,h⟩;have s:=fC (F:=F) ht (j.sep.e _ m) q;simp only[Tl]at d;simp[results,o,d,asAddr,s]
theorem Xf {r s b t:Nat}{i:List Value}{l:TypeId}{m:Nat × Nat}{c:TI}{u v:Value}(n:Ent.obj b (.cells ⟨i⟩ l m)∈L)(o:Z5 F.fn.results (#[.cell r t,.tmp s]) (ev fr [] (.tmp r)) (some (p_ b)) (ev fr [] (.tmp s)) (some u) (F.cx.T.get t) (some c) (cS c (i.take c.size)) (some v))(h:F.post (.tuple #[v,u]) C [])(j:F.ends:=by exact⟨λ_ _ _ h=>h,rfl⟩):G F [] .ret fr C L:=have ⟨q,hr,hs,ht,x⟩:=o;λ_ a w d k=>by
 refine j.kq ?_;have f:=bO d (λp hp=>by cases hp) hr;have g:=bO d (λp hp=>by cases hp) hs;simp only[Act.eval]at f g;refine bodyPost_ret (v:=.tuple #[v,u]) ?_ (d.defers.trans j.2) ⟨_,C,[],U,St.dropAll k,h⟩;have y:=fC (F:=F) ht (k.sep.e _ n) x;simp only[Tl]at f g;simp[results,q,f,g,asAddr,y]
end
end Go.Jog
namespace Go.Jog
open Go
theorem eE {a:Type}(f:a->Value):∀l:List a,(l.map λx=>[f x]).flatten=l.map f
|[]=>rfl
|x::l=>by simp[eE f l]
def ae (s:List UInt8):Value:=.string ⟨s.toArray⟩
def cV (c:UInt8):List UInt8->List (List UInt8)
|[]=>[[]]
|b::s=>if b=c then []::cV c s else match cV c s with
 |[]=>[[b]]
 |p::ps=>(b::p)::ps
theorem EA (c:UInt8):∀s,cV c s≠[]
|[]=>by simp[cV]
|b::s=>by
  simp only[cV];split
  .simp
  split <;> simp
theorem ou (c:UInt8):∀s,c ∉ s->cV c s=[s]
|[],_=>rfl
|b::s,h=>by
  have h1:b≠c:=λe=>h (by simp[e]);have h2:=ou c s (λe=>h (by simp[e]));simp[cV,h1,h2]
theorem pZ (c:UInt8):∀(a post:List UInt8),c ∉ a->cV c (a++c::post)=a::cV c post
|[],post,_=>by simp[cV]
|b::a,post,h=>by
  have h1:b≠c:=λe=>h (by simp[e]);have h2:=pZ c a post (λe=>h (by simp[e]));simp[cV,h1,h2]
theorem kP (c:UInt8):∀s:List UInt8,(cV c s).length=s.count c+1
|[]=>by simp[cV]
|b::s=>by
  have d:=kP c s;simp only[cV];by_cases a:b=c
  .subst a;simp[d]
  rw[aF a];have e:¬ (b == c)=true:=by simpa using a
  rw[List.count_cons_of_ne a];cases h:cV c s with
 |nil=>exact absurd h (EA c s)
 |cons p ps=>rw[h]at d;simpa using d
end Go.Jog
namespace Go.Jog
open Go
section
variable {α:Type} {enc:α->List Value} {s:Nat}
theorem bM (a:∀x,(enc x).length=s)(l:List α):(l.map enc).flatten.length=l.length*s:=by
 have:=aP (s:=s) (rows:=l.map enc) (λr hr=>by obtain⟨x,_,rfl⟩:=Sn.1 hr;exact a x);simpa using this
theorem ci (a:∀x,(enc x).length=s):∀(l:List α)(i:Nat),(l.map enc).flatten.take (i*s)=((l.take i).map enc).flatten/\(l.map enc).flatten.drop (i*s)=((l.drop i).map enc).flatten
|[],i=>by simp
|x::l,0=>by simp
|x::l,i+1=>by
  obtain⟨h1,h2⟩:=ci a l i;have e:(i+1)*s=s+i*s:=by rw[TQ];omega
  have b:=a x;constructor
  .rw[e,S1,Tu,List.take_append,b,SL om_,show s+i*s-s=i*s by omega,h1];simp
  rw[e,S1,Tu,Vf,b,TZ om_,show s+i*s-s=i*s by omega,h2];simp
theorem dx (a:∀x,(enc x).length=s){l:List α}{i:Nat}{x:α}(h:l[i]?=some x):((l.map enc).flatten.drop (i*s)).take s=enc x:=by
 rw[(ci a l i).2];obtain⟨h1,h2⟩:=aT.1 h;rw[SN h1,h2,S1,Tu];rw[List.take_append,a,SL (by rw[a];omega)];simp
theorem bI (a:∀x,(enc x).length=s){l:List α}{i:Nat}(x:α)(h:i<l.length):aB (l.map enc).flatten (enc x) (i*s)=((l.set i x).map enc).flatten:=by
 unfold aB;rw[a,(ci a l i).1,show i*s+s=(i+1)*s by rw[TQ];omega,(ci a l (i+1)).2];rw[List.set_eq_take_append_cons_drop,aK h];simp
end
section
variable {cx:Cx} {n:Nat} {ds:List (Option Nat)} {R:Rg n ds} {its:List It} {fr:Fr} {C:Mem} {L:List Ent} {i k d:Nat} {o:Oper} {g:GL} {v:Value}
theorem El (z:List Value)(m:Nat):(Builtin.zeroCells ⟨z⟩ m).toList=fI z m:=by
 have:=Ao z m;unfold madeCells at this;simp only[Builtin.zeroCells,T5]at this⊢;rw[this]
theorem Yq (j:Nat){t e d off c B f p m n:Nat}{x:Operand}{A:Option Addr}{g:List Value}{E b:TI}(F:k=3)(hg:gOn ds fr o.guard=true)(N:o.dst=none)
  (ad:o.op=.call ⟨.builtin .clear,#[x],#[t]⟩) (O:ev fr [] x=some (.slice A c B)) (hm:L[j]?=some (.arr (s_ d m n) e f p g))
  (ht:cx.T.get t=some E) (Q:E.k=.slice e) (v:cx.T.get e=some b) (ae:b.size=f) (h1:(b.zero.map Zv.val).all kR=true) (hA:c=0∨A=some ⟨d,off,none⟩) (an:off+c*f<=g.length)
  (h:D cx R its fr C (.arr (s_ d m n) e f p (aB g (fI (b.zero.map Zv.val) c) off)::L.eraseIdx j)):D cx R ((i,k,o)::its) fr C L:=by
 have s:cx.P.underlying t=some (.slice e):=by
  obtain⟨kk,s1,b1,z1,g1⟩:=E;simp only at Q;subst Q;exact bV cx.hT ht
 have af:(b.zero.map Zv.val).length=b.size:=by
  have:=(dA cx.hT v).zsize;rw[(dA cx.hT v).info.choose_spec.2.2.2.2]at this;simpa using this
 have ag:b.zv.cells=(b.zero.map Zv.val).toArray:=(dA cx.hT v).info.choose_spec.2.2.2.2;refine Xh (S:=λV W=>V=C/\W=.arr (s_ d m n) e f p (aB g (fI (b.zero.map Zv.val) c) off)::L.eraseIdx j) (by subst F;rfl) hg (λa hs w _ hw=>?_) (λV W _ ⟨y,e2⟩=>by subst y;subst e2;exact h);have G:=St.perm hw (aw hm);have X:w.ownsRow 0 e f (s_ d m n) p g:=G.sep.e _ (Sj ..);have y:execOp a.eval o=(do let dd <- resolve a.eval ⟨.builtin .clear,#[x],#[t]⟩ o.type;invoke dd.target dd.args:Sem Next):=by unfold execOp;rw[ad]
 by_cases H:c=0
 .subst H;have I:(execOp a.eval o).run cx.P w=.ok (.value (.tuple #[])) w:=by
   rw[y];have J:(Builtin.clear_ #[t] o.type #[.slice A 0 B]).run cx.P w=.ok (.tuple #[]) w:=by
    cases A <;> simp[Builtin.clear_,run_underlying s]
   simp only[resolve,invoke,builtin,Sem.run_bind,Sem.run_pure,Result.andThen_ok,T2,S1,T3,hs _ _ O,J]
  have e3:aB g (fI (b.zero.map Zv.val) 0) off=g:=by simp[aB,fI]
  unfold Oper.wp;rw[I,e3];exact⟨C,.arr (s_ d m n) e f p g::L.eraseIdx j,by rw[N];rfl,Mem.le.refl _,λh2=>by omega,G,U,U⟩
 obtain rfl:=hA.resolve_left H;obtain⟨rfl,Y,ah,l,Z,K,aa⟩:=cM X;obtain⟨l⟩:=l;simp only[T5]at K;simp only at aa;have ai:g.length=m*f:=X.1;have aj:m*f<=l.length:=by rw[K];exact SY _ Y
 have z:(fI (b.zero.map Zv.val) c).length=c*f:=by rw[cG,af,ae]
 have ak:∀u∈fI (b.zero.map Zv.val) c,u.oneCell'=true:=λu s=>by
  rw[dH]at s;obtain⟨r,hr,ab⟩:=List.mem_flatten.1 s;rw[TT hr]at ab;exact fU (SA.1 h1 u ab)
 have M:=run_storeCells_at cx.P d off e (fI (b.zero.map Zv.val) c) 0 ⟨l⟩ w Z (by simp[z];omega) ak;simp only[TW]at M;have J:(Builtin.clear_ #[t] o.type #[.slice (some ⟨d,off,none⟩) c B]).run cx.P w=.ok (.tuple #[]) (w.setRow d (aB l (fI (b.zero.map Zv.val) c) off).toArray):=by
  have hz:(Builtin.zeroCells b.zv.cells c).toList=fI (b.zero.map Zv.val) c:=by rw[ag];exact El _ _
  cases ac:c with
 |zero=>exact absurd ac H
 |succ q =>
   rw[ac]at hz M;simp[Builtin.clear_,run_underlying s,pG cx.hT v w,hz,M,aB]
 have I:(execOp a.eval o).run cx.P w=.ok (.value (.tuple #[])) (w.setRow d (aB l (fI (b.zero.map Zv.val) c) off).toArray):=by
  rw[y];simp only[resolve,invoke,builtin,Sem.run_bind,Sem.run_pure,Result.andThen_ok,T2,S1,T3,hs _ _ O,J]
 have al:(aB l (fI (b.zero.map Zv.val) c) off).length=l.length:=ep (by rw[z];omega);have am:(w.setRow d (aB l (fI (b.zero.map Zv.val) c) off).toArray).ownsRow 0 e f (s_ d m n) m (aB g (fI (b.zero.map Zv.val) c) off) :=
  ⟨by rw[ep (by rw[z];omega)];exact ai,.inr ⟨d,n,_,rfl,Sm _,setRow_heap w d _ _ e _ Z,Y,ah,by simp[al,K],by
     rw[<- aa];exact gF l _ off (m*f) (by rw[z];omega) aj⟩⟩
 unfold Oper.wp;rw[I];refine⟨C,.arr (s_ d m n) e f m (aB g (fI (b.zero.map Zv.val) c) off)::L.eraseIdx j,by rw[N];rfl,Mem.le.refl _,λh2=>by omega,
  St.turn G am ⟨rfl,rfl,rfl,by simp,λk _ F=>setRow_other w d k _ (λe=>F (by simp[Value.ownBlock,e]))⟩ (Sg _) (.inl rfl),rfl,rfl⟩
end
section
variable {cx:Cx} {n:Nat} {ds:List (Option Nat)} {R:Rg n ds} {its:List It} {fr:Fr} {C:Mem} {L:List Ent} {i k d:Nat} {o:Oper} {g:GL} {v:Value}
theorem Xn (l:Nat)(h:Nat)(m:Nat){t e c f:Nat}{a:Addr}{x:Operand}{j p q:Option Operand}{s u y:Option Value}{r z:TI}(B:Z12 (Nat.ble k 1) true o.dst (some d) o.op (.slice t x j p q) (gOf ds fr o.guard) (some g) (ev fr g x) (some (.pointer (some a))) (HC (ev fr g) j) (some s) (HC (ev fr g) p) (some u) (HC (ev fr g) q) (some y) (cx.T.get t) (some r) r.k (.arr c e) (cx.T.get e) (some z) z.size f)(E:GT ds fr g->SlB c c s u y l h m)(F:Z2 (aY n ds ((d,g,.slice (some (if m=l then a else a.add (l*f))) (h-l) (m-l))::fr) d) true (wfG ds fr g) true)(G:D cx R its ((d,g,.slice (some (if m=l then a else a.add (l*f))) (h-l) (m-l))::fr) C L):D cx R ((i,k,o)::its) fr C L:=by
 have ⟨H,hd,I,J,b,K,M,N,ht,A,O,Q⟩:=B;have ⟨hp,S⟩:=F;have U:cx.P.underlying t=some (.array c e):=by
  obtain⟨X,Y,Z,z1,g1⟩:=r;simp only at A;subst A;exact pP cx.hT ht
 refine D.run _ H hd J (λV a hs w=>?_) hp S G;have W:execOp a.eval o=(do Pure.pure (.value (<- Instr.sliceAt t (a.eval x) (j.map a.eval) (p.map a.eval) (q.map a.eval))):Sem Next):=by unfold execOp;rw[I]
 rw[W,hs _ _ b,fj (λx v b=>hs x v b) K,fj (λx v b=>hs x v b) M,fj (λx v b=>hs x v b) N];have h2:=eC cx.hT O w;rw[Q]at h2;simp[Instr.sliceAt,Instr.sureAddr,run_underlying U,fL (E V),h2]
end
section
variable {cx:Cx} {n:Nat} {ds:List (Option Nat)} {R:Rg n ds} {its:List It} {fr:Fr} {C:Mem} {L:List Ent} {i k d:Nat} {o:Oper} {g:GL} {v:Value}
theorem WR {t e l:Nat}{m:Array (Nat × Operand)}{s g:TI}(c:List (List Value))(B:Z12 (Nat.ble k 1) false o.dst (some d) (gOn ds fr o.guard) true o.op (.buildSlice t l m) (cx.T.get t) (some s) s.k (.slice e) (cx.T.get e) (some g) (rowsO (ev fr []) m.toList 0) (some c) (c.all λr=>Nat.beq r.length g.size) true (Nat.beq m.toList.length l) true (Nat.ble (l*g.size) 16777216) true (Nat.beq g.size 0) false)(E:∀v,aY n ds ((d,[],v)::fr) d=true)(h:∀b p,C.le p->Sl p g.size (s_ b c.length c.length) c->D cx R its ((d,[],s_ b c.length c.length)::fr) p L):D cx R ((i,k,o)::its) fr C L:=by
 have ⟨F,hd,G,H,ht,I,J,u,K,M,y,z⟩:=B;have q:∀r∈c,r.length=g.size:=λr hr=>S2 (SA.1 K r hr);have A:=S2 M;rw[Ud]at y;have N:=(eh u q).2;refine XS (f:=λb=>s_ b c.length c.length) (ob:=.cells ⟨c.flatten⟩ e) F hd G E (λa hs w=>?_) (λb p O P=>?_)
 .have Q:execOp a.eval o=(do Pure.pure (.value (<- Instr.buildSlice t l (m.map λ(i,x)=>(i,a.eval x)))):Sem Next):=by unfold execOp;rw[H]
  rw[Q];have S:(m.map λ(i,x)=>(i,a.eval x))=(m.toList.map λ(i,x)=>(i,a.eval x)).toArray:=by apply Ua;simp
  rw[S];simp only[Sem.run_bind,gG cx.hT ht I J (λx v U=>hs x v U) u q A y w,Result.andThen_ok,Sem.run_pure]
 refine h b p O (Sl.ofBlock P q (λj v V=>by simpa using V) (Sg _) ?_);rw[N,A];have h0:0<g.size:=Ui (λe=>by rw[e]at z;cases z);have:l<=l*g.size:=UL _ h0;simp only[maxLen];omega
theorem W6 {e f:Nat}{x:Operand}{m b:IntKind}{p c:Int}{q j:TI}(r:Z8 (Nat.ble k 1) true o.dst (some d) o.op (.convert e f x) (gOf ds fr o.guard) (some g) (ev fr g x) (some (.int m p)) (cx.T.get e) (some q) (cx.T.get f) (some j) j.k (.int b))(s:b.wrap p=c)(t:Z2 (aY n ds ((d,g,.int b c)::fr) d) true (wfG ds fr g) true)(h:D cx R its ((d,g,.int b c)::fr) C L):D cx R ((i,k,o)::its) fr C L :=
 have ⟨u,hd,v,y,z,A,B,l⟩:=r;have ⟨hp,E⟩:=t;D.run _ u hd y (λ_ a hs w=>by
  have F:execOp a.eval o=(do Pure.pure (.value (<- convert e f (a.eval x))):Sem Next):=by unfold execOp;rw[v]
  rw[F,hs _ _ z];obtain⟨du,h1,h2⟩:=(dA cx.hT A).und;obtain⟨G,H,I,J,K⟩:=j;simp only at l;subst l;subst s;simp[convert,run_underlying h1,run_underlying (pO cx.hT B),Conv.intToInt]) hp E h
end
theorem Wk {F:Fx}{k:List KI}{a:Fr}{C:Mem}{L L':List Ent}{e:Exit}(b:L=L')(h:G F k e a C L'):G F k e a C L:=b ▸ h
end Go.Jog
namespace Go.Jog
open Go Go.RowKit Go.WideShapes Go.ChangeShapes Go.Deep
variable {W:World}{v:Value}
def sx (W:World):Mem:=λk=>W.heap[k]?
theorem GV (W:World):Sep (sx W) [] W:=⟨λ_ _ h=>h,λx a=>(by cases a),List.Pairwise.nil,λk ⟨x,a,_⟩=>(by cases a)⟩
theorem D2 {a:Addr}(h:W.cell? a=some v):CCell (sx W) a v:=by
 unfold World.cell? at h;split at h
 .rename_i c t fz b;split at h
  .cases h
  rename_i hs;exact⟨by simpa using hs,c,t,fz,b,h⟩
 cases h
theorem AK {P:Program}{f:FuncId}{a:List Value}(h:Gives P f a (sx W) v):Calls P f a.toArray W λe b=>e=.returned v/\RowKit.Below W.heap.size W b :=
 (h.2 W (GV W)).mono λe b ⟨u,j,l,c,d,g,m⟩=>⟨by rw[c,g],d.ev.below (λk ⟨x,i,_⟩=>by cases i)⟩
theorem H4 {α:Type}{p:Nat->α->Prop}:∀{n:Nat},(∀i,i<n->∃x,p i x)->∃l:List α,l.length=n/\∀i x,l[i]?=some x->p i x
|0,_=>⟨[],rfl,λi x h=>by simp at h⟩
|n+1,h=>by
  obtain⟨l,h1,h2⟩:=H4 (n:=n) (λi a=>h i om_);obtain⟨x,b⟩:=h n om_;refine⟨l++[x],by simp[h1],λi y hy=>?_⟩;by_cases a:i<n
  .rw[Ta om_]at hy;exact h2 i y hy
  rw[SR om_]at hy;have:i-l.length=0:=by
   rcases Tx (i-l.length) with h0|h0
   .exact h0
   rw[Sq am]at hy;cases hy
  rw[this]at hy;simp only[List.getElem?_cons_zero,S6]at hy;subst hy;have c:i=n:=by omega
  subst c;exact b
section
variable {H:Type} {enc:TypeId × Value->H} {P:Program} {W:World} {spare:Nat->Bool} {held:Bool}
theorem GJ {d:Type}{t e:TypeId}{k:Nat}{C:Nat}{v:Value}{x:DataW H × List MemPlace}(f:d->List Value)(E:P.underlying t=some (.slice e))(F:P.cellsOf e=k)(S:k≠0)
  (G:∀(n:Nat)(cs:List Value)(y:DataW H × List MemPlace),cs.length=k->DataW.trod enc P W 0 spare held n e cs=some y->∃z:d,cs=f z)
  (h:DataW.trod enc P W 0 spare held C t [v]=some x):∃l:List d,Sl (sx W) k v (l.map f):=by
 rcases open_slice E h with⟨h1,_⟩|⟨a,len,I,m,n,D,T,s,_,J,hm,K,_,w⟩
 .simp only[UW,VW]at h1;subst h1;exact⟨[],Sl.nil _ _⟩
 simp only[UW,VW]at s;subst s;have V:len<=m:=by rw[K];split <;> omega
 rw[F]at w;obtain⟨l,A,o⟩:=H4 (α:=d) (n:=len) (p:=λi z=>W.cells? 0 (a.add (i*k)) k=some (f z)) (λi b=>by
  obtain⟨L,h1,h2⟩:=w i om_;obtain⟨_,h3,_⟩:=World.cells?_some h1;obtain⟨z,rfl⟩:=G n L _ h3 h2;exact⟨z,h1⟩)
 refine⟨l,some a,I,by simp[A],by simp[A];exact J,hm,λr hr=>?_,λi r b=>?_⟩
 .obtain⟨z,c,rfl⟩:=Sn.1 hr;obtain⟨i,b⟩:=TR c;exact(World.cells?_some (o i z b)).2.1
 rw[Sh]at b;cases c:l[i]? with
|none=>rw[c]at b;cases b
|some z =>
  rw[c]at b;simp only[TU,S6]at b;subst b;obtain⟨_,h4,h5⟩:=World.cells?_some (o i z c);have M:∀j u,(f z)[j]?=some u->W.cell? ((a.add (i*k)).add j)=some u:=λj u g=>by
   have N:j<k:=by rw[<- h4];exact(aT.1 g).1
   rw[h5 j N];exact g
  have hs:a.spot=none:=by
   have h0:0<l.length:=by have:=(aT.1 c).1;omega
   obtain⟨q,O⟩:∃q,l[0]?=some q:=⟨l[0],ah h0⟩;obtain⟨_,X,Q⟩:=World.cells?_some (o 0 q O);have B:=Q 0 om_;rw[ah om_]at B;have R:=(D2 B).1;simpa [Addr.add] using R
  exact⟨a,U,hs,λj u g=>by
   have:=D2 (M j u g)
   rwa [wj a _ _ hs]at this⟩
theorem uV {f:Func}{s:ChangeSpec}{l x y z:Bool}{W d:World}{i:Array Value}{v:Value}{e g:List (DataW H)}{a pa pv:List MemPlace}
  (k:DataW.Whole enc P f.params.toList s.vars l W i.toList e g a)
  (m:∀(b:Nat)(c:Nat->Bool)(hd:Bool),DataW.TrodAll enc P d b c hd f.resultTypes.toList (v.resultList f.resultTypes.size) (s.fn H (e++g)).results [])
  (n:∀c:Nat->Bool,(∀p∈a,c p.block=true)->DataW.TrodAll enc P d 0 c true f.params.toList i.toList (s.fn H (e++g)).args pa)
  (o:∀c:Nat->Bool,(∀p∈a,c p.block=true)->DataW.TrodVars enc P d c s.vars (s.fn H (e++g)).vars pv)
  (h:a=pa++pv) (q:RowKit.Below W.heap.size W d)
  (A:∀(j:Nat)(t:TypeId)(r:Value),f.resultTypes[j]?=some t->(v.resultList f.resultTypes.size)[j]?=some r->Value.okWide P d .any 0 t r) :
  s.post enc P f l x y z W i v d:=by
 have u:∀p∈a,p.block<W.heap.size:=λp hp=>k.lt p hp;have hold:∀p∈a,(λb=>decide (b<W.heap.size)) p.block=true:=λp hp=>by simpa using u p hp
 refine⟨e,g,a,[],pa,pv,k,m _ _ _,n _ hold,o _ hold,World.keptBut_mono (λp hp=>⟨hp, ?_⟩) (q.frame (·∈a)),λ_=>?_⟩
 .rw[h,Sx]at hp;exact Or.inr hp
 obtain⟨_,_,_,_,_,B,C⟩:=k;refine⟨A,_,_,([]++pa)++pv,⟨[]++pa,pv,trodAll_append (n _ (λ_ _=>rfl)) (m _ _ _),o _ (λ_ _=>rfl),U, ?_, ?_⟩, ?_⟩
 .intro b off hp;have w:MemPlace.cell b off∈a:=by rw[h];simpa using hp
  rw[q.frozen (u _ w)];exact B b off w
 .intro D;have:=C D;rw[h]at this;simpa using this
 intro p hp _;rw[h];simpa using hp
end
end Go.Jog
namespace Go.Jog
open Go
def AP (P:Program)(t:Nat):Bool:=match P.underlying t with
|some (.array _ e)=>(match P.underlying e with|some d=>tk d|none=>false) && Nat.beq (P.cellsOf e) 1 && !(P.eqGuardType P.depth t) && (P.info? e).isSome
|_=>false
def R7 (P:Program)(t:Nat)(xs:List Value):Bool:=match P.underlying t with
|some (.array m e)=>Nat.beq xs.length m && xs.all (λx=>tP (P.underlying e) x)
|_=>false
theorem iX {P:Program}{e:TypeId}{d:TypeDesc}(m:Nat)(w:World)(c:P.underlying e=some d)(f:tk d=true):∀{xs ys X Y:List Value}{i:Nat}{b:Bool},xs.all (λx=>tP (P.underlying e) x)=true->kJ xs ys=some b->X.drop i=xs->Y.drop i=ys ->
  (Op.eqItems (m+1) e 1 ⟨X⟩ ⟨Y⟩ (List.range' i xs.length)).run P w=.ok b w
|[],ys,X,Y,i,b,_,a,_,_=>by
  cases ys with
 |nil=>simp[kJ]at a;subst a;simp[Op.eqItems]
 |cons=>simp[kJ]at a
|x::xs,ys,X,Y,i,b,g,a,h,j=>by
  cases ys with
 |nil=>simp[kJ]at a
 |cons y ys =>
   simp only[List.all_cons,Sz]at g;simp only[kJ]at a;split at a
   .rename_i p q hp k;cases a
    have l:X[i]?=some x:=by
     have:=congrArg (·[0]?) h;simpa using this
    have hy:Y[i]?=some y:=by
     have:=congrArg (·[0]?) j;simpa using this
    have n:X.drop (i+1)=xs:=by
     have:=congrArg (List.drop 1) h;simpa using this
    have o:Y.drop (i+1)=ys:=by
     have:=congrArg (List.drop 1) j;simpa using this
    have hr:=CG hp m w g.1;have r:=iX m w c f g.2 k n o;simp only[SC,VZ,Op.eqItems,T0,Sem.run_bind,jp c f l w,jp c f hy w,hr,Result.andThen_ok];cases p
    .simp
    simpa using r
   cases a
theorem EK {P:Program}{t:Nat}(a:AP P t=true){xs ys:List Value}(c:R7 P t xs=true){b:Bool}(i:kJ xs ys=some b)(w:World):(Op.equalIn 10000 t (.agg ⟨xs⟩) (.agg ⟨ys⟩)).run P w=.ok b w:=by
 unfold AP at a;unfold R7 at c;cases f:P.underlying t with
|none=>rw[f]at a;cases a
|some D =>
  rw[f]at a c;cases D <;> try (cases a)
  rename_i n e;simp only[Sz]at a c;obtain⟨⟨⟨h1,h2⟩,h3⟩,h4⟩:=a;have j:=S2 h2;have k:=S2 c.1;cases h:P.info? e with
 |none=>rw[h]at h4;cases h4
 |some inf =>
   cases g:P.underlying e with
  |none=>rw[g]at h1;cases h1
  |some d =>
    rw[g]at h1;rw[run_equalIn_array w 9999 ⟨xs⟩ ⟨ys⟩ f h,j,<- k,VL];exact iX 9998 w g h1 c.2 i U U
end Go.Jog
namespace Go.Jog
open Go
inductive OT where
|fin (π:List Nat)
|cut (π:List Nat) (t:OT)
|alt (i:Nat) (t:OT) (r:OT)
|stop
section
variable {P:Program} {ops:Array Oper} {ι:Type} {cls:ι->World->Prop} {le:ι->ι->Prop} {md:Region.Mode}
def DT (P:Program)(ops:Array Oper)(cls:ι->World->Prop)(le:ι->ι->Prop)(kd:Nat->Nat)(Post:Act->ι->Prop):OT->Act->ι->Prop
|.fin π=>DU P ops cls le kd Post π
|.cut π t=>DU P ops cls le kd (DT P ops cls le kd Post t) π
|.alt i t r=>λa κ=>gU P ops cls le (kd i) i (DT P ops cls le kd Post t) a κ/\DT P ops cls le kd Post r a κ
|.stop=>λ_ _=>True
def jB:OT->List Nat
|.alt i _ r=>i::jB r
|_=>[]
def OP:OT->Bool
|.fin _|.cut _ _=>true
|_=>false
def iB:List Nat->Array Bool->Array Bool
|[],listed=>listed
|i::π,listed=>iB π (listed.setIfInBounds i true)
def Qp (md:Region.Mode)(ops:Array Oper)(kd:Nat->Nat):List Nat->Array Bool->Bool
|[],_=>true
|i::π,listed=>(bif Nat.ble (kd i) 1 then (Region.ready md ops listed).contains i && LC md ops kd listed i else (Region.ready md ops listed == [i])) && Qp md ops kd π (listed.setIfInBounds i true)
def Kj (md:Region.Mode)(ops:Array Oper)(kd:Nat->Nat):OT->Nat->Array Bool->Bool
|.fin π,f,listed=>Nat.beq π.length f && (Qp md ops kd π listed && (Region.ready md ops (iB π listed)).isEmpty)
|.cut π t,f,listed=>Nat.blt π.length f && (Qp md ops kd π listed && ((Region.ready md ops (iB π listed)).all (λi=>(jB t).contains i) && (!(Region.ready md ops (iB π listed)).isEmpty && Kj md ops kd t (f-π.length) (iB π listed))))
|.alt i t r,f,listed=>(Nat.blt 0 f && (OP t && Kj md ops kd t (f-1) (listed.setIfInBounds i true))) && Kj md ops kd r f listed
|.stop,_,_=>true
theorem fy (r:∀a b c,le a b->le b c->le a c){k:Nat->Nat}{u K:Act->ι->Prop}(s:Region.noSelect ops=true){f:Nat} :
  ∀(d:List Nat)(e:Array Bool)(a:Act)(κ:ι),Closed md ops e->Qp md ops k d e=true->(∀a κ,Closed md ops (iB d e)->K a κ->lP P md ops cls le k u f (iB d e) a κ) ->
   DU P ops cls le k K d a κ->lP P md ops cls le k u (d.length+f) e a κ
|[],e,a,κ,l,_,n,h=>by
  rw[SZ,Tw];exact n a κ l h
|i::d,e,a,κ,l,w,n,h=>by
  simp only[Qp,Sz]at w;obtain⟨g,x⟩:=w;rw[SC,Nat.add_right_comm];by_cases p:k i<=1
  .have t:Nat.ble (k i) 1=true:=by rw[Ud];exact p
   rw[t]at g;simp only[T8,Sz,VE]at g;obtain⟨hr,y⟩:=g;simp only[DU]at h;unfold gU at h;cases q:ops[i]? with
  |none=>simp only[q]at h
  |some o =>
    simp only[q,p,Ul]at h;obtain⟨v,hy,A⟩:=h;refine oo (F:=ops.size) r q p (λj o cs b=>Region.noSelect_spec s j o cs b) (d.length+f) e a κ l (λj I m B C=>?_) hr hy
     (fy r s d _ _ κ (l.set hr) x n A)
    simp only[LC,q,SA,SE]at y;have:=y j (Uk.1 m).1;simp only[m,Uh,T4,B,false_or,C,Tg,Sz,Ud]at this;rcases this with h1|h1
    .exact .inr h1
    exact .inl h1
  have t:Nat.ble (k i) 1=false:=by
   cases z:Nat.ble (k i) 1 with
  |false=>rfl
  |true=>exact absurd (by rw[Ud]at z;exact z) p
  rw[t]at g;simp only[cond_false,T4]at g;have D:i∈Region.ready md ops e:=by rw[g];simp
  refine⟨λh0=>(by rw[h0]at g;cases g),λj m=>?_⟩;rw[g]at m;obtain rfl:j=i:=by simpa using m
  exact jS (λE G H=>fy r s d _ E G (l.set D) x n H) h
theorem gr (p:∀a b c,le a b->le b c->le a c){q:Nat->Nat}{z:Act->ι->Prop}(s:Region.noSelect ops=true) :
  ∀(t:OT)(f:Nat)(d:Array Bool)(a:Act)(κ:ι),Closed md ops d->Kj md ops q t f d=true->DT P ops cls le q z t a κ ->
   (match t with
   |.fin _|.cut _ _=>lP P md ops cls le q z f d a κ
   |_=>∀i∈jB t,i∈Region.ready md ops d->(∃n,f=n+1/\gU P ops cls le (q i) i (lP P md ops cls le q z n (d.setIfInBounds i true)) a κ))
|.fin g,f,d,a,κ,o,k,h=>by
  simp only[Kj,Sz,UN]at k;obtain⟨A,u,v⟩:=k;have:=S2 A;have h2:=fy (f:=0) p s g d a κ o u (λa κ _ B=>⟨v,B⟩) h;rw[TW,this]at h2;exact h2
|.cut g t,f,d,a,κ,o,k,h=>by
  simp only[Kj,Sz,SA]at k;obtain⟨A,u,v,C,F⟩:=k;rw[VJ]at A;have G:Region.ready md ops (iB g d)≠[]:=λe=>by rw[e]at C;cases C
  have h2:=fy (f:=f-g.length) p s g d a κ o u (λa κ H B=>by
   have l:=gr p s t (f-g.length) (iB g d) a κ H F B;obtain⟨n,I⟩:∃n,f-g.length=n+1:=⟨f-g.length-1,by omega⟩;rw[I]at l⊢;refine⟨λh0=>absurd h0 G,λi m=>?_⟩;have w:=v i m;rw[VE]at w;cases t with
  |fin x=>simp[jB]at w
  |cut x y=>simp[jB]at w
  |stop=>simp[jB]at w
  |alt j y r' =>
    obtain⟨J,Q,hs⟩:=l i w m;obtain rfl:n=J:=by omega
    exact hs) h
  rw[show g.length+(f-g.length)=f by omega]at h2;exact h2
|.alt j t r,f,d,a,κ,o,k,h=>by
  simp only[Kj,Sz]at k;obtain⟨⟨K,D,u⟩,v⟩:=k;rw[VJ]at K;intro i m hr;simp only[jB,Sw]at m;by_cases E:i=j
  .subst E;refine⟨f-1,by omega,jS (λL M N=>?_) h.1⟩;have l:=gr p s t (f-1) _ L M (o.set hr) u N;cases t with
  |fin x=>exact l
  |cut x y=>exact l
  |stop=>cases D
  |alt O y r'=>cases D
  have h2:=m.resolve_left E;have l:=gr p s r f d a κ o v h.2;cases r with
 |fin x=>simp[jB]at h2
 |cut x y=>simp[jB]at h2
 |stop=>simp[jB]at h2
 |alt O y r'=>exact l i h2 hr
|.stop,_,_,_,_,_,_,_=>by
  intro i m;simp[jB]at m
theorem sq (W:Cw P)(n:W.nd ops)(d:∀κ,le κ κ)(o:∀a b c,le a b->le b c->le a c){e:Nat->Nat}{f:Act->ι->Prop}{p:Nat}{Q:Exit->Act->World->Prop}{a:Act}{w:World}{κ:ι}
  (q:P.follows .mixedOrders=true) (g:cls κ { w with drawn:=w.drawn+1 }) (t:OT) (k:OP t=true)
  (l:(Region.noSelect ops && Kj .any ops e t ops.size (Array.replicate ops.size false))=true) (h:DT P ops cls le e f t a κ)
  (m:∀a κ w,f a κ->cls κ w->Q .normal a w):W.wp (Code.region p ops true) Q a w:=by
 simp only[Sz]at l;obtain⟨hs,s⟩:=l;refine W.any q n ?_;have h0:Closed .any ops (Array.replicate ops.size false):=λj x _ u=>by
  rcases SP j ops.size with h|h <;> simp[h]at u
 have:=gr o hs t ops.size _ a κ h0 s h;cases t with
|fin v=>exact jR d m _ _ _ _ _ g this
|cut v t=>exact jR d m _ _ _ _ _ g this
|stop=>cases k
|alt i t r=>cases k
end
section
variable {cx:Cx} {n:Nat} {ds:List (Option Nat)} {fr:Fr} {C:Mem} {L:List Ent}
def RgT (P:Program)(R:Rg n ds)(t:OT):Rg n ds:=⟨R.b,R.ops,R.kd,DT P R.ops R.b.cls kle R.kd R.Post t,R.hy,R.dd⟩
def DN (cx:Cx)(R:Rg n ds)(l:List Oper)(ov:List (Nat × Nat)):OT->Fr->Mem->List Ent->Prop
|.fin π=>D cx R (jd l ov π)
|.cut π t=>D cx (RgT cx.P R t) (jd l ov π)
|_=>λ_ _ _=>True
def DA (cx:Cx)(R:Rg n ds)(l:List Oper)(ov:List (Nat × Nat)):OT->Fr->Mem->List Ent->Prop
|.alt i (.fin π) r=>λfr C L=>D cx R (jd l ov (i::π)) fr C L/\DA cx R l ov r fr C L
|.alt i (.cut π t) r=>λfr C L=>D cx (RgT cx.P R t) (jd l ov (i::π)) fr C L/\DA cx R l ov r fr C L
|.stop=>λ_ _ _=>True
|_=>λ_ _ _=>False
def Lu (m:Nat):OT->Bool
|.fin π=>π.all (λi=>Nat.blt i m)
|.cut π t=>π.all (λi=>Nat.blt i m) && Lu m t
|.alt i t r=>Nat.blt i m && (Lu m t && Lu m r)
|.stop=>true
theorem vx {R:Rg n ds}{l:List Oper}{a:List (Nat × Nat)}(d:∀i,i<l.length->R.kd i=ovr a i (fY (oL l i))/\R.ops[i]?=some (oL l i)){b:List Nat}(h:b.all (λi=>Nat.blt i l.length)=true) :
  ∀x∈jd l a b,R.kd x.1=x.2.1/\R.ops[x.1]?=some x.2.2:=λx e=>by
 obtain⟨h1,h2,h3⟩:=hU e;have c:=SA.1 h x.1 h1;rw[VJ]at c;have:=d x.1 c;exact⟨this.1.trans h2.symm,by rw[this.2,h3]⟩
theorem wo {R:Rg n ds}{l:List Oper}{g:List (Nat × Nat)}(d:∀i,i<l.length->R.kd i=ovr g i (fY (oL l i))/\R.ops[i]?=some (oL l i))(e:R.b.C0.le C){a:Act}(f:FrOk n ds R.dd fr a) :
  ∀(t:OT),Lu l.length t=true->DA cx R l g t fr C L->DT cx.P R.ops R.b.cls kle R.kd R.Post t a (C,L)
|.alt i (.fin j) r,c,h=>by
  simp only[Lu,Sz]at c;have h1:=h.1 e (vx d (by simp only[List.all_cons,Sz];exact⟨c.1,c.2.1⟩)) a f;rw[eJ]at h1;exact⟨h1,wo d e f r c.2.2 h.2⟩
|.alt i (.cut j t) r,c,h=>by
  simp only[Lu,Sz]at c;have h1:=h.1 e (vx (R:=RgT cx.P R t) d (by simp only[List.all_cons,Sz];exact⟨c.1,c.2.1.1⟩)) a f;rw[eJ]at h1;exact⟨h1,wo d e f r c.2.2 h.2⟩
|.stop,_,_=>trivial
|.fin _,_,h=>h.elim
|.cut _ _,_,h=>h.elim
|.alt _ (.alt _ _ _) _,_,h=>h.elim
|.alt _ .stop _,_,h=>h.elim
theorem WK {R:Rg n ds}{l:List Oper}{a:List (Nat × Nat)}{t:OT}(b:∀i,i<l.length->R.kd i=ovr a i (fY (oL l i))/\R.ops[i]?=some (oL l i))(c:Lu l.length t=true)(h:DA cx R l a t fr C L):D cx (RgT cx.P R t) [] fr C L :=
 λh0 _ _ d=>wo b h0 d t c h
end
section
variable {F:Fx} {k:List KI} {fr:Fr} {C:Mem} {L:List Ent}
theorem WW {z:Nat}{l:List Oper}(t:OT)(f:List (Nat × Nat))(c:fr.all (λx=>x.2.1.isEmpty)=true)(o:OP t=true)
  (j:((Region.noSelect l.toArray && Kj .any l.toArray (λi=>ovr f i (fY (oL l i))) t l.toArray.size (Array.replicate l.toArray.size false)) && Lu l.length t)=true)
  (h:∀R:Rg F.n (l.map (·.dst)),C.le R.b.C0->(∀fr C L,fr.all (λx=>x.2.1.isEmpty)=true->G F (kI 64 k) .normal fr C L->D F.cx R [] fr C L) ->
   (∀i,i<l.length->R.kd i=ovr f i (fY (oL l i))/\R.ops[i]?=some (oL l i))->DN F.cx R l f t fr C L) (A:F.W.nd l.toArray:=by first|exact trivial|exact rfl) :
  G F (.code (.region z l.toArray true)::k) .normal fr C L:=λh0 a w d e=>by
 simp only[Kq];rw[Sz]at j
 let kd:=λi=>ovr f i (fY (oL l i))
 let b:Bs:=⟨F.b.w0,C,F.b.L0⟩
 let Post:Act->Mem × List Ent->Prop:=λa κ=>∀w,b.cls κ w->Kq F k .normal a w
 let R:Rg F.n (l.map (·.dst)):=⟨b,l.toArray,kd,Post,λtmps=>gR l tmps,F.dd⟩
 have B:∀κ w,b.cls κ w->F.b.cls κ w:=λκ w E=>St.unbase h0 e.cn E;have q:∀i,i<l.length->R.kd i=ovr f i (fY (oL l i))/\R.ops[i]?=some (oL l i):=λi m=>⟨rfl,by
  show(l.toArray)[i]?=_;rw[TG,gY m]⟩
 have u:=h R l_ (λfr N L c H I _ a d w e=>WM 64 H (h0.trans I) a w ⟨d.size,d.defers,λs g v y=>by
  have hm:=SA.1 c _ (Fr.get_mem y);simp only[UN]at hm;subst hm;exact⟨λ_=>(d.ent s [] v y).1 (λp c=>by cases c),λJ=>absurd (λp c=>by cases c) J⟩⟩ (B _ _ e)) q
 have hT:DT F.cx.P l.toArray b.cls kle kd Post t a (C,L):=by
  cases t with
 |fin K =>
   have h1:=u l_ (vx q j.2) a (d.enter _ c);rw[eJ]at h1;exact h1
 |cut K t =>
   have m:=j.2;simp only[Lu,Sz]at m;have h1:=u l_ (vx (R:=RgT F.cx.P R t) q m.1) a (d.enter _ c);rw[eJ]at h1;exact h1
 |stop=>cases o
 |alt i t r=>cases o
 exact sq F.W A (cls:=b.cls) (le:=kle) kle.refl kle.trans F.cx.mixed (St.rebase (St.drew e)) t o j.1 hT (λa κ w M e=>M w e)
end
end Go.Jog
namespace Go.Jog
open Go Go.MapKept
section
variable {κ β:Type} [DecidableEq κ]
def ef:List (κ × β)->κ->Option β
|[],_=>none
|(k',v)::m,k=>if k'=k then some v else ef m k
def iY:List (κ × β)->κ->β->List (κ × β)
|[],k,v=>[(k,v)]
|(k',v')::m,k,v=>if k'=k then (k,v)::m else (k',v')::iY m k v
theorem Dq {a:Type}(f:β->a):∀(m:List (κ × β))(k:κ),ef (m.map λp=>(p.1,f p.2)) k=(ef m k).map f
|[],_=>rfl
|(b,v)::m,k=>by
  simp only[S1,ef];split
  .rfl
  exact Dq f m k
def kS:List (κ × β)->κ->Option (Nat × β)
|[],_=>none
|(k',v)::m,k=>if k'=k then some (0,v) else (kS m k).map λp=>(p.1+1,p.2)
theorem qX:∀(m:List (κ × β))(k:κ),(kS m k).map (·.2)=ef m k
|[],_=>rfl
|(a,v)::m,k=>by
  simp only[kS,ef];split
  .rfl
  rw[<- qX m k];cases kS m k <;> rfl
end
structure KeyT (d:TypeDesc)(κ:Type)[DecidableEq κ] where
 enc:κ->Value
 isKey:∀a,IsKey d (enc a)
 same:∀a b,Instr.sameNow d (enc a) (enc b)=some (decide (a=b))
def bH {κ:Type}(enc:κ->Value):List (κ × Value)->Nat->List MapEntry
|[],_=>[]
|(k,v)::m,i=>⟨enc k,v,i⟩::bH enc m (i+1)
def bg {κ:Type}(enc:κ->Value)(m:List (κ × Value)):Obj:=.map ⟨bH enc m 0⟩ m.length
section
variable {d:TypeDesc} {κ:Type} [DecidableEq κ] (K:KeyT d κ)
theorem iL (k:κ):∀(m:List (κ × Value))(i j:Nat),Instr.findNow d (K.enc k) (bH K.enc m i) j=some ((kS m k).map λp=>(j+p.1,p.2))
|[],i,j=>rfl
|(a,v)::m,i,j=>by
  simp only[bH,Instr.findNow,K.same];by_cases h:k=a
  .subst h;simp[kS]
  have b:¬ a=k:=λe=>h e.symm;simp only[h,decide_false,iL k m (i+1) (j+1),kS,aF b];cases kS m k with
 |none=>rfl
 |some p=>simp;omega
theorem oz {a:Type}(b:a->Value):∀(m:List (a × Value))(i:Nat),(bH b m i).length=m.length
|[],_=>rfl
|_::m,i=>by simp[bH,oz b m]
theorem tC {k:κ}{v:Value}:∀{m:List (κ × Value)}{i:Nat},kS m k=none->bH K.enc m i++[⟨K.enc k,v,i+m.length⟩]=bH K.enc (iY m k v) i/\(iY m k v).length=m.length+1
|[],i,_=>⟨rfl,rfl⟩
|(d,e)::m,i,h=>by
  simp only[kS]at h;split at h
  .cases h
  rename_i a;have b:kS m k=none:=by
   cases c:kS m k with
  |none=>rfl
  |some p=>rw[c]at h;cases h
  obtain⟨h1,h2⟩:=tC (i:=i+1) (v:=v) b;simp only[iY,aF a,bH,Ub,SC,h2];refine⟨?_,trivial⟩;rw[<- h1];congr 3;congr 1;omega
theorem tB {k:κ}{v:Value}:∀{m:List (κ × Value)}{i q:Nat}{u:Value},kS m k=some (q,u)->(bH K.enc m i).modify q (λe=>{ e with key:=K.enc k,val:=v })=bH K.enc (iY m k v) i/\(iY m k v).length=m.length/\((bH K.enc m i)[q]?).map (·.key)=some (K.enc k)
|[],_,_,_,h=>by cases h
|(c,d)::m,i,q,u,h=>by
  simp only[kS]at h;split at h
  .rename_i e;subst e;cases h
   simp[bH,iY]
  rename_i b;cases a:kS m k with
 |none=>rw[a]at h;cases h
 |some p =>
   obtain⟨f,g⟩:=p;rw[a]at h;cases h
   obtain⟨h1,h2,h3⟩:=tB (i:=i+1) (v:=v) a;simp only[iY,aF b,bH,SC,h2,List.modify_succ_cons,h1];exact⟨trivial,trivial,by simpa using h3⟩
end
theorem io {T:Tab}{P:Program}(f:oR P T=true){t k e:Nat}{a:TI}(h:T.get t=some a)(c:a.k=.map k e):P.underlying t=some (.map k e):=by
 obtain⟨i,s,b,z,g⟩:=a;simp only at c;subst c;obtain⟨d,h1,h2⟩:=M6 f h;cases d <;> simp[tkB]at h2
 rw[h1,h2.1,h2.2]
section
variable {cx:Cx} {n:Nat} {ds:List (Option Nat)} {R:Rg n ds} {its:List It} {fr:Fr} {C:Mem} {L:List Ent} {i k d:Nat} {o:Oper} {g:GL} {v:Value}
variable {kd:TypeDesc} {κ:Type} [DecidableEq κ] (K:KeyT kd κ)
theorem D.makeMap {t:Nat}(c:Nat.ble k 1=false)(e:o.dst=some d)(g:gOn ds fr o.guard=true)(j:o.op=.makeMap t none)(l:∀v,aY n ds ((d,[],v)::fr) d=true)
  (h:∀b,D cx R its ((d,[],.map (some b))::fr) C (.obj b (bg K.enc [])::L)):D cx R ((i,k,o)::its) fr C L :=
 Xo (f:=λb=>.map (some b)) (ob:=bg K.enc []) c e g l (λa _ w=>by
  have m:execOp a.eval o=(do Pure.pure (.value (<- Instr.makeMap t none)):Sem Next):=by unfold execOp;rw[j];rfl
  rw[m];rfl) h
def mA (z:Value)(ok:Bool):Option Value->Value
|some u=>bif ok then .tuple #[u,.bool true] else u
|none=>bif ok then .tuple #[z,.bool false] else z
theorem EI {P:Program}{T:Tab}(c:oR P T=true){t d e:Nat}{f g:TI}{a:Bool}(i:T.get t=some f)(j:f.k=.map d e)(h:P.underlying d=some kd)(l:T.get e=some g){w:World}{b:Nat}{m:List (κ × Value)}(n:w.heap[b]?=some (bg K.enc m))(y:κ) :
  (Instr.lookup t (.map (some b)) (K.enc y) a).run P w=.ok (mA g.zv a (ef m y)) w:=by
 have o:=io c i j;have q:=iL K y m 0 0;have h1:(getObj b).run P w=.ok (.map ⟨bH K.enc m 0⟩ m.length) w:=Go.MapKept.run_getObj_map n;have h2:=run_findKey (P:=P) (w:=w) h q;rw[<- qX];unfold Instr.lookup;simp only[Sem.run_bind,run_underlying o,Result.andThen_ok,h1,Sem.run_pure,run_checkKey h (K.isKey y)];rw[h2];cases kS m y with
|none=>cases a <;> simp[mA,pG c l w]
|some p=>cases a <;> simp[mA]
theorem Xm {b t j l:Nat}{x y:Operand}{c:Bool}{m:List (κ × Value)}{f:κ}{p q:TI}(s:Ent.obj b (bg K.enc m)∈L)(r:k=1)(u:o.dst=some d)(z:o.op=.lookup t x y c)(A:gOf ds fr o.guard=some g)(B:ev fr g x=some (.map (some b)))(E:ev fr g y=some (K.enc f))
  (F:cx.T.get t=some p) (G:p.k=.map j l) (H:cx.P.underlying j=some kd) (I:cx.T.get l=some q) (J:mA q.zv c (ef m f)=v) (M:aY n ds ((d,g,v)::fr) d=true) (N:wfG ds fr g=true)
  (h:D cx R its ((d,g,v)::fr) C L):D cx R ((i,k,o)::its) fr C L :=
 WL (by subst r;rfl) u A M N (λ_ a hs X O w Q=>by
  have S:w.heap[b]?=some (bg K.enc m):=Q.sep.e _ ((O r).2 _ s);have V:(execOp a.eval o).run cx.P w=.ok (.value v) w:=by
   have W:execOp a.eval o=(do Pure.pure (.value (<- Instr.lookup t (a.eval x) (a.eval y) c)):Sem Next):=by unfold execOp;rw[z]
   rw[W,hs _ _ B,hs _ _ E,<- J];simp only[Sem.run_bind,EI K cx.hT F G H I S f,Result.andThen_ok,Sem.run_pure]
  unfold Oper.quietAt;rw[V];exact⟨U,U⟩) h
theorem D.mapUpdate {t l F j b:Nat}{x y z:Operand}{m:List (κ × Value)}{c:κ}{n:TI}(G:k=3)(H:gOn ds fr o.guard=true)(I:o.dst=none)(J:o.op=.mapUpdate t x y z)
  (M:ev fr [] x=some (.map (some b))) (N:ev fr [] y=some (K.enc c)) (O:ev fr [] z=some v) (Q:L[j]?=some (.obj b (bg K.enc m)))
  (V:cx.T.get t=some n) (W:n.k=.map l F) (r:cx.P.underlying l=some kd)
  (h:D cx R its fr C (.obj b (bg K.enc (iY m c v))::L.eraseIdx j)):D cx R ((i,k,o)::its) fr C L :=
 Xh (S:=λs L'=>s=C/\L'=.obj b (bg K.enc (iY m c v))::L.eraseIdx j) (by subst G;rfl) H (λa hs w _ X=>by
  have A:=St.perm X (aw Q);have f:w.heap[b]?=some (bg K.enc m):=A.sep.e _ (Sj ..);have Y:=io cx.hT V W;have Z:=iL K c m 0 0;have h1:(getObj b).run cx.P w=.ok (.map ⟨bH K.enc m 0⟩ m.length) w:=Go.MapKept.run_getObj_map f;have h2:=run_findKey (P:=cx.P) (w:=w) r Z;have aa:(Instr.mapUpdate t (.map (some b)) (K.enc c) v).run cx.P w=.ok () { w with heap:=w.heap.setIfInBounds b (bg K.enc (iY m c v)) }:=by
   unfold Instr.mapUpdate;simp only[Sem.run_bind,run_underlying Y,Result.andThen_ok,h1,run_checkKey r (K.isKey c)];rw[h2];cases B:kS m c with
  |none =>
    obtain⟨h3,h4⟩:=tC K (v:=v) (i:=0) B;simp only[Option.map_none,Result.andThen_ok];rw[Go.MapKept.run_setObj_map (P:=cx.P) _ f];congr 2;simp only[bg,h4,<- h3,Tw];congr 2;apply Ua;simp
  |some p =>
    obtain⟨q,u⟩:=p;obtain⟨h3,h4,h5⟩:=tB K (v:=v) (i:=0) B;have hq:(((⟨bH K.enc m 0⟩:Array MapEntry)[0+q]?).map (·.key)).getD (K.enc c)=K.enc c:=by
     rw[Tw];show(((bH K.enc m 0).toArray[q]?).map (·.key)).getD (K.enc c)=K.enc c;rw[TG,h5];rfl
    simp only[TU,Result.andThen_ok,Sem.run_bind];rw[hq,run_keyThatStays (d:=kd) (K.isKey c)];simp only[Result.andThen_ok];rw[Go.MapKept.run_setObj_map (P:=cx.P) _ f];congr 2;simp only[bg,h4,<- h3,Tw];congr 2;apply Ua;simp
  have ab:(execOp a.eval o).run cx.P w=.ok .skip { w with heap:=w.heap.setIfInBounds b (bg K.enc (iY m c v)) }:=by
   have g:execOp a.eval o=(do Instr.mapUpdate t (a.eval x) (a.eval y) (a.eval z);Pure.pure .skip:Sem Next):=by unfold execOp;rw[J]
   rw[g,hs _ _ M,hs _ _ N,hs _ _ O];simp only[Sem.run_bind,aa,Result.andThen_ok,Sem.run_pure]
  unfold Oper.wp;rw[ab];have E:=heap_set (o':=bg K.enc (iY m c v)) f;refine⟨C,.obj b (bg K.enc (iY m c v))::L.eraseIdx j, ?_,Mem.le.refl _,λh2=>by omega,St.put A E.1 E.2 al U U U (Sg _),U,U⟩;rw[I];rfl)
  (λs L' _ ⟨g,e2⟩=>by subst g;subst e2;exact h)
end
theorem GA (a b:List UInt8):((⟨a.toArray⟩:ByteArray) == ⟨b.toArray⟩)=decide (a=b):=by
 by_cases h:a=b
 .subst h;simp[(bytes_beq _ _).2 rfl]
 have:¬ ((⟨a.toArray⟩:ByteArray) == ⟨b.toArray⟩)=true:=λe=>h (by
  have:=(bytes_beq _ _).1 e;have h2:=congrArg (λx:ByteArray=>x.data.toList) this;simpa using h2)
 simp[h,Bool.eq_false_iff.2 this]
def keyS:KeyT .string (List UInt8) where
 enc s:=.string ⟨s.toArray⟩
 isKey _:=trivial
 same a b:=by simp only[Instr.sameNow,GA]
end Go.Jog
namespace Go.Jog
open Go
variable {C C0:Mem}{L L0:List Ent}{b:Nat}{ob:Obj}{w w0:World}
def Mem.unset (C:Mem)(b:Nat):Mem:=λk=>if k=b then none else C k
theorem Mem.unset_le (C:Mem)(b:Nat):(C.unset b).le C:=λk o h=>by
 unfold Mem.unset at h;split at h
 .cases h
 exact h
theorem Mem.le_unset {D:Mem}(h:C.le D)(c:C b=none):C.le (D.unset b):=λk o a=>by
 unfold Mem.unset;split
 .rename_i e;subst e;rw[c]at a;cases a
 exact h k o a
theorem St.aside (h:St w0 C0 L0 C (.obj b ob::L) w):St w (C.set b ob) L (C.set b ob) L w :=
 (St.freeze h).2 |> λs=>St.start s.sep
theorem St.back {f:Mem}{g:List Ent}{i:World}(h:St w0 C0 L0 C (.obj b ob::L) w)(k:St w (C.set b ob) L f g i):St w0 C0 L0 (f.unset b) (.obj b ob::g) i:=by
 have j:C b=none:=h.sep.n b ⟨_,Sj ..,rfl⟩;have l:C.le f:=(Mem.le_set j).trans k.c0;have k2:St w C L (f.unset b) g i:=⟨⟨λq o a=>k.sep.c q o (Mem.unset_le _ _ q o a),k.sep.e,k.sep.d,λq a=>by
   have:=k.sep.n q a;unfold Mem.unset;split
   .rfl
   .exact this⟩,k.ev,Mem.le_unset l j,λq o a=>by
   have m:q≠b:=λe=>by subst e;simp[Mem.unset]at a
   rcases k.cn q o (Mem.unset_le _ _ q o a) with h1|h1
   .unfold Mem.set at h1;rw[aF m]at h1;exact .inl h1
   exact .inr h1,k.ln⟩
 have h2:St w0 C0 L0 C (L++[.obj b ob]) w:=St.perm h (Tq (l₁:=[Ent.obj b ob]) (l₂:=L));exact St.perm (St.call h2 k2) (Tq (l₁:=g) (l₂:=[Ent.obj b ob]))
section
variable {F:Fx} {k:List KI} {fr:Fr} {C:Mem} {L:List Ent}
theorem XH {J:Nat}{l:List Oper}(j:Nat){b:Nat}{d:Obj}(K:L[j]?=some (.obj b d))(e:List Nat)(q:List (Nat × Nat))(c:fr.all (λx=>x.2.1.isEmpty)=true)
  (r:(Region.noSelect l.toArray && (e.length == l.toArray.size) && NU .any l.toArray (λi=>ovr q i (fY (oL l i))) e (Array.replicate l.toArray.size false) && e.all (λi=>Nat.blt i l.length))=true)
  (h:∀(o:Mem)(R:Rg F.n (l.map (·.dst))),C.le o->o b=some d->o.le R.b.C0->(∀fr t u,fr.all (λx=>x.2.1.isEmpty)=true->(∀z,C.le z->G F (kI 64 k) .normal fr z (.obj b d::u))->D F.cx R [] fr t u)->D F.cx R (jd l q e) fr o (L.eraseIdx j)) (M:F.W.nd l.toArray:=by first|exact trivial|exact rfl) :
  G F (.code (.region J l.toArray true)::k) .normal fr C L:=λh0 a w f N=>by
 simp only[Kq];have m:St F.b.w0 F.b.C0 F.b.L0 C (.obj b d::L.eraseIdx j) w:=St.perm N (aw K);rw[Sz]at r;have y:C b=none:=m.sep.n b ⟨_,Sj ..,rfl⟩
 let kd:=λi=>ovr q i (fY (oL l i))
 let bs:Bs:=⟨w,C.set b d,L.eraseIdx j⟩
 let Post:Act->Mem × List Ent->Prop:=λa κ=>∀w,bs.cls κ w->Kq F k .normal a w
 let R:Rg F.n (l.map (·.dst)):=⟨bs,l.toArray,kd,Post,λtmps=>gR l tmps,F.dd⟩
 have A:=h (C.set b d) R (Mem.le_set y) (Mem.set_self _ _ _) l_ (λfr t u c O U _ a f w' B=>by
  have P:=St.back m B;have E:C.le (t.unset b):=Mem.le_unset ((Mem.le_set y).trans B.c0) y;exact WM 64 (O _ E) (h0.trans E) a w' ⟨f.size,f.defers,λs g v H=>by
   have hm:=SA.1 c _ (Fr.get_mem H);simp only[UN]at hm;subst hm;exact⟨λ_=>(f.ent s [] v H).1 (λp c=>by cases c),λQ=>absurd (λp c=>by cases c) Q⟩⟩ P) l_ (λx S=>by
   obtain⟨h1,h2,h3⟩:=hU S;refine⟨h2.symm, ?_⟩;have I:=SA.1 r.2 x.1 h1;rw[VJ]at I;show(l.toArray)[x.1]?=_;rw[TG,gY I,h3]) a (f.enter _ c)
 rw[eJ]at A;exact lM F.W M (cls:=bs.cls) (le:=kle) kle.refl kle.trans F.cx.mixed (St.drew (St.aside m)) e r.1 A (λa κ w T m=>T w m)
end
end Go.Jog
namespace Go.Jog
structure Arc3 where
 i:Nat
 lo:Nat
 up:Nat
 deriving DecidableEq,Inhabited
def Mw:Nat->List Arc3->Nat->Prop
|u,[],v=>u=v
|u,a::p,v=>a.lo=u/\Mw a.up p v
def In (A p:List Arc3):Prop:=∀a∈p,a∈A
def Se (A:List Arc3)(k u v:Nat):Prop:=∃p,In A p/\p.length=k/\Mw u p v
end Go.Jog
namespace Go.Jog
def dAt (d:List Int)(u:Nat):Int:=d.getD u (-1)
def fin (d:List Int):Nat:=d.countP (λx=>decide (0<=x))
structure PM (A:List Arc3)(to n:Nat)(d:List Int):Prop where
 len:d.length=n
 neg:∀u,u<n->-1<=dAt d u
 small:∀u,u<n->dAt d u<fin d
 walk:∀u,u<n->0<=dAt d u->Se A (dAt d u).toNat u to
 zero:dAt d to=0
def PK (d:List Int)(a:Arc3):Prop:=0<=dAt d a.up->0<=dAt d a.lo/\dAt d a.lo<=dAt d a.up+1
def nums (p:List Arc3):List Nat:=p.map (·.i)
def Rv (x y:List Nat):Prop:=∃c b b' s s',x=c++b::s/\y=c++b'::s'/\b<b'
def above (A:List Arc3)(i:Nat):List Arc3:=A.filter λa=>decide (i<a.i)
structure Greedy (A:List Arc3)(from_ to m:Nat)(p:List Arc3)(at_:Nat):Prop where
 inA:In A p
 chain:Mw from_ p at_
 ahead:∀r,In A r->Mw from_ r to->r.length=m->(∃s,r=p++s)∨Rv (nums p) (nums r)
end Go.Jog
namespace Go.Jog
def Ord (A:List Arc3)(o:List Nat):Prop:=∀pre u post,o=pre++u::post->∀a∈A,a.up=u->a.lo∈pre
def Topo (A:List Arc3)(n:Nat)(o:List Nat):Prop:=o.length=n/\o.Nodup/\(∀u∈o,u<n)/\Ord A o
def cnt (A:List Arc3)(dn:List Nat)(u:Nat):Nat:=A.countP λa=>decide (a.up=u) && !(dn.contains a.lo)
structure Kahn (A:List Arc3)(n:Nat)(dn av:List Nat):Prop where
 nodup:dn.Nodup
 below:∀u∈dn,u<n
 ord:Ord A dn
 avnd:av.Nodup
 av:∀u,u∈av ↔ u<n/\u ∉ dn/\cnt A dn u=0
 least:∀o,Topo A n o->(∃s,o=dn++s)∨Rv dn o
end Go.Jog
namespace Go.Jog
def addW (o:Nat)(self:Bool)(x:Nat):Nat:=max (if self=true then max x 1 else x) (if 0<o then min 8 (o+1) else 0)
def rowT (f:Nat->Nat->Nat)(c v:Nat):List Arc3->Nat->Nat
|[],x=>x
|a::l,x=>rowT f c v l (if a.up=v then addW (f c a.lo) (decide (c=a.lo)) x else x)
def tab (A:List Arc3):Nat->Nat->Nat->Nat
|0,_,_=>0
|k+1,c,v=>rowT (tab A k) c v A (tab A k c v)
end Go.Jog
namespace Go.Jog
variable {a b:List Nat}{i:Nat}{l:List Nat}{x:Nat}
abbrev BP:Nat:=10000
def bq:List Nat->Nat
|[]=>0
|x::l=>x+BP*bq l
def DigP (l:List Nat):Prop:=∀x∈l,x<BP
def BM (l:List Nat):Prop:=DigP l/\l.getLast?≠some 0
theorem im:∀(a b:List Nat),bq (a++b)=bq a+BP ^ a.length*bq b
|[],b=>by simp[bq]
|x::a,b=>by
  simp only[Ub,bq,im a b,SC,TB];rw[Ts,<- T1,S3 (BP ^ a.length) BP,Ur]
theorem pL (a:List Nat)(x:Nat):bq (a++[x])=bq a+BP ^ a.length*x:=by
 rw[im];simp[bq]
theorem nt:∀{l:List Nat},DigP l->bq l<BP ^ l.length
|[],_=>by simp[bq]
|x::l,h=>by
  have h1:=h x al;have h2:=nt (l:=l) (λy hy=>h y (by simp[hy]));simp only[bq,SC,TB];have h3:BP*(bq l+1)<=BP*BP ^ l.length:=TJ _ h2;rw[S3 (BP ^ l.length) BP];rw[Ts]at h3;omega
theorem gS (h:l[i]?=some x):bq (l.take (i+1))=bq (l.take i)+BP ^ i*x:=by
 have a:=(aT.1 h).1;rw[SH,h];simp only[TE];rw[pL,Sy,Tj om_]
theorem DigP.take {l:List Nat}(h:DigP l)(i:Nat):DigP (l.take i):=λx a=>h x (To a)
theorem DigP.snoc (h:DigP l)(a:x<BP):DigP (l++[x]):=λy hy=>by
 rcases Sx.1 hy with hy|hy
 .exact h y hy
 rw[SD.1 hy];exact a
theorem sP:∀{l:List Nat},(∀x∈l,x=0)->bq l=0
|[],_=>rfl
|x::l,h=>by
  rw[bq,h x al,sP (λy hy=>h y (by simp[hy]))];rfl
def Fw (l:List Nat):Nat->Nat
|0=>0
|k+1=>if l[k]?=some 0 then Fw l k else k+1
def yR (l:List Nat):List Nat:=l.take (Fw l l.length)
theorem rM (l:List Nat):∀k,k<=l.length->(l.take (Fw l k)).getLast?≠some 0/\bq (l.take (Fw l k))=bq (l.take k)
|0,_=>by simp[Fw]
|k+1,b=>by
  rw[Fw];obtain⟨x,a⟩:∃x,l[k]?=some x:=⟨l[k],ah om_⟩;split
  .rename_i h;obtain⟨h1,h2⟩:=rM l k om_;refine⟨h1, ?_⟩;rw[h2,gS h];simp
  rename_i h;refine⟨?_,U⟩;rw[SH,a];simp only[TE,List.getLast?_append,List.getLast?_singleton];intro e;rw[a]at h;simp at e;exact h (by rw[e])
theorem iP (l:List Nat):bq (yR l)=bq l:=by
 have:=(rM l l.length (Sg _)).2;rw[Ss]at this;exact this
theorem mU (h:DigP l):BM (yR l):=⟨h.take _,(rM l l.length (Sg _)).1⟩
theorem we (h:BM l)(b:0<l.length):BP ^ (l.length-1)<=bq l:=by
 obtain⟨x,a⟩:∃x,l[l.length-1]?=some x:=⟨l[l.length-1]'om_,ah om_⟩;have h1:=gS a;rw[show l.length-1+1=l.length by omega,Ss]at h1;have c:x≠0:=λe=>h.2 (by rw[Uz,a,e]);rw[h1];have:BP ^ (l.length-1)*1<=BP ^ (l.length-1)*x:=TJ _ om_;omega
theorem D4 (h:BM l):bq l=0 ↔ l=[]:=by
 constructor
 .intro e;apply SQ;intro a;have:=we h (S7.2 a);rw[e]at this;have hp:0<BP ^ (l.length-1):=UQ dc_;omega
 rintro rfl;rfl
theorem H8 (c:DigP a)(d:BM b)(h:a.length<b.length):bq a<bq b:=by
 have h1:=nt c;have h2:=we d om_;have h3:BP ^ a.length<=BP ^ (b.length-1):=SJ dc_ om_;omega
theorem Np {y:Nat}(e:DigP a)(l:a.length=b.length)(c:a[i]?=some x)(d:b[i]?=some y)(f:x<y)(g:a.drop (i+1)=b.drop (i+1)):bq a<bq b:=by
 have h:bq a=bq (a.take (i+1))+BP ^ (i+1)*bq (a.drop (i+1)):=by
  have j:=(aT.1 c).1
  conv=>lhs;rw[<- Tf (i+1) a]
  rw[im,Sy,Tj om_]
 have k:bq b=bq (b.take (i+1))+BP ^ (i+1)*bq (b.drop (i+1)):=by
  have j:=(aT.1 d).1
  conv=>lhs;rw[<- Tf (i+1) b]
  rw[im,Sy,Tj om_]
 rw[h,k,g,gS c,gS d];have h1:=nt (e.take i);have h2:(a.take i).length<=i:=by rw[Sy];omega
 have h3:BP ^ (a.take i).length<=BP ^ i:=SJ dc_ h2;have h4:BP ^ i*(x+1)<=BP ^ i*y:=TJ _ f;rw[Ts]at h4;omega
def dX (c:UInt8):Bool:=decide (48<=c.toNat/\c.toNat<=57)
def DP (a:Nat)(c:UInt8):Nat:=10*a+(c.toNat-48)
def bS (s:List UInt8):Nat:=s.foldl DP 0
def wE (s:List UInt8):Prop:=(∀c∈s,dX c=true)/\s≠[]/\(s.head?=some 48->s.length=1)
theorem kw:∀(s:List UInt8)(a:Nat),s.foldl DP a=a*10 ^ s.length+bS s
|[],a=>by simp[bS]
|c::s,a=>by
  have h1:=kw s (DP a c);have h2:=kw s (DP 0 c);simp only[bS,Vi]at h1 h2⊢;rw[h1,h2];simp only[DP,SC,TB,TQ];simp only[V0,Nat.zero_mul,Tw];rw[S3 10 a,T1,S3 10,Ur]
theorem dN (c:UInt8)(s:List UInt8):bS (c::s)=(c.toNat-48)*10 ^ s.length+bS s:=by
 show s.foldl DP (DP 0 c)=_;rw[kw];simp[DP]
theorem dz (a b:List UInt8):bS (a++b)=bS a*10 ^ b.length+bS b:=by
 show(a++b).foldl DP 0=_;rw[List.foldl_append,kw];rfl
theorem dF:∀{s:List UInt8},(∀c∈s,dX c=true)->bS s<10 ^ s.length
|[],_=>by simp[bS]
|c::s,h=>by
  have h1:=dF (s:=s) (λd hd=>h d (by simp[hd]));have h2:=h c al;simp only[dX,Sr]at h2;rw[dN,SC,TB];have h3:(c.toNat-48)*10 ^ s.length<=9*10 ^ s.length:=SY _ om_;omega
theorem pq {s:List UInt8}(h:wE s)(a:1<s.length):10 ^ (s.length-1)<=bS s:=by
 obtain⟨h1,h2,h3⟩:=h
 match s,h2 with
|c::s,_ =>
  have h4:=h1 c al;simp only[dX,Sr]at h4;have h5:c≠48:=λe=>by
   have:=h3 (by simp[e]);omega
  have b:c.toNat≠48:=λe=>h5 (Vr.1 (by rw[e];rfl));rw[dN];simp only[SC,Uy];have:1*10 ^ s.length<=(c.toNat-48)*10 ^ s.length:=SY _ om_;omega
theorem Bc:∀{a b:List UInt8},(∀c∈a,dX c=true)->(∀c∈b,dX c=true)->a.length=b.length->bS a=bS b->a=b
|[],[],_,_,_,_=>rfl
|[],_::_,_,_,h,_=>by simp at h
|_::_,[],_,_,h,_=>by simp at h
|c::a,d::b,f,g,k,i=>by
  have j:a.length=b.length:=by simpa using k
  have h1:=dF (s:=a) (λx e=>f x (by simp[e]));have h2:=dF (s:=b) (λx e=>g x (by simp[e]));have l:=f c al;have hd:=g d al;simp only[dX,Sr]at l hd;rw[dN,dN,j]at i;rw[j]at h1;have m:c.toNat-48=d.toNat-48:=by
   have n:(bS a+10 ^ b.length*(c.toNat-48)) / 10 ^ b.length=c.toNat-48:=by
    rw[Vn _ _ (UQ dc_),Uo h1,Tw]
   have o:(bS b+10 ^ b.length*(d.toNat-48)) / 10 ^ b.length=d.toNat-48:=by
    rw[Vn _ _ (UQ dc_),Uo h2,Tw]
   rw[<- n,<- o,S3,Uu,i,S3 (10 ^ b.length),Uu (bS b)]
  rw[m]at i;have p:c=d:=Vr.1 om_;rw[p,Bc (λx e=>f x (by simp[e])) (λx e=>g x (by simp[e])) j om_]
theorem rS {a b:List UInt8}(c:wE a)(d:wE b)(h:bS a=bS b):a=b:=by
 refine Bc c.1 d.1 ?_ h;have e:=S7.2 c.2.1;have f:=S7.2 d.2.1;rcases Nat.lt_trichotomy a.length b.length with h1|h1|h1
 .have h2:=pq d om_;have h3:=dF c.1;have h4:10 ^ a.length<=10 ^ (b.length-1):=SJ dc_ om_;omega
 .exact h1
 have h2:=pq c om_;have h3:=dF d.1;have h4:10 ^ b.length<=10 ^ (a.length-1):=SJ dc_ om_;omega
end Go.Jog
namespace Go.Jog
variable {e lo:Nat}{s:List UInt8}
theorem vy {a b:List UInt8}(h:a≠[]):(a++b).head?=a.head?:=by
 cases a with
|nil=>exact absurd rfl h
|cons=>rfl
def gP (l:List Nat)(i:Nat):Nat:=l.getD i 0
theorem ID {l:List Nat}(h:DigP l)(i:Nat):gP l i<BP:=by
 unfold gP;rw[ak];cases a:l[i]? with
|none=>decide
|some x=>exact h x (aJ a)
theorem MU (j:Nat):10 ^ (4*j)=BP ^ j:=by rw[Nat.pow_mul]
def ii (s:List UInt8)(lo hi:Nat):List UInt8:=(s.take hi).drop lo
theorem Gr {a:List Nat}{j:Nat}(d:e+4*j=s.length)(b:a.length=j)(f:lo<=e)(h:bq a=bS (s.drop e)) :
  bq (a++[bS (ii s lo e)])=bS (s.drop lo):=by
 rw[pL,b,h];have c:s.drop lo=ii s lo e++s.drop e:=by
  unfold ii;have:s.drop lo=(s.take e++s.drop e).drop lo:=by rw[Tf]
  rw[this,List.drop_append_of_le_length (by rw[Sy];omega)]
 rw[c,dz,Uj,show s.length-e=4*j by omega,MU,S3,Uu]
theorem I8 (a:∀c∈s,dX c=true)(h:e<=lo+4):bS (ii s lo e)<BP:=by
 have h1:∀c∈ii s lo e,dX c=true:=λc b=>a c (To (UC b));have h2:=dF h1;have h3:(ii s lo e).length<=4:=by
  unfold ii;rw[Uj,Sy];omega
 have h4:10 ^ (ii s lo e).length<=10 ^ 4:=SJ dc_ h3;have h5:(10:Nat) ^ 4=BP:=rfl;omega
def nl:Nat->Nat->List UInt8
|0,_=>[]
|k+1,n=>nl k (n / 10)++[UInt8.ofNat (48+n % 10)]
theorem vL {d:Nat}(h:d<10):(UInt8.ofNat (48+d)).toNat=48+d:=by rw[UInt8.toNat_ofNat'];omega
theorem lf:∀(k n:Nat),n<10 ^ k->(nl k n).length=k/\(∀c∈nl k n,dX c=true)/\bS (nl k n)=n
|0,n,h=>by
  have:n=0:=by simpa using h
  subst this;exact⟨U,by simp[nl],U⟩
|k+1,n,h=>by
  obtain⟨h1,h2,h3⟩:=lf k (n / 10) (by rw[TB]at h;exact(Ug dc_).2 h);have hd:=vL (S5 n (show 0<10 by decide));refine⟨by simp[nl,h1],λc a=>?_, ?_⟩
  .simp only[nl,Sx,SD]at a;rcases a with a|rfl
   .exact h2 c a
   have:=S5 n (show 0<10 by decide);simp only[dX,hd,Sr];omega
  simp only[nl];rw[dz,h3,dN,hd];simp[bS];omega
def bh (n:Nat):List UInt8:=if n<10 then [UInt8.ofNat (48+n)] else bh (n / 10)++[UInt8.ofNat (48+n % 10)]
 termination_by n
 decreasing_by omega
theorem bA (n:Nat):wE (bh n)/\bS (bh n)=n:=by
 induction n using Nat.strongRecOn with
|ind n e =>
  rw[bh];split
  .rename_i h;have hd:=vL h;refine⟨⟨λc a=>?_,by simp,λ_=>rfl⟩, ?_⟩
   .rw[SD.1 a];simp only[dX,hd,Sr];omega
   rw[dN,hd];simp[bS]
  rename_i h;obtain⟨⟨h1,h2,h3⟩,h4⟩:=e (n / 10) om_;have hd:=vL (S5 n (show 0<10 by decide));refine⟨⟨λc a=>?_,by simp,λb=>?_⟩, ?_⟩
  .rcases Sx.1 a with a|a
   .exact h1 c a
   rw[SD.1 a];have:=S5 n (show 0<10 by decide);simp only[dX,hd,Sr];omega
  .exfalso;rw[vy h2]at b;have h5:=h3 b
   match hs:bh (n / 10),h2 with
  |[c],_ =>
    rw[hs]at b h4;simp at b;subst b;have:n / 10=0:=by rw[<- h4];rfl
    omega
  |c::d::s,_=>rw[hs]at h5;simp at h5
  rw[dz,h4,dN,hd];simp[bS];omega
theorem pr (h:wE s):s=bh (bS s):=rS h (bA _).1 (bA _).2.symm
theorem Iy {p:List Nat}{i x:Nat}(j:DigP p)(f:p[i]?=some x)(h:wE s)(k:bS s=bq (p.drop (i+1)))(l:0<bS s) :
  wE (s++nl 4 x)/\bS (s++nl 4 x)=bq (p.drop i)/\0<bS (s++nl 4 x):=by
 have m:=j x (aJ f);obtain⟨h1,h2,h3⟩:=lf 4 x m;have g:=aT.1 f;have e:bq (p.drop i)=x+BP*bq (p.drop (i+1)):=by rw[SN g.1,g.2];rfl
 have n:bS (s++nl 4 x)=bq (p.drop i):=by
  rw[dz,h1,h3,k,e,Uu,S3]
 refine⟨⟨λc a=>?_, ?_,λb=>?_⟩,n, ?_⟩
 .rcases Sx.1 a with a|a
  .exact h.1 c a
  exact h2 c a
 .intro e;exact h.2.1 (Vy.1 e).1
 .exfalso;rw[vy h.2.1]at b;have h5:=h.2.2 b
  match hs:s,h.2.1 with
 |[c],_ =>
   simp at b;subst b;have:bS ([48]:List UInt8)=0:=rfl;omega
 |c::d::s,_=>simp at h5
 rw[dz];have:0<bS s*10 ^ (nl 4 x).length:=UB l (UQ dc_);omega
end Go.Jog
namespace Go.Jog
def jg:List Int->Int
|[]=>0
|x::l=>x+10000*jg l
theorem oP:∀l:List Nat,jg (l.map λ(x:Nat)=>(x:Int))=(bq l:Nat)
|[]=>rfl
|x::l=>by
  simp only[S1,jg,bq,oP l];show(x:Int)+10000*(bq l:Nat)=((x+10000*bq l:Nat):Int);omega
theorem pM:∀(a b:List Int),jg (a++b)=jg a+(10000:Int) ^ a.length*jg b
|[],b=>by simp[jg]
|x::a,b=>by
  simp only[Ub,jg,pM a b,SC,Int.pow_succ];rw[Vz,<- Int.mul_assoc,Int.mul_comm ((10000:Int) ^ a.length) 10000,Int.add_assoc]
theorem wN (a:List Int)(x:Int):jg (a++[x])=jg a+(10000:Int) ^ a.length*x:=by
 rw[pM];simp[jg]
theorem Gi {l:List Int}{i:Nat}{x:Int}(h:l[i]?=some x):jg (l.take (i+1))=jg (l.take i)+(10000:Int) ^ i*x:=by
 have a:=(aT.1 h).1;rw[SH,h];simp only[TE];rw[wN,Sy,Tj om_]
theorem Bp (o:Int):0<=o % 10000/\o % 10000<10000/\o=o % 10000+10000*((o-o % 10000) / 10000):=by
 refine⟨VM _ dc_,Int.emod_lt_of_pos _ dc_, ?_⟩;omega
theorem KD (o:Int):(if Int.tmod o 10000<0 then Int.tmod o 10000+10000 else Int.tmod o 10000)=o % 10000:=by
 have h1:=VM o (show(10000:Int)≠0 by decide);have h2:=Int.emod_lt_of_pos o (show(0:Int)<10000 by decide);rcases Int.le_total 0 o with h|h
 .rw[Int.tmod_eq_emod_of_nonneg h,aF om_]
 rw[Int.tmod_eq_emod];split <;> rename_i hh <;> omega
end Go.Jog
namespace Go.Jog
theorem IT {t Q x:Nat}(a:0<Q):(x+BP*t) / Q=BP*(t / Q)+(x+BP*(t % Q)) / Q/\(x+BP*t) % Q=(x+BP*(t % Q)) % Q:=by
 have h1:=UU t Q;have e:x+BP*t=Q*(BP*(t / Q))+(x+BP*(t % Q)):=by
  conv=>lhs;rw[<- h1,Ts]
  rw[VY];omega
 rw[e,Nat.mul_add_div a,Nat.mul_add_mod];exact⟨U,U⟩
theorem yO {t Q x:Nat}(a:0<Q)(b:x<BP):(x+BP*(t % Q)) / Q<BP:=by
 rw[Ug a];have h1:=S5 t a;have h2:BP*(t % Q+1)<=BP*Q:=TJ _ h1;rw[Ts]at h2;omega
theorem O8 {r Q a b:Nat}(c:0<Q)(d:a<=r / Q)(e:r / Q<=b)(_f:a<b) :
  (r<Q*((a+b+1) / 2)->a<=r / Q/\r / Q<=(a+b+1) / 2-1)/\(¬ r<Q*((a+b+1) / 2)->(a+b+1) / 2<=r / Q/\r / Q<=b):=by
 constructor
 .intro hr;have:=(Ug c).2 (by rw[S3];exact hr);omega
 intro hr;have:=(Nat.le_div_iff_mul_le c).2 (by rw[S3];exact Nat.le_of_not_lt hr);omega
theorem Q7 (a b:Nat)(_c:0<b):Nat.gcd a b=Nat.gcd b (a % b):=by
 rw[Up a b,VA b a,Up]
end Go.Jog
