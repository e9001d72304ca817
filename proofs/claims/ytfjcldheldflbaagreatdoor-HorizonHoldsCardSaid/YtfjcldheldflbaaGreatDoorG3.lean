/- Laws that the proofs of this seat share, part 3. -/
import Derived.Test.YtfjcldheldflbaaGreatDoorG2
import Derived.TacticsIn
import Derived.OrdersIn
import Derived.RangeFuncCalls
import Derived.RangeFuncSeq
import Derived.Lib.Bytealg
import Derived.Lib.ItoaMem
import Derived.Shelf.Spec.TrailingZeros
import Derived.Shelf.Strconv.Itoa3
import Derived.Shelf.Strconv.ParseUint10At
import Derived.Shelf.Strconv.Atoi
import Derived.Shelf.Small.Strs
import Derived.Lib.UnsafeStr
import Derived.Lib.AppendStr
import Derived.Shelf.Strconv.Itoa1
import Derived.Shelf.Strconv.Itoa2
import Derived.Laws.Externs
import Derived.Lib.Builder
import Derived.WideLaws
import Derived.Laws.IdiomRangeMap
import Derived.WideKeyRuns
namespace Go.Jog
open Go
example {A B C D E:Mem} (h3:D.le E) (h1:A.le B) (h2:B.le C) (h4:C.le D):A.le E:=by(repeat (first|exact Mem.le.refl _|assumption|(apply Mem.le.trans;rotate_left;assumption)))
theorem Mem.get {C D:Mem}{b:Nat}{o:Obj}(h:C b=some o)(a:C.le D):D b=some o:=a _ _ h
theorem Gives.ofCalls {P:Program}{f:FuncId}{args:List Value}{v:Value}(a:Enters P f=true)(h:∀ w,Calls P f args.toArray w fun e w'=>e=.returned v/\w'=w)(C:Mem):Gives P f args C v :=
 ⟨a,fun w b=>(h w).mono fun e w' ⟨h1,h2⟩=>by
  subst h2;exact⟨_,C,[],h1,St.start b,U,U⟩⟩
section
variable {cx:Cx} {n:Nat} {ds:List (Option Nat)} {R:Rg n ds} {its:List It} {fr:Fr} {C:Mem} {L:List Ent} {i k d:Nat} {o:Oper} {g:GL} {v:Value}
theorem WZ {t B e b f j q s K c r m p sl:Nat}{x y:Operand}{z:Value}{l vs:List Value}{E M:TI}(F:k=3)(hd:o.dst=some d)(hg:gOn ds fr o.guard=true)
  (ac:o.op=.call ⟨.builtin .copy,#[x,y],#[t,B]⟩) (ht:cx.T.get t=some E) (N:E.k=.slice e) (he:cx.T.get e=some M) (ad:M.size=c)
  (hx:ev fr [] x=some (.slice (some ⟨b,f,none⟩) s K)) (hy:ev fr [] y=some z) (hm:L[j]?=some (.arr (s_ b m p) e c r l))
  (ae:∀ w,(Builtin.lenOf z).run cx.P w=.ok sl w) (hq:q=min sl s) (A:vs.length=q*c)
  (af:∀ w,Sep C (.arr (s_ b m p) e c r l::L.eraseIdx j) w->(Builtin.firstCells c q z).run cx.P w=.ok vs.toArray w)
  (h1:vs.all lG=true) (ar:f+q*c<=l.length) (hp:∀ v,aX n ds ((d,[],v)::fr) d=true)
  (h:D cx R its ((d,[],i_ q)::fr) C (.arr (s_ b m p) e c r (aE l vs f)::L.eraseIdx j)):D cx R ((i,k,o)::its) fr C L:=by
 have G:cx.P.underlying t=some (.slice e):=by
  obtain⟨kk,s1,b1,z1,g1⟩:=E;simp only at N;subst N;exact bX cx.hT ht
 refine VP (S:=fun O Q V=>O=i_ q/\Q=C/\V=.arr (s_ b m p) e c r (aE l vs f)::L.eraseIdx j) (by subst F;rfl) hd hg hp (fun a hs w _ hw=>?_) (fun O Q V _ ⟨e0,H,e2⟩=>by subst e0;subst H;subst e2;exact h);have I:=St.perm hw (al hm);have W:w.ownsRow 0 e c (s_ b m p) r l:=I.sep.e _ (Rq ..);obtain⟨rfl,X,ag,g,Y,J,Z⟩:=cS W;obtain⟨g⟩:=g;simp only[Tw]at J;simp only at Z;have ah:l.length=m*c:=W.1;have ai:m*c<=g.length:=by rw[J];exact Sa _ X
 have aj:∀ u∈vs,u.oneCell'=true:=fun u G=>gK (RI.1 h1 u G);have aa:=run_storeCells_at cx.P b f e vs 0 ⟨g⟩ w Y (by simp[A];omega) aj;simp only[S7]at aa;have ak:=af w I.sep;have am:=ae w;have ab:=ep cx.hT he w;rw[ad]at ab;have hc:(Builtin.copy_ #[t,B] o.type #[.slice (some ⟨b,f,none⟩) s K,z]).run cx.P w=.ok (i_ q) (w.setRow b (aE g vs f).toArray):=by
  have an:Nat.min sl s=q:=hq.symm;simp only[Builtin.copy_];simp[run_underlying G,am,ab,an,ak,aa,aE,goInt]
 have ao:(execOp a.eval o).run cx.P w=.ok (.value (i_ q)) (w.setRow b (aE g vs f).toArray):=by
  have H:execOp a.eval o=(do let dd <- resolve a.eval ⟨.builtin .copy,#[x,y],#[t,B]⟩ o.type;invoke dd.target dd.args:Sem Next):=by unfold execOp;rw[ac]
  rw[H];simp only[resolve,invoke,builtin,Sem.run_bind,Sem.run_pure,Result.andThen_ok,Ts,R6,Tm,hs _ _ hx,hs _ _ hy,hc]
 have ap:(aE g vs f).length=g.length:=iM (by rw[A];omega);have aq:(w.setRow b (aE g vs f).toArray).ownsRow 0 e c (s_ b m p) m (aE l vs f) :=
  ⟨by rw[iM (by rw[A];omega)];exact ah,.inr ⟨b,p,_,rfl,Rv _,setRow_heap w b _ _ e _ Y,X,ag,by simp[ap,J],by
     rw[<- Z];exact kI g _ f (m*c) (by rw[A];omega) ai⟩⟩
 unfold Oper.wp;rw[ao];exact⟨i_ q,C,.arr (s_ b m p) e c m (aE l vs f)::L.eraseIdx j,U,Mem.le.refl _,fun h2=>by omega,
  St.turn I aq ⟨rfl,rfl,rfl,by simp,fun k _ F=>setRow_other w b k _ (fun e=>F (by simp[Value.ownBlock,e]))⟩ (Ro _) (.inl rfl),rfl,rfl,rfl⟩
theorem WD {t r e g0 off j q dl dc c m f sl sc:Nat}{x y:Operand}{a:List Value}{g l:TI}(s:Z8 k 3 o.dst (some d) (gOn ds fr o.guard) true o.op (.call ⟨.builtin .copy,#[x,y],#[t,r]⟩) (cx.T.get t) (some g) g.k (.slice e) (cx.T.get e) (some l) l.size 1)(z:ev fr [] x=some (.slice (some ⟨g0,off,none⟩) dl dc))(A:ev fr [] y=some (s_ g0 sl sc))(B:Z2 (L[j]?) (some (.arr (s_ g0 m f) e 1 c a)) q (min sl dl))(p:a.all lG=true)(X:off+q<=a.length)(E:∀ v,aX n ds ((d,[],v)::fr) d=true)(h:D cx R its ((d,[],i_ q)::fr) C (.arr (s_ g0 m f) e 1 c (aE a (a.take q) off)::L.eraseIdx j)):D cx R ((i,k,o)::its) fr C L:=by
 have ⟨F,G,H,I,J,K,M,N⟩:=s;have ⟨hm,O⟩:=B;refine WZ (vs:=a.take q) F G H I J K M N z A hm (sl:=sl) (fun w=>by simp[Builtin.lenOf]) O (by rw[RE];omega) (fun w Q=>?_)
  (by rw[RI]at p⊢;exact fun u b=>p u (SD b)) om_ E h
 have S:w.ownsRow 0 e 1 (s_ g0 m f) c a:=Q.e _ (Rq ..);obtain⟨rfl,Y,Z,U,V,aa,W⟩:=cS S;refine run_firstCells_some (P:=cx.P) w 1 q ⟨g0,0,none⟩ sl sc (a.take q) (by rw[RE];omega) (fun jj u b=>?_);rw[<- W,Uk,Sg]at b;split at b
 ·rw[Addr.add_lit,cell_of_row w g0 _ U e (0,0) V];simpa using b
 cases b
theorem WE {t t2 e l s j q H dc a I m J:Nat}{x y:Operand}{p:Value}{f:List (List Value)}{z:List Value}{K B:TI}(aa:Z12 k 3 o.dst (some d) (gOn ds fr o.guard) true o.op (.call ⟨.builtin .copy,#[x,y],#[t,t2]⟩) (cx.T.get t) (some K) K.k (.slice e) (cx.T.get e) (some B) B.size a (Nat.beq B.size 0) false (ev fr [] x) (some (.slice (some ⟨l,s,none⟩) H dc)) (ev fr [] y) (some p) (L[j]?) (some (.arr (s_ l m J) e a I z)))(ab:Sl C a p f)(ac:Z2 q (min f.length H) (f.all (fun r=>r.all lG)) true)(ae:s+q*a<=z.length)(hp:∀ v,aX n ds ((d,[],v)::fr) d=true)(h:D cx R its ((d,[],i_ q)::fr) C (.arr (s_ l m J) e a I (aE z (f.take q).flatten s)::L.eraseIdx j)):D cx R ((i,k,o)::its) fr C L:=by
 have ⟨hk,hd,hg,af,ht,ag,he,M,N,hx,hy,hm⟩:=aa;have ⟨O,h1⟩:=ac;obtain⟨A,c,E,aq,ar,Q,S⟩:=ab;have ah:0<a:=by rw[<- M];exact Tr (fun e=>by rw[e]at N;cases N)
 have U:∀ r∈f.take q,r.length=a:=fun r hr=>Q r (SD hr);have F:=aK U;have G:(f.take q).length=q:=by rw[RE];omega
 refine WZ (vs:=(f.take q).flatten) hk hd hg af ht ag he M hx hy hm (sl:=f.length) (fun w=>by subst E;simp[Builtin.lenOf]) O (by rw[F,G]) (fun w hw=>?_)
  (by
   rw[RI];intro u g;obtain⟨r,hr,aj⟩:=List.mem_flatten.1 g;exact RI.1 (RI.1 h1 r (SD hr)) u aj) ae hp h
 cases f with
|nil =>
  subst E;have al:q=0:=by rw[O];simp
  subst al;cases A <;> simp[Builtin.firstCells,loadCells,loadCellsFrom]
|cons r rs =>
  obtain⟨ad,hA,au,_⟩:=S 0 r ak;subst hA;rw[E];refine run_firstCells_some (P:=cx.P) w a q ad _ c _ (by rw[F,G]) (fun b u g=>?_);have am:b<q*a:=by rw[<- G,<- F];exact(aJ.1 g).1
  have an:b / a<q:=Uc (by rw[R8];exact am);have V:b / a<(r::rs).length:=by omega
  have W:(r::rs)[b / a]?=some (r::rs)[b / a]:=ai V;have ao:b % a<((r::rs)[b / a]).length:=by rw[Q _ (Sj V)];exact R9 _ ah
  have X:=ai ao;have ap:((r::rs).take q)[b / a]?=some (r::rs)[b / a]:=by rw[Sg,aM an];exact W
  have Y:=getElem?_flatten_rows U ap X;have Z:b / a*a+b % a=b:=by rw[R8];exact T4 b a
  rw[Z,g]at Y;obtain⟨av,h3,h4,h5⟩:=S _ _ W;cases h3
  have:=h5 _ _ X;rw[Z]at this;rw[Y];exact this.cell hw
end
end Go.Jog
namespace Go.Jog
open Go
def hAt (l:List Nat)(k:Nat):Nat:=l.getD k 0
end Go.Jog
namespace Go.Jog
open Go
theorem Fn.quiet1 {P:Program}{f:FuncId}{t:List Value}{C:Mem}{x:Ent}{v:Value}(h:Fn P f t C [x] fun u _ z=>u=v/\z=[x]){q:World}{r:Mem}{s:List Ent}{a:Mem × List Ent}{w:World}
  (A:C.le a.1) (D:x∈a.2) (E:cls q r s a w):Calls P f t.toArray w fun e w'=>e=.returned v/\cls q r s a w':=by
 obtain⟨j,F⟩:=SV D;have B:=al F;have m:St q r s a.1 ([x]++a.2.eraseIdx j) w:=St.perm E B;have p:∀ k,qB [x] k->a.1 k=none:=fun k g=>m.sep.n k (by obtain⟨y,hy,G⟩:=g;exact⟨y,Td _ hy,G⟩);have h2:Sep a.1 [x] w:=⟨m.sep.c,fun y hy=>m.sep.e y (Td _ hy),List.pairwise_singleton _ _,p⟩;have H:Sep C [x] w:=⟨fun b o i=>h2.c b o (A _ _ i),h2.e,h2.d,fun k g=>by
  cases I:C k with
 |none=>rfl
 |some o=>have:=A _ _ I;rw[p k g]at this;cases this⟩
 refine(h.2 w H).mono fun e w' ⟨u,N,z,J,l,K,L⟩=>?_;subst K;subst L;have M:St w a.1 [x] a.1 [x] w':=⟨⟨fun b o i=>by
   have:=h2.c b o i;rw[l.ev.block b (cQ this) (fun g=>by rw[p b g]at i;cases i)];exact this,l.sep.e,l.sep.d,p⟩,l.ev,Mem.le.refl _,fun _ _ g=>.inl g,l.ln⟩
 exact⟨J,St.perm (St.call (Lp:=[x]) m M) B.symm⟩
section
variable {cx:Cx} {n:Nat} {ds:List (Option Nat)} {R:Rg n ds} {its:List It} {fr:Fr} {C:Mem} {L:List Ent} {i k d:Nat} {o:Oper} {g:GL} {v:Value}
theorem Wc {t e:Nat}{x y:Operand}{b:IntKind}{p q:Int}(c:Int)(f:Z6 (Nat.ble k 1) true o.dst (some d) o.op (.binOp .quo t x y e) (gOf ds fr o.guard) (some g) (ev fr g x) (some (.int b p)) (ev fr g y) (some (.int b q)))(F:0<q)(j:p.tdiv q=c)(l:b.wrap c=c)(m:Z2 (aX n ds ((d,g,.int b c)::fr) d) true (wfG ds fr g) true)(h:D cx R its ((d,g,.int b c)::fr) C L):D cx R ((i,k,o)::its) fr C L :=
 have ⟨r,s,u,v,z,hy⟩:=f;have ⟨A,B⟩:=m;D.run _ r s v (fun _ a hs w=>by
  rw[dP u (hs _ _ z) (hs _ _ hy) (fun _ _=>.inl ak) (.inl ak) w];have E:q≠0:=by omega
  simp[binOp,Op.intDiv,E,j,l]) A B h
end
section
variable {F:Fx} {k:List KI} {fr:Fr} {C:Mem} {L:List Ent}
theorem W9 {e:Exit}(j m:Nat){t s f b n c:Nat}{d:List Value}(o:L[j]?=some (.arr (s_ b n c) t s f d))(g:m<=f)
  (h:G F k e fr C (.arr (s_ b m c) t s m (d.take (m*s))::L.eraseIdx j)):G F k e fr C L:=fun h0 a w p q=>by
 refine h h0 a w p ?_;have i:=St.perm q (al o);have l:w.ownsRow 0 t s (s_ b n c) f d:=i.sep.e _ (Rq ..);obtain⟨rfl,r,u,v,x,y,z⟩:=cS l;have D:d.length=n*s:=l.1;have A:m*s<=n*s:=Sa _ g;have B:w.ownsRow 0 t s (s_ b m c) m (d.take (m*s)) :=
  ⟨by rw[RE];omega,.inr ⟨b,c,v,rfl,Rv _,x,RD g r,u,y,by rw[<- z,Uk,Sp A]⟩⟩
 exact St.turn i B ⟨U,U,U,Ro _,fun _ _ _=>rfl⟩ (Ro _) (.inl U)
theorem Xe {e:Exit}(j:Nat){v:Value}{t s m:Nat}{xs:List Value}(d:L[j]?=some (.arr v t s (m+1) xs))(h:∀ g c,v=s_ g (m+1) c->G F k e fr C L):G F k e fr C L:=fun h0 a w f b=>by
 have i:=St.perm b (al d);have l:w.ownsRow 0 t s v (m+1) xs:=i.sep.e _ (Rq ..);rcases l.2 with⟨_,h1⟩|⟨g,n,o,h1,_⟩
 ·omega
 exact h g n h1 h0 a w f b
theorem XE {e:Exit}(j:Nat){v:Value}{t s m:Nat}{d:List Value}(i:L[j]?=some (.arr v t s m d))(h:∀ A c,v=.slice A m c->G F k e fr C L):G F k e fr C L:=fun h0 a w f b=>by
 have l:=St.perm b (al i);have n:w.ownsRow 0 t s v m d:=l.sep.e _ (Rq ..);rcases n.2 with⟨h1,h2⟩|⟨g,o,p,h1,_⟩
 ·subst h2;exact h _ _ h1 h0 a w f b
 exact h _ _ h1 h0 a w f b
end
end Go.Jog
namespace Go.Jog
open Go
variable {P:Program}{a:Act}{i l n:Nat}{o:Oper}{ops:Array Oper}{w:World}
def qG (ops:Array Oper):Bool:=ops.toList.all fun o=>match o.op with
|.defer _=>false
|_=>true
theorem Er (h:qG ops=true)(a:ops[i]?=some o):∀ c,o.op≠.defer c:=by
 intro c b;obtain⟨h1,h2⟩:=Tt.1 a;have:=RI.1 h ops[i] (Array.getElem_mem_toList h1);rw[h2,b]at this;cases this
theorem NX {b:Act->World->Prop}{Q:Exit->Act->World->Prop}(e:∀ c,o.op≠.defer c)(h:o.wp P a w b Q):o.wpIn (Fence.wide.inRound l) n P a w b Q:=by
 refine⟨fun _ _=>trivial, ?_⟩;show o.uponIn (Fence.wide.inRound l) n P a b Q ((o.semAt (some l) a.eval).run P w);rw[Oper.semAt_some l a.eval o e];unfold Oper.wp at h;revert h;generalize (execOp a.eval o).run P w=r;intro h;cases r with
|ok x w' =>
  cases x with
 |value v=>exact h
 |skip=>exact h
 |defer d=>exact h
 |enter f args=>exact⟨(fun h=>(by cases h)),CallsIn.inRound l (callsIn_wide.2 h)⟩
 |row row args =>
   refine⟨(fun h=>(by cases h)),fun c cs _=>?_⟩;obtain⟨v,g,h1,h2⟩:=h c cs;exact⟨v,g,h1,stepsIn_wide.2 h2⟩
 |_=>exact h.elim
|halt x w' =>
  cases x <;> exact h
theorem Fw {N:Act->World->Prop}{K e:Act->World->Prop}(f:qG ops=true)(b:∀ a w,K a w->e a w)
  (h:wpOp P ops (QN N) i K a w):wpOpIn (Fence.wide.inRound l) n P ops (QN N) i e a w:=by
 unfold wpOp at h;unfold wpOpIn;cases c:ops[i]? with
|none=>rw[c]at h;exact b _ _ h
|some o =>
  rw[c]at h;simp only at h⊢;split
  ·rename_i d;rw[aM d]at h;rcases h with h|⟨_,g,w',h⟩
   ·exact NX (Er f c) (Oper.wp_mono b h)
   exact h.elim
  rename_i d;rw[aF d]at h;exact⟨fun _ _=>trivial,b _ _ h⟩
theorem Bw {P:Program}{c:Array Oper}{N:Act->World->Prop}{l n:Nat}(d:qG c=true):∀ (b:List Nat)(a:Act)(w:World),wpOps P c (QN N) b a w->wpOpsIn (Fence.wide.inRound l) n P c (QN N) b a w
|[],_,_,h=>h
|i::b,a,w,h=>by
  rw[wpOps_cons]at h;rw[wpOpsIn_cons];exact Fw d (fun a w=>Bw d b a w) h
theorem Bx {P:Program}{b:Array Oper}{N:Act->World->Prop}{l n:Nat}{c:Region.Mode}(d:qG b=true):∀ (f:Nat)(ls:Array Bool)(a:Act)(w:World),wpAny P c b (QN N) f ls a w->wpAnyIn (Fence.wide.inRound l) n P c b (QN N) f ls a w
|0,_,_,_,h=>h
|f+1,_g,_j,_k,h=>⟨h.1,fun i e=>Fw d (fun a w=>Bx d f _ a w) (h.2 i e)⟩
end Go.Jog
namespace Go.Jog
open Go
structure RankTo (A:List Arc3)(n:Nat)(pre e:List Nat):Prop where
 len:e.length=n
 sound:∀ v,v<n->∃ u,Rm A (hAt e v) u v
 up:∀ a∈A,a.lo∈pre->hAt e a.lo+1<=hAt e a.up
end Go.Jog
namespace Go.Jog
open Go
section
variable {cx:Cx} {n:Nat} {ds:List (Option Nat)} {R:Rg n ds} {its:List It} {fr:Fr} {C:Mem} {L:List Ent} {i k d:Nat} {o:Oper} {g:GL} {v:Value}
theorem D.max {x y:Operand}{e:Array TypeId}{p q:Int}{b f:IntKind}(c:Int)(j:Z6 (Nat.ble k 1) true o.dst (some d) o.op (.call ⟨.builtin .max,#[x,y],e⟩) (gOf ds fr o.guard) (some g) (ev fr g x) (some (.int b p)) (ev fr g y) (some (.int f q)))(l:Max.max p q=c)(m:Z2 (aX n ds ((d,g,.int b c)::fr) d) true (wfG ds fr g) true)(h:D cx R its ((d,g,.int b c)::fr) C L):D cx R ((i,k,o)::its) fr C L :=
 have ⟨r,s,t,u,v,hy⟩:=j;have ⟨z,A⟩:=m;D.run _ r s u (fun _ a hs w=>by
  have B:execOp a.eval o=(do let dd <- resolve a.eval ⟨.builtin .max,#[x,y],e⟩ o.type;invoke dd.target dd.args:Sem Next):=by unfold execOp;rw[t]
  rw[B];have hm:(if q > p then q else p)=c:=by rw[<- l];by_cases hh:q > p <;> simp[hh] <;> omega
  simp[resolve,invoke,builtin,hs _ _ v,hs _ _ hy,Builtin.max_,Builtin.max2,hm]) z A h
theorem D.min {x y:Operand}{e:Array TypeId}{p q:Int}{b f:IntKind}(c:Int)(j:Z6 (Nat.ble k 1) true o.dst (some d) o.op (.call ⟨.builtin .min,#[x,y],e⟩) (gOf ds fr o.guard) (some g) (ev fr g x) (some (.int b p)) (ev fr g y) (some (.int f q)))(l:Min.min p q=c)(m:Z2 (aX n ds ((d,g,.int b c)::fr) d) true (wfG ds fr g) true)(h:D cx R its ((d,g,.int b c)::fr) C L):D cx R ((i,k,o)::its) fr C L :=
 have ⟨r,s,t,u,v,hy⟩:=j;have ⟨z,A⟩:=m;D.run _ r s u (fun _ a hs w=>by
  have B:execOp a.eval o=(do let dd <- resolve a.eval ⟨.builtin .min,#[x,y],e⟩ o.type;invoke dd.target dd.args:Sem Next):=by unfold execOp;rw[t]
  rw[B];have hm:(if q<p then q else p)=c:=by rw[<- l];by_cases hh:q<p <;> simp[hh] <;> omega
  simp[resolve,invoke,builtin,hs _ _ v,hs _ _ hy,Builtin.min_,Builtin.min2,hm]) z A h
end
end Go.Jog
namespace Go.Jog
open Go
def Cw.round (P:Program)(l n:Nat):Cw P where
 wp:=fun c Q a w=>c.wpIn (Fence.wide.inRound l) n P Q a w
 nd:=fun ops=>qG ops=true
 mono:=fun h q=>wpIn_mono q h
 skip:=wpIn_skip
 ret:=wpIn_ret
 exit:=wpIn_exit
 seq:=wpIn_seq
 block:=wpIn_block
 cond:=wpIn_cond_split
 loop:=wpIn_loop
 region:=fun hd h=>wpIn_mono (wpIn_region (Bw hd _ _ _ h)) (fun e a w q=>by cases e <;> first|exact q|exact q.elim)
 any:=fun hm hd h=>wpIn_mono (wpIn_region_any hm (Bx hd _ _ _ _ h)) (fun e a w q=>by cases e <;> first|exact q|exact q.elim)
theorem E6 (F:Fx)(b:List Deferred):∀ k,Kq { F with dd:=b } k=Kq F k
|[]=>rfl
|.code c::k=>by
  funext e a w;cases e <;> simp only[Kq,E6 F b k]
|.blk d::k=>by
  funext e a w;cases e <;> simp only[Kq,E6 F b k]
|.inv I::k=>by
  funext e a w;cases e <;> simp only[Kq,E6 F b k]
def QK (P:Program)(gf:FuncId)(lb:Array Value)(C:Mem)(vss:List (Value × Value)):Prop :=
 ∀ (l:Nat)(J:Nat->World->Prop)(W:World),
  (∀ k W,J k W->∀ b o,C b=some o->W.heap[b]?=some o)->(∀ k W,J k W->J k W.drew) ->
  (∀ k v W1,J k W1->vss[k]?=some v->YieldAt Fence.wide 1 P l #[v.1,v.2] W1 fun e W'=>e=.returned (.bool true)/\J (k+1) W') ->
  J 0 W->CallsIn Fence.wide 2 P gf (#[.func (.yield l) #[] #[]]++lb) W fun e W'=>(∃ v,e=.returned v)/\J vss.length W'
section
variable {F:Fx} {k:List KI} {fr:Fr} {C:Mem} {L:List Ent}
theorem St.putObj {a:World}{c:Mem}{d:List Ent}{C:Mem}{L:List Ent}{w:World}{b:Nat}{o o':Obj}(h:St a c d C (.obj b o::L) w):St a c d C (.obj b o'::L) (w.putObj b o'):=by
 have f:w.heap[b]?=some o:=h.sep.e _ (Rq ..);exact St.put h (World.putObj_heap_same (Tt.1 f).1) (fun k g=>World.putObj_heap_other g) (World.putObj_size) U U U (Ro _)
theorem WB {d:Cx}{g:Func}{n l:Nat}{b:Bs}{i:Value->Mem->List Ent->Prop}{f:Exit->Act->World->Prop}{c:Code}(h:G ⟨d,g,n,b,i,Cw.round d.P l 1,[],f⟩ (kM 64 [.code c]) .normal fr C L)
  (j:b.C0.le C) {a:Act} {w:World} (k:FrOk n [] [] fr a) (m:b.cls (C,L) w):c.wpIn (Fence.wide.inRound l) 1 d.P f a w:=by
 have:=VS 64 h j a w k m;simp only[Kq]at this;exact wpIn_mono this (fun e a w q=>by cases e <;> exact q)
theorem G.rangeFunc {g:Operand}{p0 p1:Nat}{assign body:Code}{gf:FuncId}{lb:Array Value}{vss:List (Value × Value)}(hW:F.W=Cw.plain F.cx.P)(hd0:F.dd=[])
  (hg:ev fr [] g=some (.func (.func gf) #[] lb)) (hen:Enters F.cx.P gf=true) (hseq:QK F.cx.P gf lb C vss) (I:Nat->List Ent->Prop) (h0:I 0 L) (_hp:fr.all (fun x=>x.2.1.isEmpty)=true)
  (hok:∀ u v,(aX F.n [] ((p0,[],u)::fr) p0 && aX F.n [] ((p1,[],v)::(p0,[],u)::fr) p1)=true) (frb:Value->Value->Fr)
  (hassign:∀ l u v W1 L',G ⟨F.cx,F.fn,F.n,⟨W1,C,L'⟩,F.post,Cw.round F.cx.P l 1,[],fun e a w'=>e=.normal/\FrOk F.n [] [] (frb u v) a/\St W1 C L' C L' w'⟩ (kM 64 [.code assign]) .normal ((p1,[],v)::(p0,[],u)::fr) C L')
  (hbody:∀ l j u v L' W1,I j L'->vss[j]?=some (u,v) ->
   G ⟨F.cx,F.fn,F.n,⟨W1,C,L'⟩,F.post,Cw.round F.cx.P l 1,[],fun e _ w'=>e=.normal/\∃ L1,I (j+1) L1/\St W1 C L' C L1 w'⟩ (kM 64 [.code body]) .normal (frb u v) C L')
  (hdone:∀ D L',I vss.length L'->G { F with dd:=[{ target:=.collected D,args:=#[] }] } (kM 64 k) .normal fr C (.obj D (.deferred (some []))::L')) :
  G F (.code (.rangeFunc g #[p0,p1] assign body)::k) .normal fr C L:=fun hle a w ha hw=>by
 simp only[Kq,hW];show(Code.rangeFunc g #[p0,p1] assign body).wp F.cx.P (Kq F k) a w;refine(wpIn_wide (n:=3)).1 (wpIn_rangeFunc fun fn _=>?_);have hga:a.eval g=.func (.func gf) #[] lb:=bN ha (fun p hp=>by cases hp) hg;have hdef:a.defers=[]:=ha.defers.trans hd0;obtain⟨rec,hrec⟩:∃ rec:LoopState->Loop,rec=fun st=>{ state:=st,pending:=none,fn,tmps:=a.tmps,params:=#[p0,p1],assign,body,defers:=w.heap.size }:=⟨_,rfl⟩;obtain⟨W1,hW1⟩:∃ W1,(w.alloc (.deferred (some []))).alloc (.loop (rec .ready))=W1:=⟨_,rfl⟩;have hS1:St F.b.w0 F.b.C0 F.b.L0 C (.obj (w.heap.size+1) (.loop (rec .ready))::.obj w.heap.size (.deferred (some []))::L) W1:=by
  have:=St.alloc (St.alloc hw (.deferred (some []))) (.loop (rec .ready));rw[World.size_alloc]at this;rw[<- hW1];exact this
 refine⟨w.heap.size+1,[{ target:=.collected w.heap.size,args:=#[] }],W1,{ target:=.fn (.func gf) lb,args:=#[.func (.yield (w.heap.size+1)) #[] #[]] },W1,gf,
  #[.func (.yield (w.heap.size+1)) #[] #[]]++lb,W1, ?_, ?_,fun _ _=>trivial, ?_,fun _=>by decide, ?_⟩
 ·rw[<- hW1,hrec];exact run_enterLoop_outer _ _ _ _ _
 ·simp only[resolve,hga];simp[go_sem]
 ·simp[invoke,go_sem,gl hen]
 refine(hseq (w.heap.size+1) (fun j W=>∃ L',I j L'/\St F.b.w0 F.b.C0 F.b.L0 C (.obj (w.heap.size+1) (.loop (rec .ready))::.obj w.heap.size (.deferred (some []))::L') W) W1
  (fun j W ⟨L',_,hs⟩=>hs.sep.c) (fun j W ⟨L',hi,hs⟩=>⟨L',hi,hs.drew⟩) ?_ ⟨L,h0,hS1⟩).mono ?_
 ·rintro j ⟨u,v⟩ W ⟨L',hi,hs⟩ hj;have hl:W.heap[w.heap.size+1]?=some (.loop (rec .ready)):=hs.sep.e _ (Rq ..);have hy:=run_yield (P:=F.cx.P) (args:=#[u,v]) hl (by rw[hrec];rfl);rw[hrec]at hy;have hz:(#[p0,p1].zip #[u,v]).foldl (fun tmps (x:Nat × Value)=>match x with|(t,a)=>tmps.setIfInBounds t a) a.tmps=(a.tmps.setIfInBounds p0 u).setIfInBounds p1 v:=by simp
  dsimp only at hy;rw[hz]at hy;refine⟨fn,_,assign,body,hy,roundIn_of_wpIn trivial ?_⟩;have hfr:FrOk F.n [] [] ((p1,[],v)::(p0,[],u)::fr) { tmps:=(a.tmps.setIfInBounds p0 u).setIfInBounds p1 v,defers:=[] }:=by
   have hk:=hok u v;rw[RG]at hk;have h1:=FrOk.put (u:=u) (FrOk.mk (dd:=[]) ha.size hdef ha.ent:FrOk F.n [] [] fr a) hk.1 ⟨fun _=>rfl,fun hn=>absurd (fun p hp=>by cases hp) hn⟩;have h2:=FrOk.put (u:=v) h1 hk.2 ⟨fun _=>rfl,fun hn=>absurd (fun p hp=>by cases hp) hn⟩;exact⟨h2.size,U,h2.ent⟩
  have hA:=WB (hassign (w.heap.size+1) u v W _) l_ hfr (St.start hs.sep);refine wpIn_mono hA (fun e a1 W2 q=>?_);obtain⟨rfl,hfr1,hs1⟩:=q;have hs2:=St.call (Lr:=[]) (by rw[RQ];exact hs) hs1;rw[RQ]at hs2;have hl2:W2.heap[w.heap.size+1]?=some (.loop (rec .ready)):=hs2.sep.e _ (Rq ..);refine⟨_,run_beginRound hl2 (by rw[hrec]), ?_⟩;have hs3:St F.b.w0 F.b.C0 F.b.L0 C (.obj (w.heap.size+1) (.loop (rec .busy))::.obj w.heap.size (.deferred (some []))::L') (W2.putObj (w.heap.size+1) (.loop { rec .ready with state:=.busy })):=by
   have:=St.putObj (o':=.loop { rec .ready with state:=.busy }) hs2;rw[hrec]at this⊢;exact this
  have hB:=WB (hbody (w.heap.size+1) j u v L' (W2.putObj (w.heap.size+1) (.loop { rec .ready with state:=.busy })) hi hj) l_ hfr1 (St.start hs3.drop.drop.sep);refine wpIn_mono hB (fun e a2 W4 q=>?_);obtain⟨rfl,L1,hi1,hs4⟩:=q;have hs5:=St.call (Lp:=L') (Lr:=[.obj (w.heap.size+1) (.loop (rec .busy)),.obj w.heap.size (.deferred (some []))]) (St.perm hs3 (Su (l₁:=[_,_]))) hs4;have hs6:St F.b.w0 F.b.C0 F.b.L0 C (.obj (w.heap.size+1) (.loop (rec .busy))::.obj w.heap.size (.deferred (some []))::L1) W4:=St.perm hs5 (Su (l₂:=[_,_]));have hl4:W4.heap[w.heap.size+1]?=some (.loop (rec .busy)):=hs6.sep.e _ (Rq ..);refine⟨_,_,run_endRound none hl4,U,L1,hi1, ?_⟩;have:=St.putObj (o':=.loop { rec .busy with state:=if (none:Option Code).isNone then .ready else .done,pending:=none }) hs6;rw[hrec]at this⊢;exact this
 rintro e W2 ⟨⟨v,rfl⟩,L',hi,hs⟩;have hl:W2.heap[w.heap.size+1]?=some (.loop (rec .ready)):=hs.sep.e _ (Rq ..);refine⟨none,_,by have:=run_endLoop (P:=F.cx.P) hl (by rw[hrec];simp);rw[hrec]at this;exact this, ?_⟩;have hs2:St F.b.w0 F.b.C0 F.b.L0 C (.obj w.heap.size (.deferred (some []))::L') (W2.putObj (w.heap.size+1) (.loop { rec .ready with state:=.exhausted })):=(St.putObj hs).drop;have:=VS 64 (hdone w.heap.size L' hi) hle { a with defers:=[{ target:=.collected w.heap.size,args:=#[] }]++a.defers } _ ⟨ha.size,by rw[hdef];rfl,ha.ent⟩ hs2;rw[E6]at this;rw[hrec]at this;exact this
theorem WK {c:Cx}{g:Func}{n:Nat}{d:World}{C i:Mem}{f a b:List Ent}{j:Value->Mem->List Ent->Prop}{W:Cw c.P}{R:List Ent->Prop}(k:a.Perm b)(h:R b) :
  G ⟨c,g,n,⟨d,C,f⟩,j,W,[],fun e _ w'=>e=.normal/\∃ a,R a/\St d C f C a w'⟩ [] .normal fr i a:=fun l _ _ _ m =>
 ⟨rfl,b,h,St.less (St.perm m k) l_ l⟩
theorem Xd {c:Cx}{g:Func}{n:Nat}{d:World}{C h:Mem}{b:List Ent}{i:Value->Mem->List Ent->Prop}{W:Cw c.P}{f:Fr}(j:Has fr f) :
  G ⟨c,g,n,⟨d,C,b⟩,i,W,[],fun e a w'=>e=.normal/\FrOk n [] [] f a/\St d C b C b w'⟩ [] .normal fr h b:=fun k _ _ l m =>
 ⟨rfl,l.weaken j.sub,St.less m l_ k⟩
theorem Wv {b:Cx}{f:FuncId}{d:Func}{c:Code}{i:List Value}{C:Mem}{L:List Ent}{j:Value->Mem->List Ent->Prop}(m:Enters b.P f=true)(o:b.P.funcs[f]?=some d)(r:d.body=some c)
  (n:Nat) (t:d.ntmps=n) (k:Nat.ble i.length n=true)
  (h:∀ w0,G ⟨b,d,n,⟨w0,C,L⟩,j,Cw.plain b.P,[],bodyPostM Fence.wide 3 b.P d (yu ⟨w0,C,L⟩ j)⟩ (kM 64 [.code c]) .normal (Bc i 0) C L):Fn b.P f i C L j:=by
 subst t;refine⟨m,fun w u=>callsIn_wide.1 (callsIn_of_wp_marks (n:=3) o r trivial ?_)⟩;rw[Tj]at k;have:=VS 64 (h w) l_ { tmps:=i.toArray++Array.replicate (d.ntmps-i.toArray.size) undef,defers:=[] } w
  ⟨by simp;omega,rfl,fun s g v x=>by
   obtain⟨rfl,_,l⟩:=rK x;refine⟨fun _=>?_,fun k=>absurd (fun p y=>by cases y) k⟩;simp only[Uj]at l;have z:=(aJ.1 l).1;simp only[Array.getElem?_append,Tw,z,Tu,SS];exact l⟩ (St.start u)
 simp only[Kq]at this;refine wpIn_wide.2 (Code.wp_mono (fun e a w q=>?_) this);cases e <;> exact q
theorem K5 {d:Cx}{f:Func}{n:Nat}{b:Bs}{g:Value->Mem->List Ent->Prop}:(⟨d,f,n,b,g,Cw.plain d.P,[],bodyPostM Fence.wide 3 d.P f (yu b g)⟩:Fx).ends:=by
 refine⟨fun e a w h=>?_,U⟩;cases e with
|normal=>obtain⟨h1,h2⟩:=h;show LeavesInM _ _ _ _ _ _ a.defers _ _;rw[h1];exact h2
|ret=>obtain⟨h1,h2⟩:=h;show LeavesInM _ _ _ _ _ _ a.defers _ _;rw[h1];exact h2
|panic c=>obtain⟨h1,h2⟩:=h;show LeavesInM _ _ _ _ _ _ a.defers _ _;rw[h1];exact h2
|outgrown=>exact h
|exit i=>exact h
|goto l=>exact h
theorem Xb {c:Cx}{d:Func}{n D:Nat}{b:Bs}{f:Value->Mem->List Ent->Prop}{v:Value}
  (j:∀ a w,FrOk n [] [{ target:=.collected D,args:=#[] }] fr a->St b.w0 b.C0 b.L0 C L w->(results d a.tmps).run c.P w=.ok v w) (h:f v C []) :
  G ⟨c,d,n,b,f,Cw.plain c.P,[{ target:=.collected D,args:=#[] }],bodyPostM Fence.wide 3 c.P d (yu b f)⟩ [] .ret fr C (.obj D (.deferred (some []))::L):=fun l a w g i=>by
 show LeavesInM _ _ _ _ _ _ a.defers _ _;rw[g.defers];have k:w.heap[D]?=some (.deferred (some [])):=i.sep.e _ (Rq ..);have hs:=(St.putObj (o':=.deferred none) i).drop;exact⟨by simp,.inl ⟨D,_,U,run_takeDeferred k,v,j a _ g hs,v,C,[],U,St.dropAll hs,h⟩⟩
theorem Wz {v:Value}(f:∀ a w,FrOk F.n [] F.dd fr a->St F.b.w0 F.b.C0 F.b.L0 C L w->(results F.fn a.tmps).run F.cx.P w=.ok v w)(h:F.post v C [])(c:F.ends):G F [] .ret fr C L:=fun _ a w d e =>
 c.kq (bodyPost_ret (v:=v) (f a w d e) (d.defers.trans c.2) ⟨v,C,[],rfl,St.dropAll e,h⟩)
end
end Go.Jog
namespace Go.Jog
open Go
structure RankS (A:List Arc3)(n:Nat)(S:Arc3->Prop)(e:List Nat):Prop where
 len:e.length=n
 sound:∀ v,v<n->∃ u,Rm A (hAt e v) u v
 up:∀ a∈A,S a->hAt e a.lo+1<=hAt e a.up
end Go.Jog
namespace Go.Jog
open Go
variable {c:UInt8}{s:List UInt8}
def iS (c:UInt8):List UInt8->List UInt8 × Option (List UInt8)
|[]=>([],none)
|b::s=>if b=c then ([],some s) else (b::(iS c s).1,(iS c s).2)
theorem gT (c:UInt8):∀ s:List UInt8,(iS c s=(s,none)/\Lib.indexByte s c=-1/\c ∉ s)∨∃ a post,iS c s=(a,some post)/\s=a++c::post/\c ∉ a/\Lib.indexByte s c=a.length
|[]=>.inl ⟨rfl,rfl,by simp⟩
|b::s=>by
  by_cases d:b=c
  ·subst d;exact .inr ⟨[],s,by simp[iS],U,by simp,by simp[Lib.indexByte]⟩
  rcases gT c s with⟨h1,h2,h3⟩|⟨a,post,h1,h2,h3,h4⟩
  ·refine .inl ⟨by simp[iS,d,h1],by simp[Lib.indexByte,d,h2],by simp[Ne.symm d,h3]⟩
  refine .inr ⟨b::a,post,by simp[iS,d,h1],by simp[h2],by simp[Ne.symm d,h3], ?_⟩;have h5:¬ (a.length:Int)=-1:=by omega
  simp[Lib.indexByte,d,h4,h5]
theorem vD (h:0<=Lib.indexByte s c):∃ a post,iS c s=(a,some post)/\s=a++c::post/\Lib.indexByte s c=a.length:=by
 rcases gT c s with⟨_,h2,_⟩|⟨a,post,h1,h2,_,h4⟩
 ·omega
 exact⟨a,post,h1,h2,h4⟩
theorem ry (h:¬ 0<=Lib.indexByte s c):iS c s=(s,none):=by
 rcases gT c s with⟨h1,_⟩|⟨a,post,h1,h2,_,h4⟩
 ·exact h1
 omega
def okD (s:List UInt8):Bool:=!(s == []) && decide (s.length<=200) && !(s.head? == some 48 && decide (1<s.length)) && s.all dT
theorem uM :okD s=true ↔ wh s/\s.length<=200:=by
 unfold okD wh;simp only[RG,Ub,Ti,ne_eq,Ry,RI,Bool.and_eq_false_imp,S8,RZ];constructor
 ·rintro ⟨⟨⟨h1,h2⟩,h3⟩,h4⟩;refine⟨⟨h4,h1,fun h=>?_⟩,h2⟩;have:=h3 h;have:0<s.length:=Sc.2 h1;omega
 rintro ⟨⟨h4,h1,h3⟩,h2⟩;exact⟨⟨⟨h1,h2⟩,fun h=>by have:=h3 h;omega⟩,h4⟩
theorem Il {i:Nat}(h:s[i]?=some c):bP (s.take (i+1))=bP (s.take i)*10+(c.toNat-48):=by
 rw[RR,h,SR,dw];congr 1;unfold bP Di;simp
def ck (c:UInt8)(s:List UInt8):List UInt8 × Bool:=if s.head?=some c then (s.tail,true) else (s,false)
end Go.Jog
namespace Go.Jog
open Go
variable {V:Int}{i:Nat}{o:Int}{out:List Nat}
section
variable {cx:Cx} {n:Nat} {ds:List (Option Nat)} {R:Rg n ds} {its:List It} {fr:Fr} {C:Mem} {L:List Ent} {i k d:Nat} {o:Oper} {g:GL}
theorem Xy {t e:Nat}{x y:Operand}{b:IntKind}{p q:Int}(c:Int)(f:Nat.ble k 1=true)(j:o.dst=some d)(l:o.op=.binOp .rem t x y e)(m:gOf ds fr o.guard=some g)(r:ev fr g x=some (.int b p))(s:ev fr g y=some (.int b q))
  (B:0<q) (u:p.tmod q=c) (v:aX n ds ((d,g,.int b c)::fr) d=true) (z:wfG ds fr g=true)
  (h:D cx R its ((d,g,.int b c)::fr) C L):D cx R ((i,k,o)::its) fr C L :=
 D.run _ f j m (fun _ a hs w=>by
  rw[dP l (hs _ _ r) (hs _ _ s) (fun _ _=>.inl ak) (.inl ak) w];have A:q≠0:=by omega
  simp[binOp,Op.intDiv,A,u]) v z h
end
theorem dR (n:Nat):Lib.decDigits n=bk n:=by
 induction n using Nat.strongRecOn with
|ind n a =>
  rw[Lib.decDigits,bk];split
  ·rfl
  rw[a (n / 10) om_]
def txt (z:Int):List UInt8:=if z<0 then 45::bk z.natAbs else bk z.natAbs
theorem KM (z:Int):Lib.itoa z=txt z:=by
 unfold Lib.itoa txt;split
 ·rw[dR]
 rename_i h;rw[dR];congr 1;omega
theorem KN (n:Nat):Lib.itoa (n:Int)=bk n:=by rw[Lib.itoa_nonneg,dR]
theorem tenK {x:Nat}(h:x<10000):bk (10000+x)=49::nh 4 x:=by
 obtain⟨h1,h2,h3⟩:=kZ 4 x h;have a:wh (49::nh 4 x):=⟨fun c a=>by
  rcases RC.1 a with rfl|a
  ·decide
  exact h2 c a,by simp,fun b=>by simp at b⟩
 have d:bP (49::nh 4 x)=10000+x:=by
  rw[dL,h1,h3];rfl
 rw[pf a,d]
theorem ID (a:out.length=i)(h:V=(bx out:Nat)+(10000:Int) ^ i*o) :
  V=(bx (out++[(o % 10000).toNat]):Nat)+(10000:Int) ^ (i+1)*((o-o % 10000) / 10000):=by
 obtain⟨h1,h2,h3⟩:=AU o;rw[pu,a,h];have e:((o % 10000).toNat:Int)=o % 10000:=Int.toNat_of_nonneg h1;rw[T6,RW,e,Int.natCast_pow,Int.pow_succ];have b:((BP:Nat):Int)=10000:=rfl;rw[b]
 conv=>lhs;rw[h3]
 rw[UB,Int.mul_assoc];omega
theorem Kl (a:out.length=i)(b:DigP out)(c:0<=V)(h:V=(bx out:Nat)+(10000:Int) ^ i*o):0<=o:=by
 have h1:=nk b;rw[a]at h1;have h2:((bx out:Nat):Int)<(10000:Int) ^ i:=by
  have:((bx out:Nat):Int)<((BP ^ i:Nat):Int):=by omega
  rwa [Int.natCast_pow]at this
 apply RT;intro d;have h3:o<=-1:=by omega
 have h4:(10000:Int) ^ i*o<=(10000:Int) ^ i*(-1):=Int.mul_le_mul_of_nonneg_left h3 (Int.pow_nonneg dc_);omega
end Go.Jog
namespace Go.Jog
variable {a b:List Nat}{c e i:Nat}{l:List Nat}{lo o:Nat}{out:List Nat}{s:List UInt8}{x y:Nat}
abbrev B9:Nat:=1000000000
def bC:List Nat->Nat
|[]=>0
|x::l=>x+B9*bC l
def Dig9 (l:List Nat):Prop:=∀ x∈l,x<B9
def zg (l:List Nat):Prop:=Dig9 l/\l.getLast?≠some 0
theorem fJ:∀ (a b:List Nat),bC (a++b)=bC a+B9 ^ a.length*bC b
|[],b=>by simp[bC]
|x::a,b=>by
  simp only[Tg,bC,fJ a b,RH,SF];rw[Sw,<- S6,R8 (B9 ^ a.length) B9,TF]
theorem iW (a:List Nat)(x:Nat):bC (a++[x])=bC a+B9 ^ a.length*x:=by
 rw[fJ];simp[bC]
theorem iX:∀ {l:List Nat},Dig9 l->bC l<B9 ^ l.length
|[],_=>by simp[bC]
|x::l,h=>by
  have h1:=h x ak;have h2:=iX (l:=l) (fun y hy=>h y (by simp[hy]));simp only[bC,RH,SF];have h3:B9*(bC l+1)<=B9*B9 ^ l.length:=SN _ h2;rw[R8 (B9 ^ l.length) B9];rw[Sw]at h3;omega
theorem iV (h:l[i]?=some x):bC (l.take (i+1))=bC (l.take i)+B9 ^ i*x:=by
 have a:=(aJ.1 h).1;rw[RR,h];simp only[SR];rw[iW,RE,Sp om_]
theorem Dig9.take {l:List Nat}(h:Dig9 l)(i:Nat):Dig9 (l.take i):=fun x a=>h x (SD a)
theorem Dig9.snoc (h:Dig9 l)(a:x<B9):Dig9 (l++[x]):=fun y hy=>by
 rcases RF.1 hy with hy|hy
 ·exact h y hy
 rw[RK.1 hy];exact a
theorem sr:∀ {l:List Nat},(∀ x∈l,x=0)->bC l=0
|[],_=>rfl
|x::l,h=>by
  rw[bC,h x ak,sr (fun y hy=>h y (by simp[hy]))];rfl
def nT (l:List Nat):Nat->Nat
|0=>0
|k+1=>if l[k]?=some 0 then nT l k else k+1
def Fm (l:List Nat):List Nat:=l.take (nT l l.length)
theorem nS (l:List Nat):∀ k,k<=l.length->(l.take (nT l k)).getLast?≠some 0/\bC (l.take (nT l k))=bC (l.take k)
|0,_=>by simp[nT]
|k+1,b=>by
  rw[nT];obtain⟨x,a⟩:∃ x,l[k]?=some x:=⟨l[k],ai om_⟩;split
  ·rename_i h;obtain⟨h1,h2⟩:=nS l k om_;refine⟨h1, ?_⟩;rw[h2,iV h];simp
  rename_i h;refine⟨?_,U⟩;rw[RR,a];simp only[SR,List.getLast?_append,List.getLast?_singleton];intro e;rw[a]at h;simp at e;exact h (by rw[e])
theorem iG (l:List Nat):bC (Fm l)=bC l:=by
 have:=(nS l l.length (Ro _)).2;rw[Rz]at this;exact this
theorem iH (h:Dig9 l):zg (Fm l):=⟨h.take _,(nS l l.length (Ro _)).1⟩
theorem vO (h:zg l)(b:0<l.length):B9 ^ (l.length-1)<=bC l:=by
 obtain⟨x,a⟩:∃ x,l[l.length-1]?=some x:=⟨l[l.length-1]'om_,ai om_⟩;have h1:=iV a;rw[show l.length-1+1=l.length by omega,Rz]at h1;have c:x≠0:=fun e=>h.2 (by rw[TJ,a,e]);rw[h1];have:B9 ^ (l.length-1)*1<=B9 ^ (l.length-1)*x:=SN _ om_;omega
theorem Dt (h:zg l):bC l=0 ↔ l=[]:=by
 constructor
 ·intro e;apply RT;intro a;have:=vO h (Sc.2 a);rw[e]at this;have b:0<B9 ^ (l.length-1):=T1 dc_;omega
 rintro rfl;rfl
theorem uW (c:Dig9 a)(d:zg b)(h:a.length<b.length):bC a<bC b:=by
 have h1:=iX c;have h2:=vO d om_;have h3:B9 ^ a.length<=B9 ^ (b.length-1):=RM dc_ om_;omega
theorem MO (e:Dig9 a)(l:a.length=b.length)(c:a[i]?=some x)(d:b[i]?=some y)(f:x<y)(g:a.drop (i+1)=b.drop (i+1)):bC a<bC b:=by
 have h:bC a=bC (a.take (i+1))+B9 ^ (i+1)*bC (a.drop (i+1)):=by
  have j:=(aJ.1 c).1
  conv=>lhs;rw[<- Sm (i+1) a]
  rw[fJ,RE,Sp om_]
 have k:bC b=bC (b.take (i+1))+B9 ^ (i+1)*bC (b.drop (i+1)):=by
  have j:=(aJ.1 d).1
  conv=>lhs;rw[<- Sm (i+1) b]
  rw[fJ,RE,Sp om_]
 rw[h,k,g,iV c,iV d];have h1:=iX (e.take i);have h2:(a.take i).length<=i:=by rw[RE];omega
 have h3:B9 ^ (a.take i).length<=B9 ^ i:=RM dc_ h2;have h4:B9 ^ i*(x+1)<=B9 ^ i*y:=SN _ f;rw[Sw]at h4;omega
def g9 (l:List Nat)(i:Nat):Nat:=l.getD i 0
theorem lj (h:Dig9 l)(i:Nat):g9 l i<B9:=by
 unfold g9;rw[am];cases a:l[i]? with
|none=>decide
|some x=>exact h x (aU a)
theorem Ak (h:l[i]?=some x):g9 l i=x:=by unfold g9;rw[am,h];rfl
theorem Ml (j:Nat):10 ^ (9*j)=B9 ^ j:=by rw[Nat.pow_mul]
theorem DQ {j:Nat}(c:e+9*j=s.length)(a:out.length=j)(d:lo<=e)(h:bC out=bP (s.drop e)) :
  bC (out++[bP (gS s lo e)])=bP (s.drop lo):=by
 rw[iW,a,h];have b:s.drop lo=gS s lo e++s.drop e:=by
  unfold gS;have:s.drop lo=(s.take e++s.drop e).drop lo:=by rw[Sm]
  rw[this,List.drop_append_of_le_length (by rw[RE];omega)]
 rw[b,dw,Th,show s.length-e=9*j by omega,Ml,R8,TB]
theorem Lf (a:∀ c∈s,dT c=true)(h:e<=lo+9):bP (gS s lo e)<B9:=by
 have h1:∀ c∈gS s lo e,dT c=true:=fun c b=>a c (SD (TN b));have h2:=dt h1;have h3:(gS s lo e).length<=9:=by
  unfold gS;rw[Th,RE];omega
 have h4:10 ^ (gS s lo e).length<=10 ^ 9:=RM dc_ h3;have h5:(10:Nat) ^ 9=B9:=rfl;omega
theorem EH {p:List Nat}(j:Dig9 p)(f:p[i]?=some x)(h:wh s)(k:bP s=bC (p.drop (i+1)))(l:0<bP s) :
  wh (s++nh 9 x)/\bP (s++nh 9 x)=bC (p.drop i)/\0<bP (s++nh 9 x):=by
 have m:=j x (aU f);obtain⟨h1,h2,h3⟩:=kZ 9 x m;have g:=aJ.1 f;have e:bC (p.drop i)=x+B9*bC (p.drop (i+1)):=by rw[RP g.1,g.2];rfl
 have n:bP (s++nh 9 x)=bC (p.drop i):=by
  rw[dw,h1,h3,k,e,TB,R8]
 refine⟨⟨fun c a=>?_, ?_,fun b=>?_⟩,n, ?_⟩
 ·rcases RF.1 a with a|a
  ·exact h.1 c a
  exact h2 c a
 ·intro e;exact h.2.1 (UA.1 e).1
 ·exfalso;rw[vg h.2.1]at b;have h5:=h.2.2 b
  match hs:s,h.2.1 with
 |[c],_ =>
   simp at b;subst b;have:bP ([48]:List UInt8)=0:=rfl;omega
 |c::d::s,_=>simp at h5
 rw[dw];have:0<bP s*10 ^ (nh 9 x).length:=TM l (T1 dc_);omega
theorem nl (l:List Nat)(i:Nat):bC (l.take (i+1))=bC (l.take i)+B9 ^ i*g9 l i:=by
 cases a:l[i]? with
|none =>
  have b:l.length<=i:=List.getElem?_eq_none_iff.1 a;have:g9 l i=0:=by unfold g9;rw[am,a];rfl
  rw[this,RN om_,RN b];simp
|some x=>rw[iV a,Ak a]
theorem G9 (P s c B t:Nat)(h:s+B*c=t):P*s+P*B*c=P*t:=by
 rw[<- h,Sw,S6]
theorem IT (d:out.length=i)(h:bC out+B9 ^ i*c=bC (a.take i)+bC (b.take i)) :
  bC (out++[(g9 a i+g9 b i+c) % B9])+B9 ^ (i+1)*((g9 a i+g9 b i+c) / B9)=bC (a.take (i+1))+bC (b.take (i+1)):=by
 rw[iW,d,nl,nl,SF];have h1:=G9 (B9 ^ i) _ _ B9 _ (Us (g9 a i+g9 b i+c) B9);rw[Sw,Sw]at h1;omega
def wg (x y c:Nat):Nat:=if x<y+c then 1 else 0
def Ih (x y c:Nat):Nat:=x+B9*wg x y c-y-c
theorem FS (d:Dig9 b)(f:c<=1)(e:out.length=i)(h:bC out+bC (b.take i)=bC (a.take i)+B9 ^ i*c) :
  bC (out++[Ih (g9 a i) (g9 b i) c])+bC (b.take (i+1))=bC (a.take (i+1))+B9 ^ (i+1)*wg (g9 a i) (g9 b i) c:=by
 have hy:=lj d i;have h0:Ih (g9 a i) (g9 b i) c+(g9 b i+c)=g9 a i+B9*wg (g9 a i) (g9 b i) c:=by
  unfold Ih wg;split <;> omega
 rw[iW,e,nl,nl,SF];have h1:B9 ^ i*Ih (g9 a i) (g9 b i) c+(B9 ^ i*g9 b i+B9 ^ i*c)=B9 ^ i*g9 a i+B9 ^ i*B9*wg (g9 a i) (g9 b i) c:=by
  rw[<- Sw,<- Sw,h0,Sw,S6]
 omega
theorem II (x y c:Nat):wg x y c<=1:=by unfold wg;split <;> omega
theorem OD (a:x<B9)(b:y<B9)(d:c<=1):Ih x y c<B9:=by unfold Ih wg;split <;> omega
theorem IG (a:x<B9)(b:y<B9)(d:c<=1):(x+y+c) / B9<=1:=by
 have:x+y+c<2*B9:=by omega
 exact Nat.le_of_lt_succ ((Tn dc_).2 this)
theorem ui:∀ {l:List Nat}{i x z:Nat},l[i]?=some x->bC (l.set i z)+B9 ^ i*x=bC l+B9 ^ i*z
|[],_,_,_,h=>by simp at h
|y::l,0,x,z,h=>by
  simp at h;subst h;simp only[List.set_cons_zero,bC,Nat.pow_zero,TC];omega
|y::l,i+1,x,z,h=>by
  have a:=ui (l:=l) (i:=i) (x:=x) (z:=z) (by simpa using h);simp only[List.set_cons_succ,bC,SF];have h1:B9*bC (l.set i z)+B9*(B9 ^ i*x)=B9*bC l+B9*(B9 ^ i*z):=by rw[<- Sw,a,Sw]
  rw[R8 (B9 ^ i) B9,S6,S6];omega
theorem Dig9.set {l:List Nat}(h:Dig9 l){i z:Nat}(a:z<B9):Dig9 (l.set i z):=fun x b=>by
 rcases SM b with h1|h1
 ·exact h x h1
 rw[h1];exact a
theorem G8 {V T k:Nat}(a:out[i+k]?=some o)(d:T=bC (b.take k))(h:bC out+B9 ^ (i+k)*c=V+B9 ^ i*(x*T)) :
  bC (out.set (i+k) ((c+x*g9 b k+o) % B9))+B9 ^ (i+(k+1))*((c+x*g9 b k+o) / B9)=V+B9 ^ i*(x*bC (b.take (k+1))):=by
 have h1:=ui (z:=(c+x*g9 b k+o) % B9) a;rw[nl,<- d,show i+(k+1)=i+k+1 by omega,SF];have h2:=G9 (B9 ^ (i+k)) _ _ B9 _ (Us (c+x*g9 b k+o) B9);rw[Sw,Sw]at h2;have h3:B9 ^ i*(x*(T+B9 ^ k*g9 b k))=B9 ^ i*(x*T)+B9 ^ (i+k)*(x*g9 b k):=by
  rw[Sw,Sw,TD];congr 1;rw[UW x,S6]
 omega
theorem sU (a:c<B9)(b:x<B9)(d:y<B9)(e:o<B9):c+x*y+o<B9*B9:=by
 have h1:x*y<=(B9-1)*(B9-1):=SJ om_ om_;have h2:(B9-1)*(B9-1)=999999998000000001:=by decide
 have h3:B9*B9=1000000000000000000:=by decide
 have f:B9=1000000000:=rfl;omega
theorem IF (a:c<B9)(b:x<B9)(d:y<B9)(e:o<B9):(c+x*y+o) / B9<B9:=(Tn dc_).2 (sU a b d e)
end Go.Jog
namespace Go.Jog
open Go Go.Proofs Go.Shelf
variable {C:Mem}{P:Program}{cs:Array Value}{name:String}
def VarC (P:Program)(C:Mem)(name:String)(cs:Array Value):Prop:=∃ g e fz,P.globalNamed name=some g/\C g=some (.cells cs e fz)
theorem VarC.mono {D:Mem}(h:VarC P C name cs)(a:C.le D):VarC P D name cs :=
 let ⟨g,e,fz,h1,h2⟩:=h
 ⟨g,e,fz,h1,a _ _ h2⟩
theorem VarC.m_ {D:Mem}(h:VarC P C name cs)(a:C.le D:=by exact mup):VarC P D name cs:=VarC.mono h a
theorem VarC.var {P:Program}{C:Mem}{a:String}{b:Array Value}(h:VarC P C a b){L:List Ent}{w:World}(d:Sep C L w):w.var? P a=some b:=by
 obtain⟨g,e,fz,h1,h2⟩:=h;have h3:=d.c _ _ h2;simp[World.var?,h1,h3]
theorem VarC.ofWorld {W:World}(h:W.var? P name=some cs):VarC P (rW W) name cs:=by
 unfold World.var? at h;cases a:P.globalNamed name with
|none=>rw[a]at h;cases h
|some g =>
  rw[a]at h;simp only[Option.bind_some]at h;split at h
  ·rename_i c e fz b;simp only[Sb]at h;subst h;exact⟨g,e,fz,a,b⟩
  cases h
theorem St.grown {w:World}(d:Sep C [] w)(q:Nat)(e:Array Obj):St w C [] C [] (Sort.grow (w.drewN q) e) :=
 ⟨⟨fun b o f=>by rw[Sort.heap_grow_old (w.drewN q) e (cQ (d.c b o f):b<(w.drewN q).heap.size)];exact d.c b o f,fun x g=>(by cases g),List.Pairwise.nil,d.n⟩,
  ⟨rfl,rfl,rfl,by simp[Sort.grow],fun k a _=>Sort.heap_grow_old (w.drewN q) e a,Nat.le_add_right _ _⟩,Mem.le.refl _,fun _ _ a=>.inl a,fun _ a=>.inr a⟩
section
variable {P:Program} {ρ:Ren}
theorem Oh (L : LaysM.n171 P ρ) (n : Int) (b : -9223372036854775808 <= n) (c : n <= 9223372036854775807) (C : Mem) (d : VarC P C "internal/strconv.uint64pow10" (Lib.pow10Tab.map fun z => Value.int .u64 z).toArray) (g : Enters P (ρ.f 171) = true) :
  Gives P (ρ.f 171) [i_ n] C (ae (Lib.itoa n)) :=
 ⟨g,fun w a=>(Any.strconv_Itoa L n b c w (d.var a)).mono fun e w' ⟨h2,q,os,h3⟩=>by
  subst h3;exact⟨_,C,[],h2,St.grown a q os,U,U⟩⟩
end
end Go.Jog
namespace Go.Jog
open Go Go.Proofs Go.Shelf
theorem St.bytesW {C:Mem}{w:World}(a:Sep C [] w)(e:TypeId)(s:ByteArray):St w C [] C [] (Lib.bytesWorld w e s):=by
 refine((St.start a).fresh (ob:=_) ⟨?_, ?_, ?_,Lib.bytesWorld_size w e s,fun k b=>Lib.bytesWorld_at_old w e s k b,Lib.bytesWorld_at_new w e s, ?_⟩).drop
 ·unfold Lib.bytesWorld World.freeze;split <;> rfl
 ·unfold Lib.bytesWorld World.freeze;split <;> rfl
 ·unfold Lib.bytesWorld World.freeze;split <;> rfl
 unfold Lib.bytesWorld World.freeze;split <;> exact TL _
theorem rt:∀ (s:List UInt8)(a:Nat),(∀ c∈s,dT c=true)->Lib.decFrom a s=some (s.foldl Di a)
|[],a,_=>rfl
|c::s,a,h=>by
  have h1:=h c ak;simp only[dT,Ry]at h1;simp only[Lib.decFrom,Lib.digitVal,aM h1,T3];rw[rt s _ (fun d b=>h d (by simp[b]))];simp only[Di];rw[R8 10 a]
theorem tJ {s:List UInt8}(h:∀ c∈s,dT c=true)(a:s≠[]):Lib.decNat s=some (bP s):=by
 unfold Lib.decNat;cases s with
|nil=>exact absurd rfl a
|cons c s=>simp only[List.isEmpty_cons,Sn,SX];exact rt _ 0 h
theorem OC {c:UInt8}(h:dT c=true):(c == 45)=false/\(c == 43)=false:=by
 simp only[dT,Ry]at h;constructor <;> (rw[Ti];rintro rfl;revert h;decide)
theorem IP {s:List UInt8}(h:∀ c∈s,dT c=true)(a:s≠[]):Lib.atoi s=some (bP s:Nat):=by
 cases s with
|nil=>exact absurd rfl a
|cons c s =>
  obtain⟨h1,h2⟩:=OC (h c ak);simp only[Lib.atoi,h1,h2,Sn,SX,tJ h a];rfl
theorem Lz (z:Int):Lib.atoi (txt z)=some z:=by
 obtain⟨h1,h2⟩:=bl z.natAbs;unfold txt;split
 ·rename_i a;simp only[Lib.atoi,beq_self_eq_true,Tu,tJ h1.1 h1.2.1,h2];show some (-(z.natAbs:Int))=some z;congr 1;omega
 rename_i a;rw[IP h1.1 h1.2.1,h2];show some ((z.natAbs:Int))=some z;congr 1;omega
theorem sR (M:Nat)(e:999999999999999999<=M):∀ (s:List UInt8)(a k:Nat),(∀ c∈s,dT c=true)->a<10 ^ k->k+s.length<=18->Lib.parseUintM M a s=.ok (s.foldl Di a)
|[],a,k,_,_,_=>rfl
|c::s,a,k,h,i,b=>by
  have h1:=h c ak;simp only[dT,Ry]at h1;have f:10 ^ (k+1)<=10 ^ 18:=RM dc_ (by simp at b;omega);have j:10 ^ k<=10 ^ 17:=RM dc_ (by simp at b;omega);have e18:(10:Nat) ^ 18=1000000000000000000:=by decide
  have l:(10:Nat) ^ 17=100000000000000000:=by decide
  rw[SF]at f;simp only[Lib.parseUintM,aM h1];rw[aF om_,aF om_,sR M e s (a*10+(c.toNat-48)) (k+1) (fun d g=>h d (by simp[g])) (by rw[SF];omega) (by simp at b;omega)];simp only[T3,Di];rw[R8 10 a]
section
variable {P:Program} {ρ:Ren}
theorem GO (L:Lays.n287 P ρ)(s:List UInt8)(b:∀ c∈s,dT c=true)(d:s≠[])(i:s.length<=18)(C:Mem)(g:Enters P (ρ.f 287)=true) :
  Gives P (ρ.f 287) [ae s,i_ 10,i_ 64] C (.tuple #[.int .u64 (bP s),.nilIface]) :=
 ⟨g,fun w a=>(Any.internal_strconv_ParseUint_10_at64 L ⟨s.toArray⟩ (by simp[ByteArray.size];omega) w).mono fun e w' ⟨h2,h3⟩=>by
  have h:Lib.parseUintB 64 (⟨s.toArray⟩:ByteArray).data.toList=.ok (bP s):=by
   unfold Lib.parseUintB;rw[aF d];exact sR _ dc_ s 0 0 b dc_ om_
  rw[h]at h2;rcases h3 with h3|h3
  ·subst h3;exact⟨_,C,[],h2,St.start a,rfl,rfl⟩
  subst h3;exact⟨_,C,[],h2,St.bytesW a _ _,rfl,rfl⟩⟩
theorem Bb (L:Lays.n172 P ρ)(z:Int)(a:(txt z).length<=18)(C:Mem)(b:Enters P (ρ.f 172)=true):Gives P (ρ.f 172) [ae (txt z)] C (.tuple #[i_ z,.nilIface]) :=
 ⟨b,fun w c=>(Any.strconv_Atoi L ⟨(txt z).toArray⟩ z (by simpa [ByteArray.size] using a) (Lz z) w).mono fun e w' ⟨h2,t,h3⟩=>by
  subst h3;exact⟨_,C,[],h2,St.bytesW c _ _,rfl,rfl⟩⟩
theorem zB (L:Lays.n106 P ρ)(a b:List UInt8)(C:Mem)(c:Enters P (ρ.f 106)=true):Gives P (ρ.f 106) [ae a,ae b] C (i_ (Lib.compareBytes a b)) :=
 Gives.ofCalls c (fun w=>Any.strings_Compare L ⟨a.toArray⟩ ⟨b.toArray⟩ w) C
end
end Go.Jog
namespace Go.Jog
open Go Go.Proofs Go.Shelf
theorem kB {P:Program}(w:World)(t u c e:TypeId)(i:TypeInfo)(d:P.underlying t=some (.slice e))(f:P.underlying u=some .string)(h:P.info? e=some i)(m:i.zero=some (.int .u8 0))
  (o:i.size=1) (p:i.bytes=1) (v:Value) (n:Nat) (b:List Value) (k:w.ownsRow 0 e 1 v n b) (s:ByteArray) (q:n+s.size<=maxLen) (x:n+s.size<=140737488355328) :
  ∃ a w',(Builtin.append_ #[t,u] c #[v,.string s]).run P w=.ok a w'/\w'.ownsRow 0 e 1 a (n+s.size) (b++Lib.strCells s)/\w.grownBy w' v.ownBlock /\
   (a.ownBlock=v.ownBlock∨a.ownBlock=some w.heap.size∨a.ownBlock=none):=by
 obtain⟨a,w',h1,h2,h3,h4⟩:=Lib.run_append_own_string (P:=P) w 0 t u c e i d f h m o p v n b k s q x (Rv _);refine⟨a,w',h1,h2,h3, ?_⟩;have y:b.length=n:=by simpa using k.1
 have C:n+s.size<=9223372036854775807:=by simp only[maxLen]at q;omega
 rcases k.2 with⟨rfl,rfl⟩|⟨g,l,r,rfl,D,z,E,F,A,G⟩
 ·by_cases hm:s.size=0
  ·rw[h4.2 ⟨rfl,hm⟩];exact .inr (.inr rfl)
  have hr:=run_append_nil_string (P:=P) w t u c e i (.int .u8 0) d f h m s om_ om_ (by rw[p];omega);rw[hr]at h1;injection h1 with h1 _;subst h1;exact .inr (.inl U)
 by_cases B:n+s.size<=l
 ·have H:r.size=l:=by simpa using A
  have hr:=Lib.run_append_room_string (P:=P) w t u c e i d f h o g n l r z s B om_;rw[hr]at h1;injection h1 with h1 _;subst h1;exact .inl U
 have holds:∀ j u,b[j]?=some u->w.cell? ((⟨g,0,none⟩:Addr).add j)=some u:=k.cells (g:=g) rfl;have hr:=Lib.run_append_grow_string (P:=P) w t u c e i (.int .u8 0) d f h m ⟨g,0,none⟩ n l b (by rw[o];simpa using y) holds s om_ om_ (by rw[p];exact growslice_fits om_ om_);rw[hr]at h1;injection h1 with h1 _;subst h1;exact .inr (.inl U)
section
variable {cx:Cx} {n:Nat} {ds:List (Option Nat)} {R:Rg n ds} {its:List It} {fr:Fr} {C:Mem} {L:List Ent} {i k d:Nat} {o:Oper} {g:GL} {v:Value}
theorem Xi {t u e j m:Nat}{x y:Operand}{q r p:TI}{g:Value}{l:List Value}{s:List UInt8}(K:k=3)(M:o.dst=some d)(N:gOn ds fr o.guard=true)
  (O:o.op=.call ⟨.builtin .append,#[x,y],#[t,u]⟩) (Q:cx.T.get t=some q) (F:q.k=.slice e) (V:cx.T.get u=some r) (G:r.k=.str) (W:cx.T.get e=some p) (X:p.zv=.int .u8 0) (Y:p.size=1) (Z:p.bytes=1)
  (hx:ev fr [] x=some g) (hy:ev fr [] y=some (ae s)) (hm:L[j]?=some (.arr g e 1 m l))
  (aa:m+s.length<=140737488355328) (hp:∀ v,aX n ds ((d,[],v)::fr) d=true)
  (h:∀ A n c,D cx R its ((d,[],.slice A n c)::fr) C (.arr (.slice A n c) e 1 (m+s.length) (l++s.map fun b=>Value.int .u8 b.toNat)::L.eraseIdx j)):D cx R ((i,k,o)::its) fr C L:=by
 have hu:cx.P.underlying t=some (.slice e):=by
  obtain⟨kk,s1,b1,z1,g1⟩:=q;simp only at F;subst F;exact bX cx.hT Q
 have ab:cx.P.underlying u=some .string:=by
  obtain⟨kk,s1,b1,z1,g1⟩:=r;simp only at G;subst G;exact pC cx.hT V
 obtain⟨inf,hi,ac,ad,af,an⟩:=(dS cx.hT W).info;have z:(⟨s.toArray⟩:ByteArray).size=s.length:=by simp[ByteArray.size]
 refine VP (S:=fun f H L'=>(∃ A n c,f=.slice A n c)/\H=C/\L'=.arr f e 1 (m+s.length) (l++s.map fun b=>Value.int .u8 b.toNat)::L.eraseIdx j) (by subst K;rfl) M N hp (fun a hs w _ hw=>?_) (fun f H L' _ ⟨⟨A,n',c,e0⟩,B,e2⟩=>by subst e0;subst B;subst e2;exact h A n' c);have I:=St.perm hw (al hm);have ag:w.ownsRow 0 e 1 g m l:=I.sep.e _ (Rq ..);obtain⟨f,w',J,E,ah,ai⟩:=kB (P:=cx.P) w t u o.type e inf hu ab hi (by rw[af,X]) (by rw[ac,Y]) (by rw[ad,Z]) g m l ag ⟨s.toArray⟩ (by rw[z];simp[maxLen];omega) (by rw[z];exact aa);rw[z]at E;have aj:(Builtin.append_ #[t,u] o.type #[g,ae s]).run cx.P w=.ok f w':=J;have ak:(execOp a.eval o).run cx.P w=.ok (.value f) w':=by
  have B:execOp a.eval o=(do let dd <- resolve a.eval ⟨.builtin .append,#[x,y],#[t,u]⟩ o.type;invoke dd.target dd.args:Sem Next):=by unfold execOp;rw[O]
  rw[B];simp only[resolve,invoke,builtin,Sem.run_bind,Sem.run_pure,Result.andThen_ok,Ts,R6,Tm,hs _ _ hx,hs _ _ hy,aj]
 unfold Oper.wp;rw[ak];have am:∃ A n c,f=.slice A n c:=by
  rcases E.2 with⟨h1,_⟩|⟨g0,ao,ap,h1,_⟩
  ·exact⟨_,_,_,h1⟩
  exact⟨_,_,_,h1⟩
 exact⟨f,C,_,U,Mem.le.refl _,fun h2=>by omega,St.turn I E ah (bU _ J) ai,am,U,U⟩
theorem Xg {t b m c:Nat}{x:Operand}(e:Nat.ble k 1=true)(f:o.dst=some d)(h:o.op=.call ⟨.builtin .unsafeSliceData,#[x],#[t]⟩)(j:gOf ds fr o.guard=some g)(l:ev fr g x=some (s_ b m c))(p:c≠0)
  (q:aX n ds ((d,g,p_ b)::fr) d=true) (r:wfG ds fr g=true)
  (s:D cx R its ((d,g,p_ b)::fr) C L):D cx R ((i,k,o)::its) fr C L:=by
 refine D.run _ e f j (fun v a hs w=>?_) q r s;have u:execOp a.eval o=(do let dd <- resolve a.eval ⟨.builtin .unsafeSliceData,#[x],#[t]⟩ o.type;invoke dd.target dd.args:Sem Next):=by unfold execOp;rw[h]
 rw[u];simp only[resolve,invoke,builtin,Sem.run_bind,Sem.run_pure,Result.andThen_ok,Ts,R6,Tm,hs _ _ l,Lib.run_unsafeSliceData_row _ _ _ _ _ _ p]
theorem Xf {t u e j l m r:Nat}{x y:Operand}{s:List UInt8}(f:k=3)(N:o.dst=some d)(O:gOn ds fr o.guard=true)
  (Q:o.op=.call ⟨.builtin .unsafeString,#[x,y],#[t,u]⟩) (T:cx.P.underlying t=some (.pointer e)) (V:cx.P.cellsOf e=1)
  (p:ev fr [] x=some (p_ l)) (z:ev fr [] y=some (i_ s.length)) (W:L[j]?=some (.arr (s_ l m r) e 1 s.length (s.map fun b=>Value.int .u8 b.toNat))) (X:s≠[])
  (ai:s.length<=140737488355328) (Y:∀ v,aX n ds ((d,[],v)::fr) d=true)
  (h:D cx R its ((d,[],ae s)::fr) C (L.eraseIdx j)):D cx R ((i,k,o)::its) fr C L:=by
 refine VP (S:=fun H I J=>H=ae s/\I=C/\J=L.eraseIdx j) (by subst f;rfl) N O Y (fun a hs w _ Z=>?_) (fun H I J _ ⟨e0,A,e2⟩=>by subst e0;subst A;subst e2;exact h);have q:=St.perm Z (al W);have K:w.ownsRow 0 e 1 (s_ l m r) s.length (s.map fun b=>Value.int .u8 b.toNat):=q.sep.e _ (Rq ..);rcases K.2 with⟨B,_⟩|⟨g1,aj,E,B,ak,F,am,an,aa,ao⟩
 ·cases B
 cases B
 have ap:E.size=r:=by simpa using aa
 have hr:=Lib.run_unsafeString_row (P:=cx.P) w t u o.type e T V l E.size (by simp[World.shape?,F]) s X om_ om_ (fun j x hj=>K.cells (g:=l) rfl j _ (by rw[Rr,hj];rfl));have ab:(execOp a.eval o).run cx.P w=.ok (.value (ae s)) (w.freeze ⟨l,0,none⟩ s.length):=by
  have A:execOp a.eval o=(do let dd <- resolve a.eval ⟨.builtin .unsafeString,#[x,y],#[t,u]⟩ o.type;invoke dd.target dd.args:Sem Next):=by unfold execOp;rw[Q]
  rw[A];simp only[resolve,invoke,builtin,Sem.run_bind,Sem.run_pure,Result.andThen_ok,Ts,R6,Tm,hs _ _ p,hs _ _ z,hr];rfl
 unfold Oper.wp;rw[ab];have ac:l<w.heap.size:=cQ F;have ad:∀ k,k≠l->(w.freeze ⟨l,0,none⟩ s.length).heap[k]?=w.heap[k]?:=fun k f=>by
  unfold World.freeze;split <;> first|rfl|(simp only[T7];rw[aF (fun e=>f e.symm)])|(simp[Array.getElem?_setIfInBounds,Ne.symm f])
 have M:(w.freeze ⟨l,0,none⟩ s.length).heap.size=w.heap.size:=by
  unfold World.freeze;split <;> simp
 obtain⟨G,af⟩:∃ G,(w.freeze ⟨l,0,none⟩ s.length).heap[l]?=some G:=⟨_,Array.getElem?_eq_getElem (by rw[M];exact ac)⟩;have ag:St _ _ _ C (.obj l (.cells E e (0,0))::L.eraseIdx j) w :=
  ⟨⟨q.sep.c,fun x p=>by
   rcases RC.1 p with rfl|p
   ·exact F
   ·exact q.sep.e x (by simp[p]),by
   have:=Sy.1 q.sep.d;exact Sy.2 ⟨fun y z k f=>this.1 y z k (by simp only[Ent.own]at f⊢;simp[Value.ownBlock,f]),this.2⟩,fun k ⟨x,p,f⟩=>by
   rcases RC.1 p with rfl|p
   ·simp only[Ent.own]at f;exact q.sep.n k ⟨_,Rq ..,by simp[Ent.own,Value.ownBlock,f]⟩
   ·exact q.sep.n k ⟨x,by simp[p],f⟩⟩,q.ev,q.c0,q.cn,fun k ⟨x,p,f⟩=>by
   rcases RC.1 p with rfl|p
   ·simp only[Ent.own]at f;exact q.ln k ⟨_,Rq ..,by simp[Ent.own,Value.ownBlock,f]⟩
   exact q.ln k ⟨x,by simp[p],f⟩⟩
 have ah:=ag.put (w':=w.freeze ⟨l,0,none⟩ s.length) (o':=G) af ad M (by unfold World.freeze;split <;> rfl) (by unfold World.freeze;split <;> rfl) (by unfold World.freeze;split <;> rfl) (by unfold World.freeze;split <;> exact Ro _);exact⟨ae s,C,_,U,Mem.le.refl _,fun h2=>by omega,ah.drop,U,U,U⟩
end
end Go.Jog
namespace Go.Jog
open Go Go.Proofs Go.Shelf Go.Sort
section
variable {P:Program} {ρ:Ren}
theorem Am (L:Lays.n285 P ρ)(b i u t:Nat)(a:List Value)(v:u<18446744073709551616)(l:∀ j,j<Lib.nDigits u->a[j]?=some (.int .u8 0))(y:Lib.nDigits u<4611686018427387904)(C:Mem)(z:Enters P (ρ.f 285)=true) :
  Fn P (ρ.f 285) [s_ b (Lib.nDigits u) i,.int .u64 u] C [.obj b (.cells ⟨a⟩ t (0,0))] fun r A B=>r=.tuple #[]/\A=C/\∃ d,B=[.obj b (.cells ⟨d⟩ t (0,0))]/\d.length=a.length/\∀ (j:Nat) x,(bk u)[j]?=some x->d[j]?=some (.int .u8 x.toNat) :=
 ⟨z,fun w m=>by
  have g:w.heap[b]?=some (.cells ⟨a⟩ t (0,0)):=m.e _ (Rq ..);have D:Holds (fun(b:UInt8)=>Value.int .u8 (b.toNat:Int)) w b 0 (Array.replicate (Lib.nDigits u) (0:UInt8)):=fun j c=>by
   have n:j<Lib.nDigits u:=by simpa using c
   constructor
   ·simp[World.cell?,g,l j n,n]
   simp[World.frozen?,g]
  have o:=Any.internal_strconv_formatBase10 L b 0 i u (Array.replicate (Lib.nDigits u) 0) w D (by rw[UN];exact Lib.lt_pow_nDigits u) v (by rw[UN];exact y);rw[UN]at o;refine o.mono ?_;rintro e w' ⟨h1,q,J,h,h2,p⟩;subst h2;have E:((putRow (fun(b:UInt8)=>Value.int .u8 (b.toNat:Int)) w b 0 h).drewN q).heap[b]?=some (.cells ⟨(putCells (fun(b:UInt8)=>Value.int .u8 (b.toNat:Int)) 0 h ⟨a⟩).toList⟩ t (0,0)):=by
   simp[putRow,mapBlock,onCells,T7,g]
  refine⟨_,C,_,h1, ?_,U,U,(putCells (fun(b:UInt8)=>Value.int .u8 (b.toNat:Int)) 0 h ⟨a⟩).toList,U, ?_,fun j x s=>?_⟩
  ·exact(St.start m).put E (fun k F=>by simp[putRow,mapBlock,T7,Ne.symm F]) (by simp[putRow,mapBlock]) U U U (Nat.le_add_right _ _)
  ·simp[putCells]
  rw[<- dR]at s;obtain⟨c,G⟩:=aJ.1 s;have hr:=Lib.row_is_numeral p j c;have H:j<Lib.nDigits u:=by rw[<- Lib.decDigits_length];exact c
  have I:j<a.length:=(aJ.1 (l j H)).1;have K:=p.size;simp only[putCells,Array.getElem?_toList,Array.getElem?_mapIdx];rw[show((⟨a⟩:Array Value)[j]?)=some a[j] from by simp[I]];simp only[S5];rw[aM ⟨Rv _,by omega⟩,Uj,<- hr,G]⟩
theorem xQ (L : LaysM.n284 P ρ) (u : Nat) (b : 1 <= u) (c : u < 18446744073709551616) (C : Mem) (d : VarC P C "internal/strconv.uint64pow10" (Lib.pow10Tab.map fun z => Value.int .u64 z).toArray) (g : Enters P (ρ.f 284) = true) :
  Gives P (ρ.f 284) [.int .u64 u] C (i_ (Lib.nDigits u)) :=
 ⟨g,fun w a=>(Any.internal_strconv_numDigits L u b c w (d.var a)).mono fun e w' ⟨h3,h4⟩=>by
  subst h4;exact⟨_,C,[],h3,St.start a,U,U⟩⟩
end
end Go.Jog
namespace Go.Jog
open Go
section
variable {F:Fx} {k:List KI} {fr:Fr} {C:Mem} {L:List Ent}
theorem Mf {d:Cx}{b:Func}{n r:Nat}{e:List Deferred}{f:World}{g:Mem}{h:List Ent}{x:Value}(i:b.results=#[.tmp r])
  (j:ev fr [] (.tmp r)=some x) :
  ∀ a w,FrOk n [] e fr a->St f g h C L w->(results b a.tmps).run d.P w=.ok x w:=fun a w k _=>by
 have c:=bN k (fun p l=>by cases l) j;simp only[Act.eval,Sr]at c;simp[results,i,c]
end
theorem Fn.give {P:Program}{f:FuncId}{d:List Value}{C:Mem}{L:List Ent}{v:Value}{t c g:Nat}(b:List (List Value)){i:Value->Mem->List Ent->Prop}(j:Enters P f=true)(k:∀ r∈b,r.length=c)(l:b.length=g)
  (h:∀ a,C.le a->Sl a c v b->Fn P f d a L i):Fn P f d C (.arr v t c g b.flatten::L) i :=
 ⟨j,fun w m=>by
  obtain⟨n,h1,h2,h3⟩:=St.freezeArr (St.start m) k l;refine((h n h1 h2).2 w h3.sep).mono fun e w' ⟨u,a,o,p,hs,q⟩=>⟨u,a,o,p, ?_,q⟩;have:=St.call (Lp:=L) (Lr:=[]) (by rw[RQ];exact h3) hs
  rwa [RQ]at this⟩
end Go.Jog
namespace Go.Jog
open Go
section
variable {cx:Cx} {n:Nat} {ds:List (Option Nat)} {R:Rg n ds} {its:List It} {fr:Fr} {C:Mem} {L:List Ent} {i k d:Nat} {o:Oper} {g:GL} {v:Value}
theorem Xv {t e b:Nat}{x:Operand}{p:Option Addr}(c:Nat.ble k 1=true)(f:o.dst=some d)(j:o.op=.binOp .eql t x (.const (.pointer none)) b)(l:gOf ds fr o.guard=some g)
  (m:ev fr g x=some (.pointer p)) (q:cx.P.underlying t=some (.pointer e)) (r:cx.P.pointee t=e)
  (s:aX n ds ((d,g,.bool p.isNone)::fr) d=true) (u:wfG ds fr g=true)
  (h:D cx R its ((d,g,.bool p.isNone)::fr) C L):D cx R ((i,k,o)::its) fr C L:=by
 subst r;refine D.run _ c f l (fun _ a hs w=>?_) s u h;rw[dP j (hs _ _ m) rfl (fun _ _=>.inl ak) (.inl ak) w];simp only[Act.eval,run_eql_pointer_nil w t p q,Result.andThen_ok]
theorem Xh {t e c:Nat}{x y:Operand}{b:Addr}(f:Nat.ble k 1=true)(l:o.dst=some d)(m:o.op=.binOp .neq t x y c)(p:gOf ds fr o.guard=some g)
  (q:ev fr g x=some (.pointer (some b))) (r:ev fr g y=some (.pointer (some b))) (s:cx.P.underlying t=some (.pointer e)) (u:(cx.P.info? e).isSome=true)
  (v:aX n ds ((d,g,.bool false)::fr) d=true) (z:wfG ds fr g=true)
  (h:D cx R its ((d,g,.bool false)::fr) C L):D cx R ((i,k,o)::its) fr C L:=by
 obtain⟨j,A⟩:=Uv.1 u;refine D.run _ f l p (fun _ a hs w=>?_) v z h;rw[dP m (hs _ _ q) (hs _ _ r) (fun _ _=>.inl ak) (.inl ak) w];simp only[Lib.run_neq_ptr_same w b s A,Result.andThen_ok]
theorem Xj {c f t e b:Nat}{x:Operand}{g:List Value}{m:Nat × Nat}(u:k=2)(y:o.dst=some d)(z:o.op=.convert c f x)(A:gOn ds fr o.guard=true)(B:ev fr [] x=some (p_ b))
  (E:Ent.obj b (.cells ⟨g⟩ e m)∈L) (F:cx.P.underlying c=some (.pointer t)) (G:cx.P.underlying f=some .unsafePointer) (H:((cx.P.info? t).map fun i=>Nat.beq i.size 0)=some false) (I:0<g.length)
  (J:∀ v,aX n ds ((d,[],v)::fr) d=true)
  (h:D cx R its ((d,[],p_ b)::fr) C L):D cx R ((i,k,o)::its) fr C L:=by
 obtain⟨j,K,p⟩:=Option.map_eq_some_iff.1 H;refine VP (S:=fun v q r=>v=p_ b/\q=C/\r=L) (by subst u;rfl) y A J (fun a M w _ s=>?_) (fun T q r _ ⟨N,l,O⟩=>by subst N;subst l;subst O;exact h);have Q:w.heap[b]?=some (.cells ⟨g⟩ e m):=s.sep.e _ E;have hr:=Lib.run_to_unsafe (P:=cx.P) w (src:=c) (dst:=f) (e:=e) (cells:=g.length) ⟨b,0,none⟩ F G K (fun e=>by rw[e]at p;cases p) (by simp[World.shape?,Q]) I;have l:execOp a.eval o=(do Pure.pure (.value (<- convert c f (a.eval x))):Sem Next):=by unfold execOp;rw[z]
 unfold Oper.wp;rw[l,M _ _ B];simp only[Sem.run_bind,hr,Result.andThen_ok,Sem.run_pure];exact⟨_,C,L,U,Mem.le.refl _,fun _ _ h=>h,s,U,U,U⟩
theorem Xz {c f t e b:Nat}{x:Operand}{g:List Value}{m:Nat × Nat}(s:k=2)(u:o.dst=some d)(y:o.op=.convert c f x)(z:gOn ds fr o.guard=true)(A:ev fr [] x=some (p_ b))
  (B:Ent.obj b (.cells ⟨g⟩ e m)∈L) (E:cx.P.underlying c=some .unsafePointer) (F:cx.P.underlying f=some (.pointer t)) (G:(cx.P.info? t).isSome=true) (H:liesAt cx.P cx.P.depth e (g.length / cx.P.cellsOf e) 0 t 1=true)
  (I:∀ v,aX n ds ((d,[],v)::fr) d=true)
  (h:D cx R its ((d,[],p_ b)::fr) C L):D cx R ((i,k,o)::its) fr C L:=by
 obtain⟨j,J⟩:=Uv.1 G;refine VP (S:=fun v p q=>v=p_ b/\p=C/\q=L) (by subst s;rfl) u z I (fun a K w _ r=>?_) (fun Q p q _ ⟨M,l,N⟩=>by subst M;subst l;subst N;exact h);have O:w.heap[b]?=some (.cells ⟨g⟩ e m):=r.sep.e _ B;have hr:=Lib.run_from_unsafe (P:=cx.P) w (src:=c) (dst:=f) (e:=e) (cells:=g.length) ⟨b,0,none⟩ E F J (by simp[World.shape?,O]) H;have l:execOp a.eval o=(do Pure.pure (.value (<- convert c f (a.eval x))):Sem Next):=by unfold execOp;rw[y]
 unfold Oper.wp;rw[l,K _ _ A];simp only[Sem.run_bind,hr,Result.andThen_ok,Sem.run_pure];exact⟨_,C,L,U,Mem.le.refl _,fun _ _ h=>h,r,U,U,U⟩
theorem Xn {f:FuncId}{fn:Func}{x:Operand}{e:Array TypeId}{u:Value}(l:Nat.ble k 1=false)(m:o.dst=some d)(p:o.op=.call ⟨.value (.func f),#[x],e⟩)(q:gOn ds fr o.guard=true)
  (r : ev fr [] x = some u) (s : cx.P.funcs[f]? = some fn) (t : (fn.name == "runtime.NumGoroutine") = false) (y : fn.body.isNone = true) (z : Extern.findNext fn = none) (A : Extern.find fn = some Extern.AbiNoEscape.same)
  (B:∀ v,aX n ds ((d,[],v)::fr) d=true)
  (h:D cx R its ((d,[],u)::fr) C L):D cx R ((i,k,o)::its) fr C L:=by
 refine VP (S:=fun v g j=>v=u/\g=C/\j=L) l m q B (fun a hs w _ E=>?_) (fun G g j _ ⟨F,b,c⟩=>by subst F;subst b;subst c;exact h);have b:execOp a.eval o=(do let dd <- resolve a.eval ⟨.value (.func f),#[x],e⟩ o.type;invoke dd.target dd.args:Sem Next):=by unfold execOp;rw[p]
 have c:a.eval (.func f)=.func (.func f) #[] #[]:=rfl;unfold Oper.wp;rw[b];simp only[resolve,c,Deferred.ofValue,Sem.run_bind,Sem.run_pure,Result.andThen_ok,invoke,Ts,R6,Tm,hs _ _ r];rw[run_callFunc_extern s t y z A];simp only[Array.empty_append,Array.append_empty,Lib.run_noEscape,Result.andThen_ok];exact⟨_,C,L,U,Mem.le.refl _,fun _ _ h=>h,E,U,U,U⟩
theorem jf {P:Program}{b:BinOp}{t:Nat}{x:Operand}(u:Value)(w:World)(c:∀ a,u≠.agg a):(eqGuard b t x (.const .nilIface) u .nilIface).run P w=.ok () w:=by
 by_cases h:u=.nilIface
 ·subst h;cases b <;> first|rfl|(unfold eqGuard;simp)
 exact eI w (fun a _=>.inl (c a)) (.inl h)
theorem WY (b:Bool){c:BinOp}{t j:Nat}{x:Operand}(l:Nat.ble k 1=true)(m:o.dst=some d)(p:o.op=.binOp c t x (.const .nilIface) j)(q:gOf ds fr o.guard=some g)
  (r:ev fr g x=some .nilIface) (s:(c=.eql/\b=true)∨(c=.neq/\b=false)) (f:cx.P.underlying t=some (.interface (cx.P.methodsAt t)))
  (u:aX n ds ((d,g,.bool b)::fr) d=true) (v:wfG ds fr g=true)
  (h:D cx R its ((d,g,.bool b)::fr) C L):D cx R ((i,k,o)::its) fr C L:=by
 refine D.run _ l m q (fun _ a hs w=>?_) u v h;rw[rh p,hs _ _ r];have e:a.eval (.const .nilIface)=.nilIface:=rfl;rcases s with⟨rfl,rfl⟩|⟨rfl,rfl⟩
 ·simp only[e,Sem.run_bind,jf .nilIface w (by intro a;simp),Result.andThen_ok,run_eql_nil_nil w t f,Sem.run_pure]
 simp only[e,Sem.run_bind,jf .nilIface w (by intro a;simp),Result.andThen_ok,run_neq_nil_nil w t f,Sem.run_pure]
theorem Cd {c:Cx}{d:Func}{n s t u b:Nat}{f:Fr}{C:Mem}{L:List Ent}{k:List Deferred}{l:World}{m:Mem}{o:List Ent}{v:TypeId}{x:Nat × Nat}{q:List Value}{g:TI}{y z:Value}(A:Ent.obj b (.cells ⟨q⟩ v x)∈L)(B:d.results=#[.cell s t,.tmp u])
  (D:ev f [] (.tmp s)=some (p_ b)) (E:ev f [] (.tmp u)=some z) (G:c.T.get t=some g) (H:cI g (q.take g.size)=some y) :
  ∀ a w,FrOk n [] k f a->St l m o C L w->(results d a.tmps).run c.P w=.ok (.tuple #[y,z]) w:=fun a w r I=>by
 have h:=bN r (fun p i=>by cases i) D;have j:=bN r (fun p i=>by cases i) E;simp only[Act.eval]at h j;have J:=fC (F:=⟨c,d,n,⟨l,m,o⟩,fun _ _ _=>True,Cw.plain c.P,k,fun _ _ _=>True⟩) G (I.sep.e _ A) H;simp only[Sr]at h j;simp[results,B,h,j,asAddr,J]
theorem V6 {t e:Nat}{x y:Operand}{b:IntKind}{p q:Int}(c:Int)(f:Z6 (Nat.ble k 1) true o.dst (some d) o.op (.binOp .rem t x y e) (gOf ds fr o.guard) (some g) (ev fr g x) (some (.int b p)) (ev fr g y) (some (.int b q)))(j:q≠0)(l:Z3 (p.tmod q) c (aX n ds ((d,g,.int b c)::fr) d) true (wfG ds fr g) true)(h:D cx R its ((d,g,.int b c)::fr) C L):D cx R ((i,k,o)::its) fr C L :=
 have ⟨m,r,s,u,v,hy⟩:=f;have ⟨z,A,B⟩:=l;D.run _ m r u (fun _ a hs w=>by
  rw[dP s (hs _ _ v) (hs _ _ hy) (fun _ _=>.inl ak) (.inl ak) w];simp[binOp,Op.intDiv,j,z]) A B h
theorem VW (p:Nat)(q:Nat){t c:Nat}{x y:Operand}{a:IntKind}(e:Z6 (Nat.ble k 1) true o.dst (some d) o.op (.binOp .rem t x y c) (gOf ds fr o.guard) (some g) (ev fr g x) (some (.int a (p:Nat))) (ev fr g y) (some (.int a (q:Nat))))(v:0<q)(f:Z2 (aX n ds ((d,g,.int a ((p % q:Nat):Int))::fr) d) true (wfG ds fr g) true)(h:D cx R its ((d,g,.int a ((p % q:Nat):Int))::fr) C L):D cx R ((i,k,o)::its) fr C L:=by
 have ⟨j,l,m,r,s,hy⟩:=e;have ⟨b,u⟩:=f;rw[Int.natCast_emod]at b h;exact Wd ⟨j,l,m,r,s,hy⟩ om_ om_ ⟨b,u⟩ h
theorem V7 (p:Nat)(q:Nat){t e:Nat}{x y:Operand}{a:IntKind}(f:Z6 (Nat.ble k 1) true o.dst (some d) o.op (.binOp .quo t x y e) (gOf ds fr o.guard) (some g) (ev fr g x) (some (.int a (p:Nat))) (ev fr g y) (some (.int a (q:Nat))))(A:0<q)(b:(a=.i64/\p<9223372036854775808)∨(a=.u64/\p<18446744073709551616))(j:Z2 (aX n ds ((d,g,.int a ((p / q:Nat):Int))::fr) d) true (wfG ds fr g) true)(h:D cx R its ((d,g,.int a ((p / q:Nat):Int))::fr) C L):D cx R ((i,k,o)::its) fr C L:=by
 have ⟨l,m,r,s,u,hy⟩:=f;have ⟨c,v⟩:=j;have hr:a.wrap ((p / q:Nat):Int)=((p / q:Nat):Int):=by
  have w:=Sv p q;generalize p / q=z at w⊢;rcases b with⟨rfl,b⟩|⟨rfl,b⟩
  ·rw[IntKind.wrap_i64];omega
  rw[IntKind.wrap_u64];omega
 rw[Int.natCast_ediv]at c h hr;exact D.quo l m r s u hy om_ om_ hr c v h
end
end Go.Jog
namespace Go.Jog
open Go
section
variable {cx:Cx} {n:Nat} {ds:List (Option Nat)} {R:Rg n ds} {its:List It} {fr:Fr} {C:Mem} {L:List Ent} {i k d:Nat} {o:Oper} {g:GL} {v:Value}
theorem Wg {t f p l:Nat}{x:Operand}{q:List Value}{r m:TI}{s:List (Nat × Nat)}(B:Z12 (Nat.ble k 1) true o.dst (some d) o.op (.field t x f) (gOf ds fr o.guard) (some g) (ev fr g x) (some (.agg ⟨q⟩)) (cx.T.get t) (some r) r.k (.struct s) (s[f]?) (some (p,l)) (cx.T.get p) (some m) (bif m.agg then some (.agg ⟨(q.drop l).take m.size⟩) else q[l]?) (some v) (aX n ds ((d,g,v)::fr) d) true (wfG ds fr g) true)(h:D cx R its ((d,g,v)::fr) C L):D cx R ((i,k,o)::its) fr C L:=by
 have ⟨E,F,G,H,j,I,u,b,y,c,J,K⟩:=B;refine D.run _ E F H (fun _ a hs w=>?_) J K h;have M:execOp a.eval o=(do Pure.pure (.value (<- Instr.field t (a.eval x) f)):Sem Next):=by unfold execOp;rw[G]
 obtain⟨O,P,Q,S,U⟩:=r;simp only at u;subst u;obtain⟨z,N,hm⟩:=nn cx.hT I;obtain⟨e,h1,rfl,rfl⟩:∃ e,z[f]?=some e/\e.type=p/\e.offset=l:=by
  rw[<- hm,Rr]at b;cases j:z.toList[f]? with
 |none=>rw[j]at b;cases b
 |some e =>
   rw[j]at b;simp only[S5,Sb,TE]at b;exact⟨e,by simpa using j,b.1,b.2⟩
 rw[M,hs _ _ j];unfold Instr.field;simp only[Sem.run_bind,run_underlying N,Result.andThen_ok,h1,asAgg,part,Sem.run_pure];rw[HB cx.hT y w];simp only[Result.andThen_ok];cases A:m.agg with
|true =>
  rw[A]at c;simp only[Tc,Sb]at c;subst c;simp only[Tu,Sem.run_bind,ep cx.hT y w,Result.andThen_ok,Sem.run_pure,List.extract_toArray,List.extract_eq_take_drop,SZ]
|false =>
  rw[A]at c;simp only[cond_false]at c;simp[c]
end
end Go.Jog
namespace Go.Jog
open Go
variable {c:UInt8}{d i k:Nat}{s:List UInt8}
def Ej (b:Bool):List UInt8:=if b then [45] else []
def dh:Option (List UInt8)->List UInt8
|none=>[]
|some b=>47::b
def mP (d:Nat):Option (List UInt8):=if d=1 then none else some (bk d)
def qtx (q:Rat):List UInt8:=Ej (decide (q.num<0))++bk q.num.natAbs++dh (mP q.den)
theorem M7 (z:Int):txt z=Ej (decide (z<0))++bk z.natAbs:=by
 unfold txt Ej;by_cases h:z<0
 ·rw[aM h,RJ h];rfl
 rw[aF h,RU h];rfl
theorem qe (q:Rat):qtx q=txt q.num++dh (mP q.den):=by rw[M7];rfl
theorem nD (z:Int):qtx z=txt z:=by
 rw[qe];show txt z++dh (mP 1)=txt z;simp[mP,dh]
theorem oY (h:s[i]?=some c):bP (s.take (i+1))=10*bP (s.take i)+(c.toNat-48):=by
 rw[Il h];omega
theorem mQ (a:∀ c∈s,dT c=true)(d:i<=9):bP (s.take i)<1000000000:=by
 have h1:=dt (s:=s.take i) (fun c b=>a c (SD b));have h2:10 ^ (s.take i).length<=10 ^ 9:=RM dc_ (by rw[RE];omega);omega
def MB (A:List UInt8)(B:Option (List UInt8)):Bool:=decide (A.length<=9) && decide ((B.getD []).length<=9)
def Qp:Option (List UInt8)->Nat
|none=>1
|some b=>bP b
theorem GE (p A r:List UInt8){j:Nat}(h:A[j]?=some c):(p++A++r)[p.length+j]?=some c:=by
 have a:=(aJ.1 h).1;rw[R0,RV om_,SZ,Se a,h]
theorem Cv (p A r:List UInt8)(j:Nat):(p++A++r)[p.length+A.length+j]?=r[j]?:=by
 rw[RV (by rw[Ru];omega),Ru,SZ]
theorem uR (n:Int)(a:d≠0):(mkRat n d).num=n / ((Nat.gcd n.natAbs d:Nat):Int)/\(mkRat n d).den=d / Nat.gcd n.natAbs d:=by
 rw[mkRat,dif_neg a,Rat.normalize_eq];exact⟨U,U⟩
theorem kh (h:d=1):mP d=none:=aM h
theorem eM (h:d≠1):mP d=some (bk d):=aF h
theorem nR (n:Nat):bk n≠[]:=(bl n).1.2.1
theorem iE (n:Nat):∀ c∈bk n,dT c=true:=(bl n).1.1
theorem Df (d:Nat):∀ b,mP d=some b->∀ c∈b,dT c=true:=by
 intro b h;unfold mP at h;split at h
 ·cases h
 cases h;exact iE d
theorem mO (d:Nat):Qp (mP d)=d:=by
 unfold mP;split
 ·rename_i h;exact h.symm
 exact(bl d).2
def QB (k:Nat)(q:Rat):Prop:=q.num.natAbs<B9 ^ k/\q.den<B9 ^ k
theorem QB.le {m:Nat}{q:Rat}(h:QB k q)(a:k<=m):QB m q:=⟨Sq h.1 (RM dc_ a),Sq h.2 (RM dc_ a)⟩
theorem gr {n:Int}(a:d≠0)(b:n.natAbs<B9 ^ k)(c:d<B9 ^ k):QB k (mkRat n d):=by
 obtain⟨h1,h2⟩:=uR n a;refine⟨?_, ?_⟩
 ·rw[h1,Tv (T0.1 (Ta.2 (Ue _ _))),R7];exact Sk (Sv _ _) b
 rw[h2];exact Sk (Sv _ _) c
theorem eW (a b:Rat):a+b=mkRat (a.num*b.den+b.num*a.den) (a.den*b.den):=by
 rw[Rat.add_def,Rat.normalize_eq_mkRat]
theorem eV (a b:Rat):a*b=mkRat (a.num*b.num) (a.den*b.den):=by
 rw[Rat.mul_def,Rat.normalize_eq_mkRat]
end Go.Jog
namespace Go.Jog
open Go
theorem St.arrObj {l:World}{o:Mem}{p:List Ent}{C:Mem}{L:List Ent}{w:World}{b e s m g:Nat}{i:List Value}(h:St l o p C (.arr (s_ b m g) e s m i::L) w) :
  ∃ cs:List Value,cs.length=g*s/\cs.take (m*s)=i/\m<=g/\g<=maxLen/\St l o p C (.obj b (.cells ⟨cs⟩ e (0,0))::L) w:=by
 have t:w.ownsRow 0 e s (s_ b m g) m i:=h.sep.e _ (Rq ..);obtain⟨_,u,v,q,z,A,B⟩:=cS t;have r:=Sy.1 h.sep.d;have j:∀ k,(Ent.obj b (.cells ⟨q.toList⟩ e (0,0))).own k->(Ent.arr (s_ b m g) e s m i).own k:=fun k f=>by
  simp only[Ent.own]at f;subst f;rfl
 refine⟨q.toList,by simpa using A,B,u,v,⟨⟨h.sep.c,fun x a=>?_,Sy.2 ⟨fun y hy k f=>r.1 y hy k (j k f),r.2⟩,fun k ⟨x,a,f⟩=>?_⟩,h.ev,h.c0,h.cn,fun k ⟨x,a,f⟩=>?_⟩⟩
 ·rcases RC.1 a with rfl|a
  ·exact z
  exact h.sep.e x (by simp[a])
 ·rcases RC.1 a with rfl|a
  ·exact h.sep.n k ⟨_,Rq ..,j k f⟩
  exact h.sep.n k ⟨x,by simp[a],f⟩
 rcases RC.1 a with rfl|a
 ·exact h.ln k ⟨_,Rq ..,j k f⟩
 exact h.ln k ⟨x,by simp[a],f⟩
end Go.Jog
namespace Go.Jog
open Go Go.MapKept
def bq (bm n:Nat)(seen:List Nat):Obj:=.mapIter (some bm) n seen.toArray n
theorem jr {b:Type}(a:b->Value):∀ (m:List (b × Value))(i j:Nat),(bI a m i)[j]?=(m[j]?).map fun p=>⟨a p.1,p.2,i+j⟩
|[],i,j=>by simp[bI]
|(k,v)::m,i,0=>by simp[bI]
|(k,v)::m,i,j+1=>by
  simp only[bI,Tb,jr a m (i+1) j];cases m[j]? with
 |none=>rfl
 |some p=>simp;omega
theorem mh {c:Type}{d:c->Value}{m:List (c × Value)}{e:MapEntry}(h:e∈bI d m 0):∃ p,m[e.born]?=some p/\e.key=d p.1/\e.val=p.2:=by
 obtain⟨j,a⟩:=SV h;rw[jr]at a;cases b:m[j]? with
|none=>rw[b]at a;cases a
|some p =>
  rw[b]at a;cases a
  exact⟨p,by simpa using b,U,U⟩
theorem qL {a:Type}(b:a->Value)(m:List (a × Value)):((bI b m 0).map (·.born)).Nodup:=by
 have:∀ (m:List (a × Value))(i:Nat),(bI b m i).map (·.born)=List.range' i m.length:=by
  intro m;induction m with
 |nil=>intro i;rfl
 |cons p m c=>intro i;simp only[bI,R6,c,RH,UY]
 rw[this];exact List.nodup_range'
section
variable {cx:Cx} {n:Nat} {ds:List (Option Nat)} {R:Rg n ds} {its:List It} {fr:Fr} {C:Mem} {L:List Ent} {i k d:Nat} {o:Oper} {g:GL} {v:Value}
variable {kd:TypeDesc} {κ:Type} [DecidableEq κ] (K:KeyT kd κ)
theorem Xm {t j l e:Nat}{x:Operand}{m:List (κ × Value)}{p:TI}(u:C e=some (aY K.enc m))(y:Nat.ble k 1=false)(z:o.dst=some d)(A:gOn ds fr o.guard=true)(B:o.op=.range t x)(f:ev fr [] x=some (.map (some e)))
  (E:cx.T.get t=some p) (F:p.k=.map j l) (G:∀ v,aX n ds ((d,[],v)::fr) d=true)
  (h:∀ b,D cx R its ((d,[],p_ b)::fr) C (.obj b (bq e m.length [])::L)):D cx R ((i,k,o)::its) fr C L :=
 VP (S:=fun v q r=>q=C/\∃ b,v=p_ b/\r=.obj b (bq e m.length [])::L) y z A G (fun a hs w _ s=>by
  have H:w.heap[e]?=some (aY K.enc m):=s.sep.c _ _ u;have I:=gX cx.hT E F;have J:(execOp a.eval o).run cx.P w=.ok (.value (.pointer (some ⟨w.heap.size,0,none⟩))) (w.alloc (bq e m.length [])):=by
   have g:execOp a.eval o=(do Pure.pure (.value (<- Instr.range t (a.eval x))):Sem Next):=by unfold execOp;rw[B]
   rw[g,hs _ _ f];simp only[Sem.run_bind,run_range_map w t j l e _ _ I H,Result.andThen_ok,Sem.run_pure];rfl
  unfold Oper.wp;rw[J];exact⟨_,C,.obj w.heap.size (bq e m.length [])::L,U,Mem.le.refl _,fun _ x f=>by simp[f],St.alloc s _,U,_,U,U⟩)
  (fun v q r _ ⟨g,b,M,N⟩=>by subst g;subst M;subst N;exact h b)
theorem sV {a:Type}{enc:a->Value}{m:List (a × Value)}{b:List Nat}{j:Nat}{p:a × Value}(c:m[j]?=some p)(d:j ∉ b):(⟨enc p.1,p.2,j⟩:MapEntry)∈(leftOf (bI enc m 0).toArray b.toArray).toList:=by
 unfold leftOf;simp only[Array.toList_filter,SY];refine⟨?_, ?_⟩
 ·refine aU (i:=j) ?_;rw[jr,c];simp
 simpa using d
theorem Xs {b q g:Nat}{x:Operand}{m:List (κ × Value)}{f:List Nat}(hc:C g=some (aY K.enc m))(hk:k=3)(hd:o.dst=some d)(hg:gOn ds fr o.guard=true)(aa:o.op=.next x false)(l:ev fr [] x=some (p_ b))
  (hm:L[q]?=some (.obj b (bq g m.length f))) (hp:∀ v,aX n ds ((d,[],v)::fr) d=true)
  (h:∀ (r:Bool)(rest:List Value)(s:List Nat),(r=false/\s=f/\∀ j,j<m.length->j∈f)∨(r=true/\∃ j,j<m.length/\j ∉ f/\s=f++[j]) ->
   D cx R its ((d,[],.tuple ⟨.bool r::rest⟩)::fr) C (.obj b (bq g m.length s)::L.eraseIdx q)):D cx R ((i,k,o)::its) fr C L :=
 VP (S:=fun v M N=>M=C/\∃ (r:Bool)(rest:List Value)(s:List Nat),((r=false/\s=f/\∀ j,j<m.length->j∈f)∨(r=true/\∃ j,j<m.length/\j ∉ f/\s=f++[j]))/\v=.tuple ⟨.bool r::rest⟩/\N=.obj b (bq g m.length s)::L.eraseIdx q) (by subst hk;rfl) hd hg hp (fun a hs w _ O=>by
  have y:=St.perm O (al hm);have z:w.heap[b]?=some (bq g m.length f):=y.sep.e _ (Rq ..);have ab:w.heap[g]?=some (aY K.enc m):=O.sep.c _ _ hc;have t:execOp a.eval o=(do Pure.pure (.value (<- Instr.next (a.eval x) false 0)):Sem Next):=by unfold execOp;rw[aa];rfl
  have hold:∀ x∈(bI K.enc m 0).toArray.toList,x.born<m.length:=fun x l=>by
   obtain⟨p,h1,_⟩:=mh (show x∈bI K.enc m 0 by simpa using l);exact(aJ.1 h1).1
  have ac:∀ w:World,w.heap[b]?=some (bq g m.length f)->(getObj b).run cx.P w=.ok (bq g m.length f) w:=fun w h=>by
   simp only[getObj,Sem.run,h,bq]
  have A:(∀ j,j<m.length->j∈f)/\(Instr.next (p_ b) false 0).run cx.P w=.ok (.tuple #[.bool false]) w ∨
    ∃ (j:Nat)(p:κ × Value)(w1:World),m[j]?=some p/\j ∉ f/\w1.heap=w.heap/\w1.os=w.os/\w1.tape=w.tape/\w1.output=w.output/\w.drawn<=w1.drawn /\
     (Instr.next (p_ b) false 0).run cx.P w=.ok (.tuple #[.bool true,K.enc p.1,p.2]) { w1 with heap:=w1.heap.setIfInBounds b (bq g m.length (f++[j])) }:=by
   have ad:(Instr.next (p_ b) false 0).run cx.P w=(do
     let Q:=(if (leftOf (bI K.enc m 0).toArray f.toArray).isEmpty then #[none] else #[])++(leftOf (bI K.enc m 0).toArray f.toArray).map some
     match Q[<- choose (.mapNext Q.size)]? with
    |some (some e) =>
      setObj b (.mapIter (some g) m.length (f.toArray.push e.born) m.length)
      Pure.pure (Value.tuple #[.bool true,e.key,e.val])
    |some none=>Pure.pure (Value.tuple #[.bool false])
    |none => stuck "Next: no such candidate" : Sem Value).run cx.P w := by
    have T:∀ x∈(leftOf (bI K.enc m 0).toArray f.toArray).toList,x.born<m.length:=fun x l=>hold x (mem_left l).1;have V:(leftOf (bI K.enc m 0).toArray f.toArray).filter (fun x=>decide (x.born<m.length))=leftOf (bI K.enc m 0).toArray f.toArray:=Array.filter_eq_self.2 (fun x l=>by simpa using T x (by simpa using l));have W:(leftOf (bI K.enc m 0).toArray f.toArray).filter (fun x=>decide (x.born ≥ m.length))=#[]:=by
     rw[Array.filter_eq_empty_iff];intro x l;have:=T x (by simpa using l);simp;omega
    unfold Instr.next;simp only[Sem.run_bind,ac w z,Result.andThen_ok,bq];have ae:(getObj g).run cx.P w=.ok (.map (bI K.enc m 0).toArray m.length) w:=Go.MapKept.run_getObj_map ab;simp only[Sem.run_bind,ae,Result.andThen_ok,next_test_false f.toArray (bI K.enc m 0).toArray m.length m.length hold (Ro _),Sn,SX];unfold leftOf at V W⊢;simp only[V,W,Array.append_empty];refine congrArg _ (funext fun a=>funext fun w'=>?_);congr 1
   rw[ad];have X:∀ e∈(leftOf (bI K.enc m 0).toArray f.toArray).toList,∃ p,m[e.born]?=some p/\e.born ∉ f/\e.key=K.enc p.1/\e.val=p.2:=fun e B=>by
    obtain⟨h1,h2⟩:=mem_left B;obtain⟨p,h3,h4,h5⟩:=mh (show e∈bI K.enc m 0 by simpa using h1);exact⟨p,h3,by simpa using h2,h4,h5⟩
   have Y:(leftOf (bI K.enc m 0).toArray f.toArray)=#[]->∀ j,j<m.length->j∈f:=fun B j E=>by
    by_cases hs:j∈f
    ·exact hs
    have:=sV (enc:=K.enc) (ai E) hs;rw[B]at this;cases this
   generalize leftOf (bI K.enc m 0).toArray f.toArray=F at X Y⊢;by_cases h0:F.size=0
   ·have:F=#[]:=Array.eq_empty_of_size_eq_zero h0;subst this;left;refine⟨Y U, ?_⟩;simp[choose,Sem.run,Question.forced]
   right;have af:F.isEmpty=false:=by simp[Array.isEmpty,h0]
   simp only[af,Sn,SX,Array.empty_append,Array.size_map];have ag:∃ (j:Nat)(w1:World),j<F.size/\w1.heap=w.heap/\w1.os=w.os/\w1.tape=w.tape/\w1.output=w.output/\w.drawn<=w1.drawn/\(choose (Question.mapNext F.size)).run cx.P w=.ok j w1:=by
    by_cases Z:F.size<=1
    ·exact⟨0,w,by omega,U,U,U,U,Ro _,by simp[choose,Sem.run,Question.forced,Z]⟩
    exact⟨_,w.drew,R9 _ om_,U,U,U,U,TL _,by
     simp only[choose,Sem.run,Question.forced,Ry,Z,SX,Question.cut];rfl⟩
   obtain⟨j,w1,E,hh,G,H,I,J,A⟩:=ag;obtain⟨p,h1,h2,h3,h4⟩:=X F[j] ak;refine⟨F[j].born,p,w1,h1,h2,hh,G,H,I,J, ?_⟩;have u:(setObj b (.mapIter (some g) m.length (f.toArray.push F[j].born) m.length)).run cx.P w1=.ok () { w1 with heap:=w1.heap.setIfInBounds b (bq g m.length (f++[F[j].born])) }:=by
    have ah:w1.heap[b]?=some (bq g m.length f):=by rw[hh];exact z
    simp only[setObj,Sem.run,ah,bq];simp
   simp only[A,Array.getElem?_map,Array.getElem?_eq_getElem E,S5,Sem.run_bind,Result.andThen_ok,u,Sem.run_pure,h3,h4]
  rw[show a.eval x=p_ b from hs _ _ l]at t;unfold Oper.wp;rw[t];rcases A with⟨h1,hr⟩|⟨j,p,w1,h1,h2,hh,G,H,I,J,hr⟩
  ·simp only[Sem.run_bind,hr,Result.andThen_ok,Sem.run_pure];exact⟨_,C,.obj b (bq g m.length f)::L.eraseIdx q,U,Mem.le.refl _,fun h2=>by omega,y,U,false,[],f,.inl ⟨U,U,h1⟩,U,U⟩
  ·simp only[Sem.run_bind,hr,Result.andThen_ok,Sem.run_pure];have aj:=y.same (w':=w1) G H I hh J;have u:=heap_set (o':=bq g m.length (f++[j])) (show w1.heap[b]?=_ from by rw[hh];exact z);exact⟨_,C,.obj b (bq g m.length (f++[j]))::L.eraseIdx q,U,Mem.le.refl _,fun h2=>by omega,St.put aj u.1 u.2 ak U U U (Ro _),U,true,[K.enc p.1,p.2],_,
    .inr ⟨rfl,j,(aJ.1 h1).1,h2,rfl⟩,rfl,rfl⟩)
  (fun v M N _ ⟨t,r,rest,s,h1,e2,e3⟩=>by subst t;subst e2;subst e3;exact h r rest s h1)
theorem Xp {b f j:Nat}{x:Operand}{m:List (κ × Value)}{l:List Nat}{p:κ × Value}(t:C f=some (aY K.enc m))(u:m[j]?=some p)(v:Ent.obj b (bq f m.length (l++[j]))∈L)(q:k=1)(y:o.dst=some d)(z:o.op=.entry x)(A:gOf ds fr o.guard=some g)(B:ev fr g x=some (p_ b))
  (E:aX n ds ((d,g,.tuple #[K.enc p.1,p.2])::fr) d=true) (F:wfG ds fr g=true)
  (h:D cx R its ((d,g,.tuple #[K.enc p.1,p.2])::fr) C L):D cx R ((i,k,o)::its) fr C L :=
 VQ (by subst q;rfl) y A E F (fun _ a hs T r w s=>by
  have G:w.heap[b]?=some (bq f m.length (l++[j])):=s.sep.e _ ((r q).2 _ v);have H:w.heap[f]?=some (aY K.enc m):=s.sep.c _ _ ((r q).1 _ _ t);have I:(bI K.enc m 0).toArray.find? (·.born == j)=some ⟨K.enc p.1,p.2,j⟩:=by
   rw[<- Array.find?_toList];refine find_born ⟨K.enc p.1,p.2,j⟩ _ (by simpa using qL K.enc m) ?_;refine aU (i:=j) ?_;simp[jr,u]
  have J:(Instr.entry (p_ b)).run cx.P w=.ok (.tuple #[K.enc p.1,p.2]) w:=by
   have M:(getObj f).run cx.P w=.ok (.map (bI K.enc m 0).toArray m.length) w:=Go.MapKept.run_getObj_map H;have N:(getObj b).run cx.P w=.ok (bq f m.length (l++[j])) w:=by simp only[getObj,Sem.run,G,bq]
   unfold Instr.entry;simp only[Sem.run_bind,N,Result.andThen_ok,bq];have O:(l++[j]).toArray.back?=some j:=by simp
   simp only[O,M,Sem.run_bind,Result.andThen_ok,bne_self_eq_false,Sn,SX,I,Sem.run_pure]
  have Q:(execOp a.eval o).run cx.P w=.ok (.value (.tuple #[K.enc p.1,p.2])) w:=by
   have S:execOp a.eval o=(do Pure.pure (.value (<- Instr.entry (a.eval x))):Sem Next):=by unfold execOp;rw[z]
   rw[S,hs _ _ B];simp only[Sem.run_bind,J,Result.andThen_ok,Sem.run_pure]
  unfold Oper.quietAt;rw[Q];exact⟨U,U⟩) h
end
end Go.Jog
namespace Go.Jog
open Go Go.MapKept
structure KeyP (P:Program)(kt:TypeId)(κ:Type)[DecidableEq κ] where
 enc:κ->Value
 check:∀ a em w,(Instr.checkKey em 10000 kt (enc a)).run P w=.ok () w
 ask:∀ x es w,(Instr.findKey kt x es).run P w=(Instr.findAsking kt x es).run P w
 same:∀ a b w,(Op.equal kt (enc a) (enc b)).run P w=.ok (decide (a=b)) w
 stays:∀ a w,(Instr.keyThatStays (enc a) (enc a)).run P w=.ok (enc a) w
section
variable {κ:Type} [DecidableEq κ] {enc:κ->Value}
theorem qK {k:κ}{v:Value}:∀ {m:List (κ × Value)}{i:Nat},kN m k=none->bI enc m i++[⟨enc k,v,i+m.length⟩]=bI enc (iO m k v) i/\(iO m k v).length=m.length+1
|[],i,_=>⟨rfl,rfl⟩
|(d,e)::m,i,h=>by
  simp only[kN]at h;split at h
  ·cases h
  rename_i a;have b:kN m k=none:=by
   cases c:kN m k with
  |none=>rfl
  |some p=>rw[c]at h;cases h
  obtain⟨h1,h2⟩:=qK (i:=i+1) (v:=v) b;simp only[iO,aF a,bI,Tg,RH,h2];refine⟨?_,trivial⟩;rw[<- h1];congr 3;congr 1;omega
theorem qJ {k:κ}{v:Value}:∀ {m:List (κ × Value)}{i q:Nat}{u:Value},kN m k=some (q,u)->(bI enc m i).modify q (fun e=>{ e with key:=enc k,val:=v })=bI enc (iO m k v) i/\(iO m k v).length=m.length/\((bI enc m i)[q]?).map (·.key)=some (enc k)
|[],_,_,_,h=>by cases h
|(c,d)::m,i,q,u,h=>by
  simp only[kN]at h;split at h
  ·rename_i e;subst e;cases h
   simp[bI,iO]
  rename_i b;cases a:kN m k with
 |none=>rw[a]at h;cases h
 |some p =>
   obtain⟨f,g⟩:=p;rw[a]at h;cases h
   obtain⟨h1,h2,h3⟩:=qJ (i:=i+1) (v:=v) a;simp only[iO,aF b,bI,RH,h2,List.modify_succ_cons,h1];exact⟨trivial,trivial,by simpa using h3⟩
end
section
variable {P:Program} {kt:TypeId} {κ:Type} [DecidableEq κ] (K:KeyP P kt κ)
theorem B8 (k:κ)(w:World):∀ (m:List (κ × Value))(i j:Nat),(Instr.findAsking kt (K.enc k) (bI K.enc m i) j).run P w=.ok ((kN m k).map fun p=>(j+p.1,p.2)) w
|[],i,j=>rfl
|(a,v)::m,i,j=>by
  simp only[bI,Instr.findAsking,Sem.run_bind,K.same,Result.andThen_ok];by_cases h:k=a
  ·subst h;simp[kN]
  have b:¬ a=k:=fun e=>h e.symm;simp only[h,decide_false,B8 k w m (i+1) (j+1),kN,aF b,Sn,SX];cases kN m k with
 |none=>rfl
 |some p=>simp;omega
theorem xa (k:κ)(m:List (κ × Value))(i:Nat)(w:World):(Instr.findKey kt (K.enc k) (bI K.enc m i)).run P w=.ok (kN m k) w:=by
 rw[K.ask,B8 K k w m i 0];cases kN m k <;> simp
theorem pU {T:Tab}(c:oK P T=true){t d:Nat}{e f:TI}{a:Bool}(g:T.get t=some e)(h:e.k=.map kt d)(i:T.get d=some f){w:World}{b:Nat}{m:List (κ × Value)}(j:w.heap[b]?=some (aY K.enc m))(y:κ) :
  (Instr.lookup t (.map (some b)) (K.enc y) a).run P w=.ok (mj f.zv a (dY m y)) w:=by
 have l:=gX c g h;have h1:(getObj b).run P w=.ok (.map ⟨bI K.enc m 0⟩ m.length) w:=Go.MapKept.run_getObj_map j;have h2:=xa K y m 0 w;rw[<- qI];unfold Instr.lookup;simp only[Sem.run_bind,run_underlying l,Result.andThen_ok,h1,Sem.run_pure,K.check];rw[h2];cases kN m y with
|none=>cases a <;> simp[mj,uc c i w]
|some p=>cases a <;> simp[mj]
end
section
variable {cx:Cx} {n:Nat} {ds:List (Option Nat)} {R:Rg n ds} {its:List It} {fr:Fr} {C:Mem} {L:List Ent} {i k d:Nat} {o:Oper} {g:GL} {v:Value}
variable {κ:Type} [DecidableEq κ]
theorem WW {b t j l:Nat}(K:KeyP cx.P j κ){x y:Operand}{c:Bool}{m:List (κ × Value)}{f:κ}{p q:TI}(s:Ent.obj b (aY K.enc m)∈L)(r:k=1)(u:o.dst=some d)(z:o.op=.lookup t x y c)(A:gOf ds fr o.guard=some g)(B:ev fr g x=some (.map (some b)))(E:ev fr g y=some (K.enc f))
  (F:cx.T.get t=some p) (G:p.k=.map j l) (H:cx.T.get l=some q) (I:mj q.zv c (dY m f)=v) (J:aX n ds ((d,g,v)::fr) d=true) (M:wfG ds fr g=true)
  (h:D cx R its ((d,g,v)::fr) C L):D cx R ((i,k,o)::its) fr C L :=
 VQ (by subst r;rfl) u A J M (fun _ a hs W N w O=>by
  have Q:w.heap[b]?=some (aY K.enc m):=O.sep.e _ ((N r).2 _ s);have S:(execOp a.eval o).run cx.P w=.ok (.value v) w:=by
   have V:execOp a.eval o=(do Pure.pure (.value (<- Instr.lookup t (a.eval x) (a.eval y) c)):Sem Next):=by unfold execOp;rw[z]
   rw[V,hs _ _ B,hs _ _ E,<- I];simp only[Sem.run_bind,pU K cx.hT F G H Q f,Result.andThen_ok,Sem.run_pure]
  unfold Oper.quietAt;rw[S];exact⟨U,U⟩) h
theorem WX {b t j l:Nat}(K:KeyP cx.P j κ){x y:Operand}{e:Bool}{m:List (κ × Value)}{f:κ}{p q:TI}(s:GT ds fr g->C b=some (aY K.enc m))(r:k=1)(u:o.dst=some d)(z:o.op=.lookup t x y e)(A:gOf ds fr o.guard=some g)(B:ev fr g x=some (.map (some b)))(E:ev fr g y=some (K.enc f))
  (F:cx.T.get t=some p) (G:p.k=.map j l) (H:cx.T.get l=some q) (I:mj q.zv e (dY m f)=v) (J:aX n ds ((d,g,v)::fr) d=true) (M:wfG ds fr g=true)
  (h:D cx R its ((d,g,v)::fr) C L):D cx R ((i,k,o)::its) fr C L :=
 VQ (by subst r;rfl) u A J M (fun N a hs X O w Q=>by
  have S:w.heap[b]?=some (aY K.enc m):=Q.sep.c _ _ ((O r).1 _ _ (s N));have V:(execOp a.eval o).run cx.P w=.ok (.value v) w:=by
   have W:execOp a.eval o=(do Pure.pure (.value (<- Instr.lookup t (a.eval x) (a.eval y) e)):Sem Next):=by unfold execOp;rw[z]
   rw[W,hs _ _ B,hs _ _ E,<- I];simp only[Sem.run_bind,pU K cx.hT F G H S f,Result.andThen_ok,Sem.run_pure]
  unfold Oper.quietAt;rw[V];exact⟨U,U⟩) h
theorem WO {t f A j b:Nat}(K:KeyP cx.P f κ){x y z:Operand}{m:List (κ × Value)}{key:κ}{g:TI}(B:k=3)(E:gOn ds fr o.guard=true)(F:o.dst=none)(G:o.op=.mapUpdate t x y z)
  (H:ev fr [] x=some (.map (some b))) (I:ev fr [] y=some (K.enc key)) (J:ev fr [] z=some v) (M:L[j]?=some (.obj b (aY K.enc m)))
  (N:cx.T.get t=some g) (O:g.k=.map f A)
  (h:D cx R its fr C (.obj b (aY K.enc (iO m key v))::L.eraseIdx j)):D cx R ((i,k,o)::its) fr C L :=
 Wn (S:=fun l L'=>l=C/\L'=.obj b (aY K.enc (iO m key v))::L.eraseIdx j) (by subst B;rfl) E (fun a hs w _ Q=>by
  have n:=St.perm Q (al M);have c:w.heap[b]?=some (aY K.enc m):=n.sep.e _ (Rq ..);have V:=gX cx.hT N O;have h1:(getObj b).run cx.P w=.ok (.map ⟨bI K.enc m 0⟩ m.length) w:=Go.MapKept.run_getObj_map c;have h2:=xa K key m 0 w;have W:(Instr.mapUpdate t (.map (some b)) (K.enc key) v).run cx.P w=.ok () { w with heap:=w.heap.setIfInBounds b (aY K.enc (iO m key v)) }:=by
   unfold Instr.mapUpdate;simp only[Sem.run_bind,run_underlying V,Result.andThen_ok,h1,K.check];rw[h2];cases r:kN m key with
  |none =>
    obtain⟨h3,h4⟩:=qK (enc:=K.enc) (v:=v) (i:=0) r;simp only[Result.andThen_ok];rw[Go.MapKept.run_setObj_map (P:=cx.P) _ c];congr 2;simp only[aY,h4,<- h3,SP];congr 2;apply Te;simp
  |some p =>
    obtain⟨q,u⟩:=p;obtain⟨h3,h4,h5⟩:=qJ (enc:=K.enc) (v:=v) (i:=0) r;have X:(((⟨bI K.enc m 0⟩:Array MapEntry)[q]?).map (·.key)).getD (K.enc key)=K.enc key:=by
     show(((bI K.enc m 0).toArray[q]?).map (·.key)).getD (K.enc key)=K.enc key;rw[SS,h5];rfl
    simp only[Result.andThen_ok,Sem.run_bind];rw[X,K.stays];simp only[Result.andThen_ok];rw[Go.MapKept.run_setObj_map (P:=cx.P) _ c];congr 2;simp only[aY,h4,<- h3];congr 2;apply Te;simp
  have Y:(execOp a.eval o).run cx.P w=.ok .skip { w with heap:=w.heap.setIfInBounds b (aY K.enc (iO m key v)) }:=by
   have d:execOp a.eval o=(do Instr.mapUpdate t (a.eval x) (a.eval y) (a.eval z);Pure.pure .skip:Sem Next):=by unfold execOp;rw[G]
   rw[d,hs _ _ H,hs _ _ I,hs _ _ J];simp only[Sem.run_bind,W,Result.andThen_ok,Sem.run_pure]
  unfold Oper.wp;rw[Y];have s:=heap_set (o':=aY K.enc (iO m key v)) c;refine⟨C,.obj b (aY K.enc (iO m key v))::L.eraseIdx j, ?_,Mem.le.refl _,fun h2=>by omega,St.put n s.1 s.2 ak U U U (Ro _),U,U⟩;rw[F];rfl)
  (fun l L' _ ⟨d,Z⟩=>by subst d;subst Z;exact h)
end
end Go.Jog
namespace Go.Jog
open Go Go.MapKept
section
variable {cx:Cx} {n:Nat} {ds:List (Option Nat)} {R:Rg n ds} {its:List It} {fr:Fr} {C:Mem} {L:List Ent} {i k d:Nat} {o:Oper} {g:GL} {v:Value}
variable {κ:Type} (enc:κ->Value)
theorem WQ {t j l e:Nat}{x:Operand}{m:List (κ × Value)}{p:TI}(u:C e=some (aY enc m))(y:Nat.ble k 1=false)(z:o.dst=some d)(A:gOn ds fr o.guard=true)(B:o.op=.range t x)(f:ev fr [] x=some (.map (some e)))
  (E:cx.T.get t=some p) (F:p.k=.map j l) (G:∀ v,aX n ds ((d,[],v)::fr) d=true)
  (h:∀ b,D cx R its ((d,[],p_ b)::fr) C (.obj b (bq e m.length [])::L)):D cx R ((i,k,o)::its) fr C L :=
 VP (S:=fun v q r=>q=C/\∃ b,v=p_ b/\r=.obj b (bq e m.length [])::L) y z A G (fun a hs w _ s=>by
  have H:w.heap[e]?=some (aY enc m):=s.sep.c _ _ u;have I:=gX cx.hT E F;have J:(execOp a.eval o).run cx.P w=.ok (.value (.pointer (some ⟨w.heap.size,0,none⟩))) (w.alloc (bq e m.length [])):=by
   have g:execOp a.eval o=(do Pure.pure (.value (<- Instr.range t (a.eval x))):Sem Next):=by unfold execOp;rw[B]
   rw[g,hs _ _ f];simp only[Sem.run_bind,run_range_map w t j l e _ _ I H,Result.andThen_ok,Sem.run_pure];rfl
  unfold Oper.wp;rw[J];exact⟨_,C,.obj w.heap.size (bq e m.length [])::L,U,Mem.le.refl _,fun _ x f=>by simp[f],St.alloc s _,U,_,U,U⟩)
  (fun v q r _ ⟨g,b,K,M⟩=>by subst g;subst K;subst M;exact h b)
theorem WT {b q g:Nat}{x:Operand}{m:List (κ × Value)}{f:List Nat}(Z:C g=some (aY enc m))(hk:k=3)(hd:o.dst=some d)(hg:gOn ds fr o.guard=true)(aa:o.op=.next x false)(l:ev fr [] x=some (p_ b))
  (hm:L[q]?=some (.obj b (bq g m.length f))) (hp:∀ v,aX n ds ((d,[],v)::fr) d=true)
  (h:∀ (r:Bool)(rest:List Value)(s:List Nat),(r=false/\s=f/\∀ j,j<m.length->j∈f)∨(r=true/\∃ j,j<m.length/\j ∉ f/\s=f++[j]) ->
   D cx R its ((d,[],.tuple ⟨.bool r::rest⟩)::fr) C (.obj b (bq g m.length s)::L.eraseIdx q)):D cx R ((i,k,o)::its) fr C L :=
 VP (S:=fun v K M=>K=C/\∃ (r:Bool)(rest:List Value)(s:List Nat),((r=false/\s=f/\∀ j,j<m.length->j∈f)∨(r=true/\∃ j,j<m.length/\j ∉ f/\s=f++[j]))/\v=.tuple ⟨.bool r::rest⟩/\M=.obj b (bq g m.length s)::L.eraseIdx q) (by subst hk;rfl) hd hg hp (fun a hs w _ N=>by
  have y:=St.perm N (al hm);have z:w.heap[b]?=some (bq g m.length f):=y.sep.e _ (Rq ..);have ab:w.heap[g]?=some (aY enc m):=N.sep.c _ _ Z;have t:execOp a.eval o=(do Pure.pure (.value (<- Instr.next (a.eval x) false 0)):Sem Next):=by unfold execOp;rw[aa];rfl
  have hold:∀ x∈(bI enc m 0).toArray.toList,x.born<m.length:=fun x l=>by
   obtain⟨p,h1,_⟩:=mh (show x∈bI enc m 0 by simpa using l);exact(aJ.1 h1).1
  have ac:∀ w:World,w.heap[b]?=some (bq g m.length f)->(getObj b).run cx.P w=.ok (bq g m.length f) w:=fun w h=>by
   simp only[getObj,Sem.run,h,bq]
  have A:(∀ j,j<m.length->j∈f)/\(Instr.next (p_ b) false 0).run cx.P w=.ok (.tuple #[.bool false]) w ∨
    ∃ (j:Nat)(p:κ × Value)(w1:World),m[j]?=some p/\j ∉ f/\w1.heap=w.heap/\w1.os=w.os/\w1.tape=w.tape/\w1.output=w.output/\w.drawn<=w1.drawn /\
     (Instr.next (p_ b) false 0).run cx.P w=.ok (.tuple #[.bool true,enc p.1,p.2]) { w1 with heap:=w1.heap.setIfInBounds b (bq g m.length (f++[j])) }:=by
   have ad:(Instr.next (p_ b) false 0).run cx.P w=(do
     let O:=(if (leftOf (bI enc m 0).toArray f.toArray).isEmpty then #[none] else #[])++(leftOf (bI enc m 0).toArray f.toArray).map some
     match O[<- choose (.mapNext O.size)]? with
    |some (some e) =>
      setObj b (.mapIter (some g) m.length (f.toArray.push e.born) m.length)
      Pure.pure (Value.tuple #[.bool true,e.key,e.val])
    |some none=>Pure.pure (Value.tuple #[.bool false])
    |none => stuck "Next: no such candidate" : Sem Value).run cx.P w := by
    have Q:∀ x∈(leftOf (bI enc m 0).toArray f.toArray).toList,x.born<m.length:=fun x l=>hold x (mem_left l).1;have T:(leftOf (bI enc m 0).toArray f.toArray).filter (fun x=>decide (x.born<m.length))=leftOf (bI enc m 0).toArray f.toArray:=Array.filter_eq_self.2 (fun x l=>by simpa using Q x (by simpa using l));have V:(leftOf (bI enc m 0).toArray f.toArray).filter (fun x=>decide (x.born ≥ m.length))=#[]:=by
     rw[Array.filter_eq_empty_iff];intro x l;have:=Q x (by simpa using l);simp;omega
    unfold Instr.next;simp only[Sem.run_bind,ac w z,Result.andThen_ok,bq];have ae:(getObj g).run cx.P w=.ok (.map (bI enc m 0).toArray m.length) w:=Go.MapKept.run_getObj_map ab;simp only[Sem.run_bind,ae,Result.andThen_ok,next_test_false f.toArray (bI enc m 0).toArray m.length m.length hold (Ro _),Sn,SX];unfold leftOf at T V⊢;simp only[T,V,Array.append_empty];refine congrArg _ (funext fun a=>funext fun w'=>?_);congr 1
   rw[ad];have W:∀ e∈(leftOf (bI enc m 0).toArray f.toArray).toList,∃ p,m[e.born]?=some p/\e.born ∉ f/\e.key=enc p.1/\e.val=p.2:=fun e B=>by
    obtain⟨h1,h2⟩:=mem_left B;obtain⟨p,h3,h4,h5⟩:=mh (show e∈bI enc m 0 by simpa using h1);exact⟨p,h3,by simpa using h2,h4,h5⟩
   have X:(leftOf (bI enc m 0).toArray f.toArray)=#[]->∀ j,j<m.length->j∈f:=fun B j E=>by
    by_cases hs:j∈f
    ·exact hs
    have:=sV (enc:=enc) (ai E) hs;rw[B]at this;cases this
   generalize leftOf (bI enc m 0).toArray f.toArray=F at W X⊢;by_cases h0:F.size=0
   ·have:F=#[]:=Array.eq_empty_of_size_eq_zero h0;subst this;left;refine⟨X U, ?_⟩;simp[choose,Sem.run,Question.forced]
   right;have af:F.isEmpty=false:=by simp[Array.isEmpty,h0]
   simp only[af,Sn,SX,Array.empty_append,Array.size_map];have ag:∃ (j:Nat)(w1:World),j<F.size/\w1.heap=w.heap/\w1.os=w.os/\w1.tape=w.tape/\w1.output=w.output/\w.drawn<=w1.drawn/\(choose (Question.mapNext F.size)).run cx.P w=.ok j w1:=by
    by_cases Y:F.size<=1
    ·exact⟨0,w,by omega,U,U,U,U,Ro _,by simp[choose,Sem.run,Question.forced,Y]⟩
    exact⟨_,w.drew,R9 _ om_,U,U,U,U,TL _,by
     simp only[choose,Sem.run,Question.forced,Ry,Y,SX,Question.cut];rfl⟩
   obtain⟨j,w1,E,hh,G,H,I,J,A⟩:=ag;obtain⟨p,h1,h2,h3,h4⟩:=W F[j] ak;refine⟨F[j].born,p,w1,h1,h2,hh,G,H,I,J, ?_⟩;have u:(setObj b (.mapIter (some g) m.length (f.toArray.push F[j].born) m.length)).run cx.P w1=.ok () { w1 with heap:=w1.heap.setIfInBounds b (bq g m.length (f++[F[j].born])) }:=by
    have ah:w1.heap[b]?=some (bq g m.length f):=by rw[hh];exact z
    simp only[setObj,Sem.run,ah,bq];simp
   simp only[A,Array.getElem?_map,Array.getElem?_eq_getElem E,S5,Sem.run_bind,Result.andThen_ok,u,Sem.run_pure,h3,h4]
  rw[show a.eval x=p_ b from hs _ _ l]at t;unfold Oper.wp;rw[t];rcases A with⟨h1,hr⟩|⟨j,p,w1,h1,h2,hh,G,H,I,J,hr⟩
  ·simp only[Sem.run_bind,hr,Result.andThen_ok,Sem.run_pure];exact⟨_,C,.obj b (bq g m.length f)::L.eraseIdx q,U,Mem.le.refl _,fun h2=>by omega,y,U,false,[],f,.inl ⟨U,U,h1⟩,U,U⟩
  ·simp only[Sem.run_bind,hr,Result.andThen_ok,Sem.run_pure];have aj:=y.same (w':=w1) G H I hh J;have u:=heap_set (o':=bq g m.length (f++[j])) (show w1.heap[b]?=_ from by rw[hh];exact z);exact⟨_,C,.obj b (bq g m.length (f++[j]))::L.eraseIdx q,U,Mem.le.refl _,fun h2=>by omega,St.put aj u.1 u.2 ak U U U (Ro _),U,true,[enc p.1,p.2],_,
    .inr ⟨rfl,j,(aJ.1 h1).1,h2,rfl⟩,rfl,rfl⟩)
  (fun v K M _ ⟨t,r,rest,s,h1,e2,e3⟩=>by subst t;subst e2;subst e3;exact h r rest s h1)
theorem WR {b f j:Nat}{x:Operand}{m:List (κ × Value)}{l:List Nat}{p:κ × Value}(t:C f=some (aY enc m))(u:m[j]?=some p)(v:Ent.obj b (bq f m.length (l++[j]))∈L)(q:k=1)(y:o.dst=some d)(z:o.op=.entry x)(A:gOf ds fr o.guard=some g)(B:ev fr g x=some (p_ b))
  (E:aX n ds ((d,g,.tuple #[enc p.1,p.2])::fr) d=true) (F:wfG ds fr g=true)
  (h:D cx R its ((d,g,.tuple #[enc p.1,p.2])::fr) C L):D cx R ((i,k,o)::its) fr C L :=
 VQ (by subst q;rfl) y A E F (fun _ a hs S r w s=>by
  have G:w.heap[b]?=some (bq f m.length (l++[j])):=s.sep.e _ ((r q).2 _ v);have H:w.heap[f]?=some (aY enc m):=s.sep.c _ _ ((r q).1 _ _ t);have I:(bI enc m 0).toArray.find? (·.born == j)=some ⟨enc p.1,p.2,j⟩:=by
   rw[<- Array.find?_toList];refine find_born ⟨enc p.1,p.2,j⟩ _ (by simpa using qL enc m) ?_;refine aU (i:=j) ?_;simp[jr,u]
  have J:(Instr.entry (p_ b)).run cx.P w=.ok (.tuple #[enc p.1,p.2]) w:=by
   have K:(getObj f).run cx.P w=.ok (.map (bI enc m 0).toArray m.length) w:=Go.MapKept.run_getObj_map H;have M:(getObj b).run cx.P w=.ok (bq f m.length (l++[j])) w:=by simp only[getObj,Sem.run,G,bq]
   unfold Instr.entry;simp only[Sem.run_bind,M,Result.andThen_ok,bq];have N:(l++[j]).toArray.back?=some j:=by simp
   simp only[N,K,Sem.run_bind,Result.andThen_ok,bne_self_eq_false,Sn,SX,I,Sem.run_pure]
  have O:(execOp a.eval o).run cx.P w=.ok (.value (.tuple #[enc p.1,p.2])) w:=by
   have Q:execOp a.eval o=(do Pure.pure (.value (<- Instr.entry (a.eval x))):Sem Next):=by unfold execOp;rw[z]
   rw[Q,hs _ _ B];simp only[Sem.run_bind,J,Result.andThen_ok,Sem.run_pure]
  unfold Oper.quietAt;rw[O];exact⟨U,U⟩) h
end
end Go.Jog
namespace Go.Jog
open Go Go.MapKept
variable {P:Program}{kt:TypeId}
def rk (p:Int × Int):Value:=.agg ⟨[.int .i64 p.1,.int .i64 p.2]⟩
theorem vK {e:TypeId}(d:P.underlying kt=some (.array 2 e))(b:P.underlying e=some (.int .i64)){i:TypeInfo}(f:P.info? e=some i)(g:i.size=1)(p:Int × Int)(a:Bool)(w:World) :
  (Instr.checkKey a 10000 kt (rk p)).run P w=.ok () w:=by
 have k:∀ z:Int,(Instr.checkKey a (9998+1) e (i_ z)).run P w=.ok () w:=fun z=>run_checkKey b (by simp[IsKey]) a 9998;show(Instr.checkKey a (9999+1) kt (rk p)).run P w=_;unfold Instr.checkKey;simp only[Sem.run_bind,run_underlying d,Result.andThen_ok,rk];have c:∀ (z:Int)(xs:Array Value)(j:Nat),xs[j]?=some (i_ z)->(part e xs j).run P w=.ok (i_ z) w:=fun z xs j h=>by
  unfold part;simp only[Sem.run_bind,fL b rfl w,Result.andThen_ok,Sn,SX,h,Sem.run_pure]
 have l:(sizeOf e).run P w=.ok 1 w:=by simp[sizeOf,typeInfo,f,g]
 have m:=c p.1 ⟨[i_ p.1,i_ p.2]⟩ 0 rfl;have n:=c p.2 ⟨[i_ p.1,i_ p.2]⟩ 1 rfl;rw[Std.Legacy.Range.forIn_eq_forIn_range'];simp[Std.Legacy.Range.size,List.range',l,m,n,k]
theorem wN {a:List Value}(h:Instr.sameBits 10000 (.agg ⟨a⟩) (.agg ⟨a⟩)=true)(w:World):(Instr.keyThatStays (.agg ⟨a⟩) (.agg ⟨a⟩)).run P w=.ok (.agg ⟨a⟩) w:=by
 simp[Instr.keyThatStays,h]
theorem BA (b:(match P.underlying kt with|some (.array _ _)|some (.struct _)=>true|_=>false)=true)(x:Value)(a:List MapEntry)(w:World):(Instr.findKey kt x a).run P w=(Instr.findAsking kt x a).run P w:=run_findKey_eq w b x a
def Q9 {P:Program}{kt e:TypeId}(hu:P.underlying kt=some (.array 2 e))(he:P.underlying e=some (.int .i64))(hi:(P.info? e).map (·.size)=some 1)(ht:Ao P kt=true):KeyP P kt (Int × Int) where
 enc:=rk
 check p em w:=by
  obtain⟨i,h1,h2⟩:=Option.map_eq_some_iff.1 hi;exact vK hu he h1 h2 p em w
 ask x es w:=BA (by rw[hu]) x es w
 same a b w:=by
  have h:=Ea (P:=P) ht (xs:=[.int .i64 a.1,.int .i64 a.2]) (ys:=[.int .i64 b.1,.int .i64 b.2]) (by unfold Ra;rw[hu];show(Nat.beq 2 2 && List.all _ (fun x=>tz (P.underlying e) x))=true;rw[he];rfl) (b:=decide (a=b)) (by
   obtain⟨a1,a2⟩:=a;obtain⟨b1,b2⟩:=b;simp[kD,Nm];by_cases h1:a1=b1 <;> by_cases h2:a2=b2 <;> simp[h1,h2]) w
  exact h
 stays a w:=wN (by simp[Instr.sameBits]) w
def EP (p:List UInt8 × List UInt8):Value:=.agg ⟨[ae p.1,ae p.2]⟩
theorem vJ   {a b : Field} (k : P.underlying kt = some (.struct #[a, b])) (d : P.underlying a.type = some .string) (e : P.underlying b.type = some .string) (l : a.name ≠ "_") (m : b.name ≠ "_") (n : a.offset = 0) (o : b.offset = 1) (p : List UInt8 × List UInt8) (c : Bool) (w : World) :
  (Instr.checkKey c 10000 kt (EP p)).run P w=.ok () w:=by
 have g:∀ (f:Field)(s:List UInt8),P.underlying f.type=some .string->(Instr.checkKey c (9998+1) f.type (ae s)).run P w=.ok () w:=fun f s h=>run_checkKey h (by simp[IsKey,ae]) c 9998;have i:∀ (f:Field)(s:List UInt8)(xs:Array Value)(j:Nat),P.underlying f.type=some .string->xs[j]?=some (ae s)->(part f.type xs j).run P w=.ok (ae s) w:=fun f s xs j q h=>by
  unfold part;simp only[Sem.run_bind,fL q rfl w,Result.andThen_ok,Sn,SX,h,Sem.run_pure]
 have r:=i a p.1 ⟨[ae p.1,ae p.2]⟩ 0 d rfl;have t:=i b p.2 ⟨[ae p.1,ae p.2]⟩ 1 e rfl;have k0:=g a p.1 d;have k1:=g b p.2 e;show(Instr.checkKey c (9999+1) kt (EP p)).run P w=_;unfold Instr.checkKey;simp only[Sem.run_bind,run_underlying k,Result.andThen_ok,EP];simp[l,m,n,o,r,t,k0,k1]
def Q8 {P : Program} {kt : TypeId} {f0 f1 : Field} (hu : P.underlying kt = some (.struct #[f0, f1])) (h0 : P.underlying f0.type = some .string) (h1 : P.underlying f1.type = some .string) (hn0 : f0.name ≠ "_") (hn1 : f1.name ≠ "_") (ho0 : f0.offset = 0) (ho1 : f1.offset = 1) (ht : tx P kt = true) : KeyP P kt (List UInt8 × List UInt8) where
 enc:=EP
 check p em w:=vJ hu h0 h1 hn0 hn1 ho0 ho1 p em w
 ask x es w:=BA (by rw[hu]) x es w
 same a b w:=by
  have h:=pV (P:=P) ht (xs:=[ae a.1,ae a.2]) (ys:=[ae b.1,ae b.2]) (by unfold QH;rw[hu];show K1 P [f0,f1] _=true;unfold K1;rw[h0];unfold K1;rw[h1];rfl) (b:=decide (a=b)) (by
   obtain⟨a1,a2⟩:=a;obtain⟨b1,b2⟩:=b;simp[kD,Nm,ae];by_cases h1:a1=b1 <;> by_cases h2:a2=b2 <;> simp[h1,h2]) w
  exact h
 stays a w:=wN (by simp[Instr.sameBits,ae,FT]) w
section
variable {cx:Cx} {n:Nat} {ds:List (Option Nat)} {R:Rg n ds} {its:List It} {fr:Fr} {C:Mem} {L:List Ent} {i k d:Nat} {o:Oper} {g:GL} {v:Value} {κ:Type} [DecidableEq κ]
theorem WV {t c:Nat}(K:KeyP cx.P c κ)(e:Nat.ble k 1=false)(g:o.dst=some d)(j:gOn ds fr o.guard=true)(l:o.op=.makeMap t none)(m:∀ v,aX n ds ((d,[],v)::fr) d=true)
  (h:∀ b,D cx R its ((d,[],.map (some b))::fr) C (.obj b (aY K.enc [])::L)):D cx R ((i,k,o)::its) fr C L :=
 Ws (f:=fun b=>.map (some b)) (ob:=aY K.enc []) e g j m (fun a _ w=>by
  have p:execOp a.eval o=(do Pure.pure (.value (<- Instr.makeMap t none)):Sem Next):=by unfold execOp;rw[l];rfl
  rw[p];rfl) h
end
end Go.Jog
namespace Go.Jog
open Go
section
variable {F:Fx} {k:List KI} {fr:Fr} {C:Mem} {L:List Ent}
theorem XS {d:Cx}{j:Func}{n:Nat}{f:World}{C k:Mem}{g b:List Ent}{l:Value->Mem->List Ent->Prop}{W:Cw d.P}{c:Fr}{A:Fr->List Ent->Prop}(m:Has fr c)(h:A c b) :
  G ⟨d,j,n,⟨f,C,g⟩,l,W,[],fun e a w'=>e=.normal/\∃ i b,A i b/\FrOk n [] [] i a/\St f C g C b w'⟩ [] .normal fr k b:=fun o _ _ p q =>
 ⟨rfl,c,b,h,p.weaken m.sub,St.less q l_ o⟩
end
end Go.Jog
namespace Go.Jog
open Go
section
variable {F:Fx} {k:List KI} {fr:Fr} {C:Mem} {L:List Ent}
def IAD (F:Fx)(I:List Deferred->Fr->Mem->List Ent->Nat->Prop)(C:Mem)(m:Nat)(a:Act)(w:World):Prop :=
 ∃ dd fr C' L',C.le C'/\I dd fr C' L' m/\FrOk F.n [] dd fr a/\F.b.cls (C',L') w
theorem XP {c:Code}(I:List Deferred->Fr->Mem->List Ent->Nat->Prop){m:Nat}{b:Fr}(i:Has fr b)(j:I F.dd b C L m)
  (l:∀ dd fr d f m,C.le d->I dd fr d f m->G { F with dd:=dd } (kM 64 (.code c::.inv (fun a w=>∃ g,g<m/\IAD F I C g a w)::k)) .normal fr d f):G F (.code (.loop c)::k) .normal fr C L:=fun h0 a w n o=>by
 simp only[Kq];refine sj F.W (IAD F I C) ⟨F.dd,b,C,L,Mem.le.refl _,j,n.weaken i.sub,o⟩ (fun m a w ⟨p,r,s,t,h,u,v,x⟩=>?_);have h1:=VS 64 (l p r s t m h u) (h0.trans h) a w v x;rw[E6]at h1;refine F.W.mono (fun e a w q=>?_) h1;cases e <;> exact q
theorem XN {b:List Deferred}{I:List Deferred->Fr->Mem->List Ent->Nat->Prop}{d:Mem}{m m':Nat}{c:Fr}(e:m'<m)(f:d.le C)(g:Has fr c)(h:I b c C L m') :
  G { F with dd:=b } (.inv (fun a w=>∃ m',m'<m/\IAD F I d m' a w)::k) .normal fr C L:=fun _ _l _n i j =>
 ⟨m',e,b,c,C,L,f,h,i.weaken g.sub,j⟩
theorem XR {g:Operand}{p0 p1:Nat}{assign body:Code}{gf:FuncId}{lb:Array Value}{vss:List (Value × Value)}(hW:F.W=Cw.plain F.cx.P)
  (hg:ev fr [] g=some (.func (.func gf) #[] lb)) (hen:Enters F.cx.P gf=true) (hseq:QK F.cx.P gf lb C vss) (I:Nat->List Ent->Prop) (h0:I 0 L) (_hp:fr.all (fun x=>x.2.1.isEmpty)=true)
  (hok:∀ u v,(aX F.n [] ((p0,[],u)::fr) p0 && aX F.n [] ((p1,[],v)::(p0,[],u)::fr) p1)=true) (A:Nat->List Ent->Fr->List Ent->Prop)
  (hassign:∀ l j u v L' W1,I j L'->vss[j]?=some (u,v)->G ⟨F.cx,F.fn,F.n,⟨W1,C,L'⟩,F.post,Cw.round F.cx.P l 1,[],fun e a w'=>e=.normal/\∃ frA LA,A j L' frA LA/\FrOk F.n [] [] frA a/\St W1 C L' C LA w'⟩ (kM 64 [.code assign]) .normal ((p1,[],v)::(p0,[],u)::fr) C L')
  (hbody:∀ l j u v L' frA LA W1,I j L'->vss[j]?=some (u,v)->A j L' frA LA ->
   G ⟨F.cx,F.fn,F.n,⟨W1,C,LA⟩,F.post,Cw.round F.cx.P l 1,[],fun e _ w'=>e=.normal/\∃ L1,I (j+1) L1/\St W1 C LA C L1 w'⟩ (kM 64 [.code body]) .normal frA C LA)
  (hdone:∀ D L',I vss.length L'->G { F with dd:={ target:=.collected D,args:=#[] }::F.dd } (kM 64 k) .normal fr C (.obj D (.deferred (some []))::L')) :
  G F (.code (.rangeFunc g #[p0,p1] assign body)::k) .normal fr C L:=fun hle a w ha hw=>by
 simp only[Kq,hW];show(Code.rangeFunc g #[p0,p1] assign body).wp F.cx.P (Kq F k) a w;refine(wpIn_wide (n:=3)).1 (wpIn_rangeFunc fun fn _=>?_);have hga:a.eval g=.func (.func gf) #[] lb:=bN ha (fun p hp=>by cases hp) hg;obtain⟨rec,hrec⟩:∃ rec:LoopState->Loop,rec=fun st=>{ state:=st,pending:=none,fn,tmps:=a.tmps,params:=#[p0,p1],assign,body,defers:=w.heap.size }:=⟨_,rfl⟩;obtain⟨W1,hW1⟩:∃ W1,(w.alloc (.deferred (some []))).alloc (.loop (rec .ready))=W1:=⟨_,rfl⟩;have hS1:St F.b.w0 F.b.C0 F.b.L0 C (.obj (w.heap.size+1) (.loop (rec .ready))::.obj w.heap.size (.deferred (some []))::L) W1:=by
  have:=St.alloc (St.alloc hw (.deferred (some []))) (.loop (rec .ready));rw[World.size_alloc]at this;rw[<- hW1];exact this
 refine⟨w.heap.size+1,[{ target:=.collected w.heap.size,args:=#[] }],W1,{ target:=.fn (.func gf) lb,args:=#[.func (.yield (w.heap.size+1)) #[] #[]] },W1,gf,
  #[.func (.yield (w.heap.size+1)) #[] #[]]++lb,W1, ?_, ?_,fun _ _=>trivial, ?_,fun _=>by decide, ?_⟩
 ·rw[<- hW1,hrec];exact run_enterLoop_outer _ _ _ _ _
 ·simp only[resolve,hga];simp[go_sem]
 ·simp[invoke,go_sem,gl hen]
 refine(hseq (w.heap.size+1) (fun j W=>∃ L',I j L'/\St F.b.w0 F.b.C0 F.b.L0 C (.obj (w.heap.size+1) (.loop (rec .ready))::.obj w.heap.size (.deferred (some []))::L') W) W1
  (fun j W ⟨L',_,hs⟩=>hs.sep.c) (fun j W ⟨L',hi,hs⟩=>⟨L',hi,hs.drew⟩) ?_ ⟨L,h0,hS1⟩).mono ?_
 ·rintro j ⟨u,v⟩ W ⟨L',hi,hs⟩ hj;have hl:W.heap[w.heap.size+1]?=some (.loop (rec .ready)):=hs.sep.e _ (Rq ..);have hy:=run_yield (P:=F.cx.P) (args:=#[u,v]) hl (by rw[hrec];rfl);rw[hrec]at hy;have hz:(#[p0,p1].zip #[u,v]).foldl (fun tmps (x:Nat × Value)=>match x with|(t,a)=>tmps.setIfInBounds t a) a.tmps=(a.tmps.setIfInBounds p0 u).setIfInBounds p1 v:=by simp
  dsimp only at hy;rw[hz]at hy;refine⟨fn,_,assign,body,hy,roundIn_of_wpIn trivial ?_⟩;have hfr:FrOk F.n [] [] ((p1,[],v)::(p0,[],u)::fr) { tmps:=(a.tmps.setIfInBounds p0 u).setIfInBounds p1 v,defers:=[] }:=by
   have hk:=hok u v;rw[RG]at hk;have h1:=FrOk.put (u:=u) (FrOk.mk (dd:=F.dd) ha.size ha.defers ha.ent:FrOk F.n [] F.dd fr a) hk.1 ⟨fun _=>rfl,fun hn=>absurd (fun p hp=>by cases hp) hn⟩;have h2:=FrOk.put (u:=v) h1 hk.2 ⟨fun _=>rfl,fun hn=>absurd (fun p hp=>by cases hp) hn⟩;exact⟨h2.size,U,h2.ent⟩
  have hA:=WB (hassign (w.heap.size+1) j u v L' W hi hj) l_ hfr (St.start hs.drop.drop.sep);refine wpIn_mono hA (fun e a1 W2 q=>?_);obtain⟨rfl,frA,LA,hAA,hfr1,hs1⟩:=q;have hs2a:=St.call (Lp:=L') (Lr:=[.obj (w.heap.size+1) (.loop (rec .ready)),.obj w.heap.size (.deferred (some []))]) (St.perm hs (Su (l₁:=[_,_]))) hs1;have hs2:St F.b.w0 F.b.C0 F.b.L0 C (.obj (w.heap.size+1) (.loop (rec .ready))::.obj w.heap.size (.deferred (some []))::LA) W2:=St.perm hs2a (Su (l₂:=[_,_]));have hl2:W2.heap[w.heap.size+1]?=some (.loop (rec .ready)):=hs2.sep.e _ (Rq ..);refine⟨_,run_beginRound hl2 (by rw[hrec]), ?_⟩;have hs3:St F.b.w0 F.b.C0 F.b.L0 C (.obj (w.heap.size+1) (.loop (rec .busy))::.obj w.heap.size (.deferred (some []))::LA) (W2.putObj (w.heap.size+1) (.loop { rec .ready with state:=.busy })):=by
   have:=St.putObj (o':=.loop { rec .ready with state:=.busy }) hs2;rw[hrec]at this⊢;exact this
  have hB:=WB (hbody (w.heap.size+1) j u v L' frA LA (W2.putObj (w.heap.size+1) (.loop { rec .ready with state:=.busy })) hi hj hAA) l_ hfr1 (St.start hs3.drop.drop.sep);refine wpIn_mono hB (fun e a2 W4 q=>?_);obtain⟨rfl,L1,hi1,hs4⟩:=q;have hs5:=St.call (Lp:=LA) (Lr:=[.obj (w.heap.size+1) (.loop (rec .busy)),.obj w.heap.size (.deferred (some []))]) (St.perm hs3 (Su (l₁:=[_,_]))) hs4;have hs6:St F.b.w0 F.b.C0 F.b.L0 C (.obj (w.heap.size+1) (.loop (rec .busy))::.obj w.heap.size (.deferred (some []))::L1) W4:=St.perm hs5 (Su (l₂:=[_,_]));have hl4:W4.heap[w.heap.size+1]?=some (.loop (rec .busy)):=hs6.sep.e _ (Rq ..);refine⟨_,_,run_endRound none hl4,U,L1,hi1, ?_⟩;have:=St.putObj (o':=.loop { rec .busy with state:=if (none:Option Code).isNone then .ready else .done,pending:=none }) hs6;rw[hrec]at this⊢;exact this
 rintro e W2 ⟨⟨v,rfl⟩,L',hi,hs⟩;have hl:W2.heap[w.heap.size+1]?=some (.loop (rec .ready)):=hs.sep.e _ (Rq ..);refine⟨none,_,by have:=run_endLoop (P:=F.cx.P) hl (by rw[hrec];simp);rw[hrec]at this;exact this, ?_⟩;have hs2:St F.b.w0 F.b.C0 F.b.L0 C (.obj w.heap.size (.deferred (some []))::L') (W2.putObj (w.heap.size+1) (.loop { rec .ready with state:=.exhausted })):=(St.putObj hs).drop;have:=VS 64 (hdone w.heap.size L' hi) hle { a with defers:=[{ target:=.collected w.heap.size,args:=#[] }]++a.defers } _ ⟨ha.size,by rw[ha.defers];rfl,ha.ent⟩ hs2;rw[E6]at this;rw[hrec]at this;exact this
theorem PR {c:Cx}{d:Func}{n s t b u r v:Nat}{f:Fr}{C:Mem}{L:List Ent}{g:List Deferred}{h:World}{i:Mem}{j:List Ent}{E G:TypeId}{H I:Nat × Nat}{x A:List Value}{k l:TI}{y z:Value}(J:Ent.obj b (.cells ⟨x⟩ E H)∈L)(K:Ent.obj v (.cells ⟨A⟩ G I)∈L)(M:d.results=#[.cell s t,.cell u r])
  (N:ev f [] (.tmp s)=some (p_ b)) (O:ev f [] (.tmp u)=some (p_ v)) (Q:c.T.get t=some k) (R:cI k (x.take k.size)=some y) (S:c.T.get r=some l) (U:cI l (A.take l.size)=some z) :
  ∀ a w,FrOk n [] g f a->St h i j C L w->(results d a.tmps).run c.P w=.ok (.tuple #[y,z]) w:=fun a w B D=>by
 have m:=bN B (fun p o=>by cases o) N;have q:=bN B (fun p o=>by cases o) O;simp only[Act.eval]at m q;have V:=fC (F:=⟨c,d,n,⟨h,i,j⟩,fun _ _ _=>True,Cw.plain c.P,g,fun _ _ _=>True⟩) Q (D.sep.e _ J) R;have W:=fC (F:=⟨c,d,n,⟨h,i,j⟩,fun _ _ _=>True,Cw.plain c.P,g,fun _ _ _=>True⟩) S (D.sep.e _ K) U;simp only[Sr]at m q;simp[results,M,m,q,asAddr,V,W]
def Ll (D:Nat):Deferred:={ target:=.collected D,args:=#[] }
def AO (D:Nat):Ent:=.obj D (.deferred (some []))
theorem XO {d:Cx}{g:Func}{n:Nat}{f:List Nat}{b:Bs}{i:Value->Mem->List Ent->Prop}{v:Value}
  (m:∀ a w,FrOk n [] (f.map Ll) fr a->St b.w0 b.C0 b.L0 C L w->(results g a.tmps).run d.P w=.ok v w) (h:i v C []) (o:f≠[]) :
  G ⟨d,g,n,b,i,Cw.plain d.P,f.map Ll,bodyPostM Fence.wide 3 d.P g (yu b i)⟩ [] .ret fr C (f.map AO++L):=fun s a w k j=>by
 show LeavesInM _ _ _ _ _ _ a.defers _ _;have p:=k;rw[k.defers];have q:∀ (c:List Nat)(w:World),c≠[]->St b.w0 b.C0 b.L0 C (c.map AO++L) w->LeavesInM Fence.wide 3 d.P g a.tmps (yu b i) (c.map Ll) .returning w:=by
  intro c;induction c with
 |nil=>exact fun _ h0=>absurd rfl h0
 |cons D c r =>
   intro w _ j;have l:w.heap[D]?=some (.deferred (some [])):=j.sep.e _ (Rq ..);have hs:=(St.putObj (o':=.deferred none) j).drop;cases c with
  |nil=>exact⟨by simp,.inl ⟨D,_,rfl,run_takeDeferred l,v,m a _ p hs,v,C,[],rfl,St.dropAll hs,h⟩⟩
  |cons E c=>exact⟨by simp,.inl ⟨D,_,rfl,run_takeDeferred l,r _ ak hs⟩⟩
 exact q f w o j
end
end Go.Jog
