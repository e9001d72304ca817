import Derived.Test.YtfjcldheldflbaaGreatDoorG2
import Derived.OrdersIn
import Derived.RangeFuncCalls
import Derived.Shelf.Spec.TrailingZeros
import Derived.Shelf.Strconv.Itoa3
import Derived.Shelf.Strconv.ParseUint10At
import Derived.Shelf.Strconv.Atoi
import Derived.Shelf.Small.Strs
import Derived.Lib.UnsafeStr
import Derived.Lib.Builder
namespace Go.Jog
open Go
example {A B C D E:Mem} (h3:D.le E) (h1:A.le B) (h2:B.le C) (h4:C.le D):A.le E:=by(repeat (first|exact Mem.le.refl _|assumption|(apply Mem.le.trans;rotate_left;assumption)))
theorem Mem.get {C D:Mem}{b:Nat}{o:Obj}(h:C b=some o)(a:C.le D):D b=some o:=a _ _ h
theorem Gives.ofCalls {P:Program}{f:FuncId}{args:List Value}{v:Value}(a:Enters P f=true)(h:∀w,Calls P f args.toArray w λe w'=>e=.returned v/\w'=w)(C:Mem):Gives P f args C v :=
 ⟨a,λw b=>(h w).mono λe w' ⟨h1,h2⟩=>by
  subst h2;exact⟨_,C,[],h1,St.start b,U,U⟩⟩
section
variable {cx:Cx} {n:Nat} {ds:List (Option Nat)} {R:Rg n ds} {its:List It} {fr:Fr} {C:Mem} {L:List Ent} {i k d:Nat} {o:Oper} {g:GL} {v:Value}
theorem Ym {t B e b f j q s K c r m p sl:Nat}{x y:Operand}{z:Value}{l vs:List Value}{E M:TI}(F:k=3)(hd:o.dst=some d)(hg:gOn ds fr o.guard=true)
  (ac:o.op=.call ⟨.builtin .copy,#[x,y],#[t,B]⟩) (ht:cx.T.get t=some E) (N:E.k=.slice e) (he:cx.T.get e=some M) (ad:M.size=c)
  (hx:ev fr [] x=some (.slice (some ⟨b,f,none⟩) s K)) (hy:ev fr [] y=some z) (hm:L[j]?=some (.arr (s_ b m p) e c r l))
  (ae:∀w,(Builtin.lenOf z).run cx.P w=.ok sl w) (hq:q=min sl s) (A:vs.length=q*c)
  (af:∀w,Sep C (.arr (s_ b m p) e c r l::L.eraseIdx j) w->(Builtin.firstCells c q z).run cx.P w=.ok vs.toArray w)
  (h1:vs.all kS=true) (aq:f+q*c<=l.length) (hp:∀v,aZ n ds ((d,[],v)::fr) d=true)
  (h:D cx R its ((d,[],i_ q)::fr) C (.arr (s_ b m p) e c r (aC l vs f)::L.eraseIdx j)):D cx R ((i,k,o)::its) fr C L:=by
 have G:cx.P.underlying t=some (.slice e):=by
  let⟨kk,s1,b1,z1,g1⟩:=E;simp only at N;subst N;exact bW cx.hT ht
 refine Xc (S:=λO Q V=>O=i_ q/\Q=C/\V=.arr (s_ b m p) e c r (aC l vs f)::L.eraseIdx j) (by subst F;rfl) hd hg hp (λa hs w _ hw=>?_) (λO Q V _ ⟨e0,H,e2⟩=>by subst e0;subst H;subst e2;exact h);have I:=St.perm hw (ax hm);have W:w.ownsRow 0 e c (s_ b m p) r l:=I.sep.e _ (SK ..);obtain⟨rfl,X,ag,g,Y,J,Z⟩:=cP W;let⟨g⟩:=g;simp only[Uu]at J;simp only at Z;have ah:l.length=m*c:=W.1;have ai:m*c<=g.length:=by rw[J];exact To _ X
 have aj:∀u∈vs,u.oneCell'=true:=λu G=>fW (S3.1 h1 u G);have aa:=run_storeCells_at cx.P b f e vs 0 ⟨g⟩ w Y (by simp[A];omega) aj;simp only[Um]at aa;have ak:=af w I.sep;have al:=ae w;have ab:=eD cx.hT he w;rw[ad]at ab;have hc:(Builtin.copy_ #[t,B] o.type #[.slice (some ⟨b,f,none⟩) s K,z]).run cx.P w=.ok (i_ q) (w.setRow b (aC g vs f).toArray):=by
  have am:Nat.min sl s=q:=hq.symm;simp only[Builtin.copy_];simp[run_underlying G,al,ab,am,ak,aa,aC,goInt]
 have an:(execOp a.eval o).run cx.P w=.ok (.value (i_ q)) (w.setRow b (aC g vs f).toArray):=by
  have H:execOp a.eval o=(do let dd <- resolve a.eval ⟨.builtin .copy,#[x,y],#[t,B]⟩ o.type;invoke dd.target dd.args:Sem Next):=by unfold execOp;rw[ac]
  rw[H];simp only[resolve,invoke,builtin,Sem.run_bind,Sem.run_pure,Result.andThen_ok,Us,Tq,Ut,hs _ _ hx,hs _ _ hy,hc]
 have ao:(aC g vs f).length=g.length:=er (by rw[A];omega);have ap:(w.setRow b (aC g vs f).toArray).ownsRow 0 e c (s_ b m p) m (aC l vs f) :=
  ⟨by rw[er (by rw[A];omega)];exact ah,.inr ⟨b,p,_,rfl,SM _,setRow_heap w b _ _ e _ Y,X,ag,by simp[ao,J],by
     rw[<- Z];exact gF g _ f (m*c) (by rw[A];omega) ai⟩⟩
 unfold Oper.wp;rw[an];exact⟨i_ q,C,.arr (s_ b m p) e c m (aC l vs f)::L.eraseIdx j,U,Mem.le.refl _,λh2=>by omega,
  St.turn I ap ⟨rfl,rfl,rfl,by simp,λk _ F=>setRow_other w b k _ (λe=>F (by simp[Value.ownBlock,e]))⟩ (SH _) (.inl rfl),rfl,rfl,rfl⟩
theorem X0 {t r e g0 off j q dl dc c m f sl sc:Nat}{x y:Operand}{a:List Value}{g l:TI}(s:Z8 k 3 o.dst (some d) (gOn ds fr o.guard) true o.op (.call ⟨.builtin .copy,#[x,y],#[t,r]⟩) (cx.T.get t) (some g) g.k (.slice e) (cx.T.get e) (some l) l.size 1)(z:ev fr [] x=some (.slice (some ⟨g0,off,none⟩) dl dc))(A:ev fr [] y=some (s_ g0 sl sc))(B:Z2 (L[j]?) (some (.arr (s_ g0 m f) e 1 c a)) q (min sl dl))(p:a.all kS=true)(V:off+q<=a.length)(E:∀v,aZ n ds ((d,[],v)::fr) d=true)(h:D cx R its ((d,[],i_ q)::fr) C (.arr (s_ g0 m f) e 1 c (aC a (a.take q) off)::L.eraseIdx j)):D cx R ((i,k,o)::its) fr C L:=by
 have ⟨F,hd,G,H,ht,I,J,K⟩:=s;have ⟨hm,M⟩:=B;refine Ym (vs:=a.take q) F hd G H ht I J K z A hm (sl:=sl) (λw=>by simp[Builtin.lenOf]) M (by rw[S2];omega) (λw N=>?_)
  (by rw[S3]at p⊢;exact λu b=>p u (TP b)) om_ E h
 have O:w.ownsRow 0 e 1 (s_ g0 m f) c a:=N.e _ (SK ..);obtain⟨rfl,W,X,Q,S,Y,U⟩:=cP O;refine run_firstCells_some (P:=cx.P) w 1 q ⟨g0,0,none⟩ sl sc (a.take q) (by rw[S2];omega) (λZ u b=>?_);rw[<- U,VD,TA]at b;split at b
 .rw[Addr.add_lit,cell_of_row w g0 _ Q e (0,0) S];simpa using b
 cases b
theorem X1 {t t2 e l s j q H dc a I m J:Nat}{x y:Operand}{p:Value}{f:List (List Value)}{z:List Value}{K B:TI}(aa:Z12 k 3 o.dst (some d) (gOn ds fr o.guard) true o.op (.call ⟨.builtin .copy,#[x,y],#[t,t2]⟩) (cx.T.get t) (some K) K.k (.slice e) (cx.T.get e) (some B) B.size a (Nat.beq B.size 0) false (ev fr [] x) (some (.slice (some ⟨l,s,none⟩) H dc)) (ev fr [] y) (some p) (L[j]?) (some (.arr (s_ l m J) e a I z)))(ab:Sl C a p f)(ac:Z2 q (min f.length H) (f.all (λr=>r.all kS)) true)(ae:s+q*a<=z.length)(hp:∀v,aZ n ds ((d,[],v)::fr) d=true)(h:D cx R its ((d,[],i_ q)::fr) C (.arr (s_ l m J) e a I (aC z (f.take q).flatten s)::L.eraseIdx j)):D cx R ((i,k,o)::its) fr C L:=by
 have ⟨hk,hd,hg,af,ht,ag,he,M,N,hx,hy,hm⟩:=aa;have ⟨O,h1⟩:=ac;let⟨A,c,E,aq,ar,Q,S⟩:=ab;have ah:0<a:=by rw[<- M];exact UH (λe=>by rw[e]at N;cases N)
 have U:∀r∈f.take q,r.length=a:=λr hr=>Q r (TP hr);have F:=aQ U;have G:(f.take q).length=q:=by rw[S2];omega
 refine Ym (vs:=(f.take q).flatten) hk hd hg af ht ag he M hx hy hm (sl:=f.length) (λw=>by subst E;simp[Builtin.lenOf]) O (by rw[F,G]) (λw hw=>?_)
  (by
   rw[S3];intro u g;let⟨r,hr,ai⟩:=List.mem_flatten.1 g;exact S3.1 (S3.1 h1 r (TP hr)) u ai) ae hp h
 cases f with
|nil =>
  subst E;have ak:q=0:=by rw[O];simp
  subst ak;cases A <;> simp[Builtin.firstCells,loadCells,loadCellsFrom]
|cons r rs =>
  let⟨ad,hA,au,_⟩:=S 0 r am;subst hA;rw[E];refine run_firstCells_some (P:=cx.P) w a q ad _ c _ (by rw[F,G]) (λb u g=>?_);have al:b<q*a:=by rw[<- G,<- F];exact(R0.1 g).1
  have an:b / a<q:=VB (by rw[Tt];exact al);have V:b / a<(r::rs).length:=by omega
  have W:(r::rs)[b / a]?=some (r::rs)[b / a]:=aj V;have ao:b % a<((r::rs)[b / a]).length:=by rw[Q _ (TC V)];exact Ts _ ah
  have X:=aj ao;have ap:((r::rs).take q)[b / a]?=some (r::rs)[b / a]:=by rw[TA,aL an];exact W
  have Y:=getElem?_flatten_rows U ap X;have Z:b / a*a+b % a=b:=by rw[Tt];exact Vt b a
  rw[Z,g]at Y;let⟨av,h3,h4,h5⟩:=S _ _ W;cases h3
  have:=h5 _ _ X;rw[Z]at this;rw[Y];exact this.cell hw
end
end Go.Jog
namespace Go.Jog
open Go
def hAt (l:List Nat)(k:Nat):Nat:=l.getD k 0
end Go.Jog
namespace Go.Jog
open Go
theorem Fn.quiet1 {P:Program}{f:FuncId}{t:List Value}{C:Mem}{x:Ent}{v:Value}(h:Fn P f t C [x] λu _ z=>u=v/\z=[x]){q:World}{r:Mem}{s:List Ent}{a:Mem × List Ent}{w:World}
  (A:C.le a.1) (B:x∈a.2) (D:cls q r s a w):Calls P f t.toArray w λe w'=>e=.returned v/\cls q r s a w':=by
 let⟨j,E⟩:=Uh B;have hp:=ax E;have m:St q r s a.1 ([x]++a.2.eraseIdx j) w:=St.perm D hp;have p:∀k,qX [x] k->a.1 k=none:=λk g=>m.sep.n k (by let⟨y,hy,F⟩:=g;exact⟨y,Uy _ hy,F⟩);have h2:Sep a.1 [x] w:=⟨m.sep.c,λy hy=>m.sep.e y (Uy _ hy),List.pairwise_singleton _ _,p⟩;have G:Sep C [x] w:=⟨λb o i=>h2.c b o (A _ _ i),h2.e,h2.d,λk g=>by
  cases H:C k with
 |none=>rfl
 |some o=>have:=A _ _ H;rw[p k g]at this;cases this⟩
 refine(h.2 w G).mono λe w' ⟨u,M,z,I,l,J,K⟩=>?_;subst J;subst K;have L:St w a.1 [x] a.1 [x] w':=⟨⟨λb o i=>by
   have:=h2.c b o i;rw[l.ev.block b (cZ this) (λg=>by rw[p b g]at i;cases i)];exact this,l.sep.e,l.sep.d,p⟩,l.ev,Mem.le.refl _,λ_ _ g=>.inl g,l.ln⟩
 exact⟨I,St.perm (St.call (Lp:=[x]) m L) hp.symm⟩
section
variable {cx:Cx} {n:Nat} {ds:List (Option Nat)} {R:Rg n ds} {its:List It} {fr:Fr} {C:Mem} {L:List Ent} {i k d:Nat} {o:Oper} {g:GL} {v:Value}
theorem Xy {t e:Nat}{x y:Operand}{b:IntKind}{p q:Int}(c:Int)(f:Z6 (Nat.ble k 1) true o.dst (some d) o.op (.binOp .quo t x y e) (gOf ds fr o.guard) (some g) (ev fr g x) (some (.int b p)) (ev fr g y) (some (.int b q)))(B:0<q)(j:p.tdiv q=c)(l:b.wrap c=c)(m:Z2 (aZ n ds ((d,g,.int b c)::fr) d) true (wfG ds fr g) true)(h:D cx R its ((d,g,.int b c)::fr) C L):D cx R ((i,k,o)::its) fr C L :=
 have ⟨r,hd,s,u,v,hy⟩:=f;have ⟨hp,z⟩:=m;D.run _ r hd u (λ_ a hs w=>by
  rw[dU s (hs _ _ v) (hs _ _ hy) (λ_ _=>.inl am) (.inl am) w];have A:q≠0:=by omega
  simp[binOp,Op.intDiv,A,j,l]) hp z h
end
section
variable {F:Fx} {k:List KI} {fr:Fr} {C:Mem} {L:List Ent}
theorem Yp {e:Exit}(j m:Nat){t s f b n c:Nat}{d:List Value}(o:L[j]?=some (.arr (s_ b n c) t s f d))(g:m<=f)
  (h:G F k e fr C (.arr (s_ b m c) t s m (d.take (m*s))::L.eraseIdx j)):G F k e fr C L:=λh0 a w p q=>by
 refine h h0 a w p ?_;have i:=St.perm q (ax o);have l:w.ownsRow 0 t s (s_ b n c) f d:=i.sep.e _ (SK ..);obtain⟨rfl,r,u,v,x,y,z⟩:=cP l;have D:d.length=n*s:=l.1;have A:m*s<=n*s:=To _ g;have B:w.ownsRow 0 t s (s_ b m c) m (d.take (m*s)) :=
  ⟨by rw[S2];omega,.inr ⟨b,c,v,rfl,SM _,x,SV g r,u,y,by rw[<- z,VD,TJ A]⟩⟩
 exact St.turn i B ⟨U,U,U,SH _,λ_ _ _=>rfl⟩ (SH _) (.inl U)
theorem Yw {e:Exit}(j:Nat){v:Value}{t s m:Nat}{xs:List Value}(d:L[j]?=some (.arr v t s (m+1) xs))(h:∀g c,v=s_ g (m+1) c->G F k e fr C L):G F k e fr C L:=λh0 a w f b=>by
 have i:=St.perm b (ax d);have l:w.ownsRow 0 t s v (m+1) xs:=i.sep.e _ (SK ..);rcases l.2 with⟨_,h1⟩|⟨g,n,o,h1,_⟩
 .omega
 exact h g n h1 h0 a w f b
theorem YV {e:Exit}(j:Nat){v:Value}{t s m:Nat}{d:List Value}(i:L[j]?=some (.arr v t s m d))(h:∀A c,v=.slice A m c->G F k e fr C L):G F k e fr C L:=λh0 a w f b=>by
 have l:=St.perm b (ax i);have n:w.ownsRow 0 t s v m d:=l.sep.e _ (SK ..);rcases n.2 with⟨h1,h2⟩|⟨g,o,p,h1,_⟩
 .subst h2;exact h _ _ h1 h0 a w f b
 exact h _ _ h1 h0 a w f b
end
end Go.Jog
namespace Go.Jog
open Go
variable {P:Program}{a:Act}{i l n:Nat}{o:Oper}{ops:Array Oper}{w:World}
def rh (ops:Array Oper):Bool:=ops.toList.all λo=>match o.op with
|.defer _=>false
|_=>true
theorem E9 (h:rh ops=true)(a:ops[i]?=some o):∀c,o.op≠.defer c:=by
 intro c b;let⟨h1,h2⟩:=UJ.1 a;have:=S3.1 h ops[i] (Array.getElem_mem_toList h1);rw[h2,b]at this;cases this
theorem O0 {b:Act->World->Prop}{Q:Exit->Act->World->Prop}(e:∀c,o.op≠.defer c)(h:o.wp P a w b Q):o.wpIn (Fence.wide.inRound l) n P a w b Q:=by
 refine⟨λ_ _=>trivial, ?_⟩;show o.uponIn (Fence.wide.inRound l) n P a b Q ((o.semAt (some l) a.eval).run P w);rw[Oper.semAt_some l a.eval o e];unfold Oper.wp at h;revert h;generalize (execOp a.eval o).run P w=r;intro h;cases r with
|ok x w' =>
  cases x with
 |value v=>exact h
 |skip=>exact h
 |defer d=>exact h
 |enter f args=>exact⟨(λh=>(by cases h)),CallsIn.inRound l (callsIn_wide.2 h)⟩
 |row row args =>
   refine⟨(λh=>(by cases h)),λc cs _=>?_⟩;let⟨v,g,h1,h2⟩:=h c cs;exact⟨v,g,h1,stepsIn_wide.2 h2⟩
 |_=>exact h.elim
|halt x w' =>
  cases x <;> exact h
theorem Gl {N:Act->World->Prop}{K e:Act->World->Prop}(f:rh ops=true)(b:∀a w,K a w->e a w)
  (h:wpOp P ops (QN N) i K a w):wpOpIn (Fence.wide.inRound l) n P ops (QN N) i e a w:=by
 unfold wpOp at h;unfold wpOpIn;cases c:ops[i]? with
|none=>rw[c]at h;exact b _ _ h
|some o =>
  rw[c]at h;simp only at h⊢;split
  .rename_i d;rw[aL d]at h;rcases h with h|⟨_,g,w',h⟩
   .exact O0 (E9 f c) (Oper.wp_mono b h)
   exact h.elim
  rename_i d;rw[aF d]at h;exact⟨λ_ _=>trivial,b _ _ h⟩
theorem BX {P:Program}{c:Array Oper}{N:Act->World->Prop}{l n:Nat}(d:rh c=true):∀(b:List Nat)(a:Act)(w:World),wpOps P c (QN N) b a w->wpOpsIn (Fence.wide.inRound l) n P c (QN N) b a w
|[],_,_,h=>h
|i::b,a,w,h=>by
  rw[wpOps_cons]at h;rw[wpOpsIn_cons];exact Gl d (λa w=>BX d b a w) h
theorem BY {P:Program}{b:Array Oper}{N:Act->World->Prop}{l n:Nat}{c:Region.Mode}(d:rh b=true):∀(f:Nat)(ls:Array Bool)(a:Act)(w:World),wpAny P c b (QN N) f ls a w->wpAnyIn (Fence.wide.inRound l) n P c b (QN N) f ls a w
|0,_,_,_,h=>h
|f+1,_g,_j,_k,h=>⟨h.1,λi e=>Gl d (λa w=>BY d f _ a w) (h.2 i e)⟩
end Go.Jog
namespace Go.Jog
open Go
structure RankTo (A:List Arc3)(n:Nat)(pre e:List Nat):Prop where
 len:e.length=n
 sound:∀v,v<n->∃u,SF A (hAt e v) u v
 up:∀a∈A,a.lo∈pre->hAt e a.lo+1<=hAt e a.up
end Go.Jog
namespace Go.Jog
open Go
section
variable {cx:Cx} {n:Nat} {ds:List (Option Nat)} {R:Rg n ds} {its:List It} {fr:Fr} {C:Mem} {L:List Ent} {i k d:Nat} {o:Oper} {g:GL} {v:Value}
theorem D.max {x y:Operand}{e:Array TypeId}{p q:Int}{b f:IntKind}(c:Int)(j:Z6 (Nat.ble k 1) true o.dst (some d) o.op (.call ⟨.builtin .max,#[x,y],e⟩) (gOf ds fr o.guard) (some g) (ev fr g x) (some (.int b p)) (ev fr g y) (some (.int f q)))(l:Max.max p q=c)(m:Z2 (aZ n ds ((d,g,.int b c)::fr) d) true (wfG ds fr g) true)(h:D cx R its ((d,g,.int b c)::fr) C L):D cx R ((i,k,o)::its) fr C L :=
 have ⟨r,hd,s,t,u,hy⟩:=j;have ⟨hp,v⟩:=m;D.run _ r hd t (λ_ a hs w=>by
  have z:execOp a.eval o=(do let dd <- resolve a.eval ⟨.builtin .max,#[x,y],e⟩ o.type;invoke dd.target dd.args:Sem Next):=by unfold execOp;rw[s]
  rw[z];have hm:(if q > p then q else p)=c:=by rw[<- l];by_cases hh:q > p <;> simp[hh] <;> omega
  simp[resolve,invoke,builtin,hs _ _ u,hs _ _ hy,Builtin.max_,Builtin.max2,hm]) hp v h
theorem D.min {x y:Operand}{e:Array TypeId}{p q:Int}{b f:IntKind}(c:Int)(j:Z6 (Nat.ble k 1) true o.dst (some d) o.op (.call ⟨.builtin .min,#[x,y],e⟩) (gOf ds fr o.guard) (some g) (ev fr g x) (some (.int b p)) (ev fr g y) (some (.int f q)))(l:Min.min p q=c)(m:Z2 (aZ n ds ((d,g,.int b c)::fr) d) true (wfG ds fr g) true)(h:D cx R its ((d,g,.int b c)::fr) C L):D cx R ((i,k,o)::its) fr C L :=
 have ⟨r,hd,s,t,u,hy⟩:=j;have ⟨hp,v⟩:=m;D.run _ r hd t (λ_ a hs w=>by
  have z:execOp a.eval o=(do let dd <- resolve a.eval ⟨.builtin .min,#[x,y],e⟩ o.type;invoke dd.target dd.args:Sem Next):=by unfold execOp;rw[s]
  rw[z];have hm:(if q<p then q else p)=c:=by rw[<- l];by_cases hh:q<p <;> simp[hh] <;> omega
  simp[resolve,invoke,builtin,hs _ _ u,hs _ _ hy,Builtin.min_,Builtin.min2,hm]) hp v h
end
end Go.Jog
namespace Go.Jog
open Go
def Cw.round (P:Program)(l n:Nat):Cw P where
 wp:=λc Q a w=>c.wpIn (Fence.wide.inRound l) n P Q a w
 nd:=λops=>rh ops=true
 mono:=λh q=>wpIn_mono q h
 skip:=wpIn_skip
 ret:=wpIn_ret
 exit:=wpIn_exit
 seq:=wpIn_seq
 block:=wpIn_block
 cond:=wpIn_cond_split
 loop:=wpIn_loop
 region:=λhd h=>wpIn_mono (wpIn_region (BX hd _ _ _ h)) (λe a w q=>by cases e <;> first|exact q|exact q.elim)
 any:=λhm hd h=>wpIn_mono (wpIn_region_any hm (BY hd _ _ _ _ h)) (λe a w q=>by cases e <;> first|exact q|exact q.elim)
theorem FW (F:Fx)(b:List Deferred):∀k,Kq { F with dd:=b } k=Kq F k
|[]=>rfl
|.code c::k=>by
  funext e a w;cases e <;> simp only[Kq,FW F b k]
|.blk d::k=>by
  funext e a w;cases e <;> simp only[Kq,FW F b k]
|.inv I::k=>by
  funext e a w;cases e <;> simp only[Kq,FW F b k]
def RY (P:Program)(gf:FuncId)(lb:Array Value)(C:Mem)(vss:List (Value × Value)):Prop :=
 ∀(l:Nat)(J:Nat->World->Prop)(W:World),
  (∀k W,J k W->∀b o,C b=some o->W.heap[b]?=some o)->(∀k W,J k W->J k W.drew) ->
  (∀k v W1,J k W1->vss[k]?=some v->YieldAt Fence.wide 1 P l #[v.1,v.2] W1 λe W'=>e=.returned (.bool true)/\J (k+1) W') ->
  J 0 W->CallsIn Fence.wide 2 P gf (#[.func (.yield l) #[] #[]]++lb) W λe W'=>(∃v,e=.returned v)/\J vss.length W'
section
variable {F:Fx} {k:List KI} {fr:Fr} {C:Mem} {L:List Ent}
theorem St.putObj {a:World}{c:Mem}{d:List Ent}{C:Mem}{L:List Ent}{w:World}{b:Nat}{o o':Obj}(h:St a c d C (.obj b o::L) w):St a c d C (.obj b o'::L) (w.putObj b o'):=by
 have f:w.heap[b]?=some o:=h.sep.e _ (SK ..);exact St.put h (World.putObj_heap_same (UJ.1 f).1) (λk g=>World.putObj_heap_other g) (World.putObj_size) U U U (SH _)
theorem XW {d:Cx}{g:Func}{n l:Nat}{b:Bs}{i:Value->Mem->List Ent->Prop}{f:Exit->Act->World->Prop}{c:Code}(h:G ⟨d,g,n,b,i,Cw.round d.P l 1,[],f⟩ (kJ 64 [.code c]) .normal fr C L)
  (j:b.C0.le C) {a:Act} {w:World} (k:FrOk n [] [] fr a) (m:b.cls (C,L) w):c.wpIn (Fence.wide.inRound l) 1 d.P f a w:=by
 have:=Xf 64 h j a w k m;simp only[Kq]at this;exact wpIn_mono this (λe a w q=>by cases e <;> exact q)
theorem G.rangeFunc {g:Operand}{p0 p1:Nat}{assign body:Code}{gf:FuncId}{lb:Array Value}{vss:List (Value × Value)}(hW:F.W=Cw.plain F.cx.P)(hd0:F.dd=[])
  (hg:ev fr [] g=some (.func (.func gf) #[] lb)) (hen:Enters F.cx.P gf=true) (hseq:RY F.cx.P gf lb C vss) (I:Nat->List Ent->Prop) (h0:I 0 L) (_hp:fr.all (λx=>x.2.1.isEmpty)=true)
  (hok:∀u v,(aZ F.n [] ((p0,[],u)::fr) p0 && aZ F.n [] ((p1,[],v)::(p0,[],u)::fr) p1)=true) (frb:Value->Value->Fr)
  (hassign:∀l u v W1 L',G ⟨F.cx,F.fn,F.n,⟨W1,C,L'⟩,F.post,Cw.round F.cx.P l 1,[],λe a w'=>e=.normal/\FrOk F.n [] [] (frb u v) a/\St W1 C L' C L' w'⟩ (kJ 64 [.code assign]) .normal ((p1,[],v)::(p0,[],u)::fr) C L')
  (hbody:∀l j u v L' W1,I j L'->vss[j]?=some (u,v) ->
   G ⟨F.cx,F.fn,F.n,⟨W1,C,L'⟩,F.post,Cw.round F.cx.P l 1,[],λe _ w'=>e=.normal/\∃L1,I (j+1) L1/\St W1 C L' C L1 w'⟩ (kJ 64 [.code body]) .normal (frb u v) C L')
  (hdone:∀D L',I vss.length L'->G { F with dd:=[{ target:=.collected D,args:=#[] }] } (kJ 64 k) .normal fr C (.obj D (.deferred (some []))::L')) :
  G F (.code (.rangeFunc g #[p0,p1] assign body)::k) .normal fr C L:=λhle a w ha hw=>by
 simp only[Kq,hW];show(Code.rangeFunc g #[p0,p1] assign body).wp F.cx.P (Kq F k) a w;refine(wpIn_wide (n:=3)).1 (wpIn_rangeFunc λfn _=>?_);have hga:a.eval g=.func (.func gf) #[] lb:=bP ha (λp hp=>by cases hp) hg;have hdef:a.defers=[]:=ha.defers.trans hd0;let⟨rec,hrec⟩:∃rec:LoopState->Loop,rec=λst=>{ state:=st,pending:=none,fn,tmps:=a.tmps,params:=#[p0,p1],assign,body,defers:=w.heap.size }:=⟨_,rfl⟩;let⟨W1,hW1⟩:∃W1,(w.alloc (.deferred (some []))).alloc (.loop (rec .ready))=W1:=⟨_,rfl⟩;have hS1:St F.b.w0 F.b.C0 F.b.L0 C (.obj (w.heap.size+1) (.loop (rec .ready))::.obj w.heap.size (.deferred (some []))::L) W1:=by
  have:=St.alloc (St.alloc hw (.deferred (some []))) (.loop (rec .ready));rw[World.size_alloc]at this;rw[<- hW1];exact this
 refine⟨w.heap.size+1,[{ target:=.collected w.heap.size,args:=#[] }],W1,{ target:=.fn (.func gf) lb,args:=#[.func (.yield (w.heap.size+1)) #[] #[]] },W1,gf,
  #[.func (.yield (w.heap.size+1)) #[] #[]]++lb,W1, ?_, ?_,λ_ _=>trivial, ?_,λ_=>by decide, ?_⟩
 .rw[<- hW1,hrec];exact run_enterLoop_outer _ _ _ _ _
 .simp only[resolve,hga];simp[go_sem]
 .simp[invoke,go_sem,gv hen]
 refine(hseq (w.heap.size+1) (λj W=>∃L',I j L'/\St F.b.w0 F.b.C0 F.b.L0 C (.obj (w.heap.size+1) (.loop (rec .ready))::.obj w.heap.size (.deferred (some []))::L') W) W1
  (λj W ⟨L',_,hs⟩=>hs.sep.c) (λj W ⟨L',hi,hs⟩=>⟨L',hi,hs.drew⟩) ?_ ⟨L,h0,hS1⟩).mono ?_
 .rintro j ⟨u,v⟩ W ⟨L',hi,hs⟩ hj;have hl:W.heap[w.heap.size+1]?=some (.loop (rec .ready)):=hs.sep.e _ (SK ..);have hy:=run_yield (P:=F.cx.P) (args:=#[u,v]) hl (by rw[hrec];rfl);rw[hrec]at hy;have hz:(#[p0,p1].zip #[u,v]).foldl (λtmps (x:Nat × Value)=>match x with|(t,a)=>tmps.setIfInBounds t a) a.tmps=(a.tmps.setIfInBounds p0 u).setIfInBounds p1 v:=by simp
  dsimp only at hy;rw[hz]at hy;refine⟨fn,_,assign,body,hy,roundIn_of_wpIn trivial ?_⟩;have hfr:FrOk F.n [] [] ((p1,[],v)::(p0,[],u)::fr) { tmps:=(a.tmps.setIfInBounds p0 u).setIfInBounds p1 v,defers:=[] }:=by
   have hk:=hok u v;rw[S1]at hk;have h1:=FrOk.put (u:=u) (FrOk.mk (dd:=[]) ha.size hdef ha.ent:FrOk F.n [] [] fr a) hk.1 ⟨λ_=>rfl,λhn=>absurd (λp hp=>by cases hp) hn⟩;have h2:=FrOk.put (u:=v) h1 hk.2 ⟨λ_=>rfl,λhn=>absurd (λp hp=>by cases hp) hn⟩;exact⟨h2.size,U,h2.ent⟩
  have hA:=XW (hassign (w.heap.size+1) u v W _) l_ hfr (St.start hs.sep);refine wpIn_mono hA (λe a1 W2 q=>?_);obtain⟨rfl,hfr1,hs1⟩:=q;have hs2:=St.call (Lr:=[]) (by rw[S8];exact hs) hs1;rw[S8]at hs2;have hl2:W2.heap[w.heap.size+1]?=some (.loop (rec .ready)):=hs2.sep.e _ (SK ..);refine⟨_,run_beginRound hl2 (by rw[hrec]), ?_⟩;have hs3:St F.b.w0 F.b.C0 F.b.L0 C (.obj (w.heap.size+1) (.loop (rec .busy))::.obj w.heap.size (.deferred (some []))::L') (W2.putObj (w.heap.size+1) (.loop { rec .ready with state:=.busy })):=by
   have:=St.putObj (o':=.loop { rec .ready with state:=.busy }) hs2;rw[hrec]at this⊢;exact this
  have hB:=XW (hbody (w.heap.size+1) j u v L' (W2.putObj (w.heap.size+1) (.loop { rec .ready with state:=.busy })) hi hj) l_ hfr1 (St.start hs3.drop.drop.sep);refine wpIn_mono hB (λe a2 W4 q=>?_);obtain⟨rfl,L1,hi1,hs4⟩:=q;have hs5:=St.call (Lp:=L') (Lr:=[.obj (w.heap.size+1) (.loop (rec .busy)),.obj w.heap.size (.deferred (some []))]) (St.perm hs3 (TR (l₁:=[_,_]))) hs4;have hs6:St F.b.w0 F.b.C0 F.b.L0 C (.obj (w.heap.size+1) (.loop (rec .busy))::.obj w.heap.size (.deferred (some []))::L1) W4:=St.perm hs5 (TR (l₂:=[_,_]));have hl4:W4.heap[w.heap.size+1]?=some (.loop (rec .busy)):=hs6.sep.e _ (SK ..);refine⟨_,_,run_endRound none hl4,U,L1,hi1, ?_⟩;have:=St.putObj (o':=.loop { rec .busy with state:=if (none:Option Code).isNone then .ready else .done,pending:=none }) hs6;rw[hrec]at this⊢;exact this
 rintro e W2 ⟨⟨v,rfl⟩,L',hi,hs⟩;have hl:W2.heap[w.heap.size+1]?=some (.loop (rec .ready)):=hs.sep.e _ (SK ..);refine⟨none,_,by have:=run_endLoop (P:=F.cx.P) hl (by rw[hrec];simp);rw[hrec]at this;exact this, ?_⟩;have hs2:St F.b.w0 F.b.C0 F.b.L0 C (.obj w.heap.size (.deferred (some []))::L') (W2.putObj (w.heap.size+1) (.loop { rec .ready with state:=.exhausted })):=(St.putObj hs).drop;have:=Xf 64 (hdone w.heap.size L' hi) hle { a with defers:=[{ target:=.collected w.heap.size,args:=#[] }]++a.defers } _ ⟨ha.size,by rw[hdef];rfl,ha.ent⟩ hs2;rw[FW]at this;rw[hrec]at this;exact this
theorem X7 {c:Cx}{g:Func}{n:Nat}{d:World}{C i:Mem}{f a b:List Ent}{j:Value->Mem->List Ent->Prop}{W:Cw c.P}{R:List Ent->Prop}(k:a.Perm b)(h:R b) :
  G ⟨c,g,n,⟨d,C,f⟩,j,W,[],λe _ w'=>e=.normal/\∃a,R a/\St d C f C a w'⟩ [] .normal fr i a:=λl _ _ _ m =>
 ⟨rfl,b,h,St.less (St.perm m k) l_ l⟩
theorem Yv {c:Cx}{g:Func}{n:Nat}{d:World}{C h:Mem}{b:List Ent}{i:Value->Mem->List Ent->Prop}{W:Cw c.P}{f:Fr}(j:Has fr f) :
  G ⟨c,g,n,⟨d,C,b⟩,i,W,[],λe a w'=>e=.normal/\FrOk n [] [] f a/\St d C b C b w'⟩ [] .normal fr h b:=λk _ _ l m =>
 ⟨rfl,l.weaken j.sub,St.less m l_ k⟩
theorem XQ {b:Cx}{f:FuncId}{d:Func}{c:Code}{i:List Value}{C:Mem}{L:List Ent}{j:Value->Mem->List Ent->Prop}(m:Enters b.P f=true)(o:b.P.funcs[f]?=some d)(r:d.body=some c)
  (n:Nat) (t:d.ntmps=n) (k:Nat.ble i.length n=true)
  (h:∀w0,G ⟨b,d,n,⟨w0,C,L⟩,j,Cw.plain b.P,[],bodyPostM Fence.wide 3 b.P d (yN ⟨w0,C,L⟩ j)⟩ (kJ 64 [.code c]) .normal (BH i 0) C L):Fn b.P f i C L j:=by
 subst t;refine⟨m,λw u=>callsIn_wide.1 (callsIn_of_wp_marks (n:=3) o r trivial ?_)⟩;rw[UC]at k;have:=Xf 64 (h w) l_ { tmps:=i.toArray++Array.replicate (d.ntmps-i.toArray.size) undef,defers:=[] } w
  ⟨by simp;omega,rfl,λs g v x=>by
   obtain⟨rfl,_,l⟩:=sd x;refine⟨λ_=>?_,λk=>absurd (λp hp=>by cases hp) k⟩;simp only[VK]at l;have y:=(R0.1 l).1;simp only[Array.getElem?_append,Uu,y,UK,T9];exact l⟩ (St.start u)
 simp only[Kq]at this;refine wpIn_wide.2 (Code.wp_mono (λe a w q=>?_) this);cases e <;> exact q
theorem LW {d:Cx}{f:Func}{n:Nat}{b:Bs}{g:Value->Mem->List Ent->Prop}:(⟨d,f,n,b,g,Cw.plain d.P,[],bodyPostM Fence.wide 3 d.P f (yN b g)⟩:Fx).ends:=by
 refine⟨λe a w h=>?_,U⟩;cases e with
|normal=>let⟨h1,h2⟩:=h;show LeavesInM _ _ _ _ _ _ a.defers _ _;rw[h1];exact h2
|ret=>let⟨h1,h2⟩:=h;show LeavesInM _ _ _ _ _ _ a.defers _ _;rw[h1];exact h2
|panic c=>let⟨h1,h2⟩:=h;show LeavesInM _ _ _ _ _ _ a.defers _ _;rw[h1];exact h2
|outgrown=>exact h
|exit i=>exact h
|goto l=>exact h
theorem Yt {c:Cx}{d:Func}{n D:Nat}{b:Bs}{f:Value->Mem->List Ent->Prop}{v:Value}
  (j:∀a w,FrOk n [] [{ target:=.collected D,args:=#[] }] fr a->St b.w0 b.C0 b.L0 C L w->(results d a.tmps).run c.P w=.ok v w) (h:f v C []) :
  G ⟨c,d,n,b,f,Cw.plain c.P,[{ target:=.collected D,args:=#[] }],bodyPostM Fence.wide 3 c.P d (yN b f)⟩ [] .ret fr C (.obj D (.deferred (some []))::L):=λl a w g i=>by
 show LeavesInM _ _ _ _ _ _ a.defers _ _;rw[g.defers];have k:w.heap[D]?=some (.deferred (some [])):=i.sep.e _ (SK ..);have hs:=(St.putObj (o':=.deferred none) i).drop;exact⟨by simp,.inl ⟨D,_,U,run_takeDeferred k,v,j a _ g hs,v,C,[],U,St.dropAll hs,h⟩⟩
theorem XU {v:Value}(f:∀a w,FrOk F.n [] F.dd fr a->St F.b.w0 F.b.C0 F.b.L0 C L w->(results F.fn a.tmps).run F.cx.P w=.ok v w)(h:F.post v C [])(c:F.ends):G F [] .ret fr C L:=λ_ a w d e =>
 c.kq (bodyPost_ret (v:=v) (f a w d e) (d.defers.trans c.2) ⟨v,C,[],rfl,St.dropAll e,h⟩)
end
end Go.Jog
namespace Go.Jog
open Go
structure RankS (A:List Arc3)(n:Nat)(S:Arc3->Prop)(e:List Nat):Prop where
 len:e.length=n
 sound:∀v,v<n->∃u,SF A (hAt e v) u v
 up:∀a∈A,S a->hAt e a.lo+1<=hAt e a.up
end Go.Jog
namespace Go.Jog
open Go
variable {c:UInt8}{s:List UInt8}
def ji (c:UInt8):List UInt8->List UInt8 × Option (List UInt8)
|[]=>([],none)
|b::s=>if b=c then ([],some s) else (b::(ji c s).1,(ji c s).2)
theorem ik (c:UInt8):∀s:List UInt8,(ji c s=(s,none)/\Lib.indexByte s c=-1/\c ∉ s)∨∃a post,ji c s=(a,some post)/\s=a++c::post/\c ∉ a/\Lib.indexByte s c=a.length
|[]=>.inl ⟨rfl,rfl,by simp⟩
|b::s=>by
  by_cases d:b=c
  .subst d;exact .inr ⟨[],s,by simp[ji],U,by simp,by simp[Lib.indexByte]⟩
  rcases ik c s with⟨h1,h2,h3⟩|⟨a,post,h1,h2,h3,h4⟩
  .refine .inl ⟨by simp[ji,d,h1],by simp[Lib.indexByte,d,h2],by simp[Ne.symm d,h3]⟩
  refine .inr ⟨b::a,post,by simp[ji,d,h1],by simp[h2],by simp[Ne.symm d,h3], ?_⟩;have h5:¬ (a.length:Int)=-1:=by omega
  simp[Lib.indexByte,d,h4,h5]
theorem vX (h:0<=Lib.indexByte s c):∃a post,ji c s=(a,some post)/\s=a++c::post/\Lib.indexByte s c=a.length:=by
 rcases ik c s with⟨_,h2,_⟩|⟨a,post,h1,h2,_,h4⟩
 .omega
 exact⟨a,post,h1,h2,h4⟩
theorem rT (h:¬ 0<=Lib.indexByte s c):ji c s=(s,none):=by
 rcases ik c s with⟨h1,_⟩|⟨a,post,h1,h2,_,h4⟩
 .exact h1
 omega
def okD (s:List UInt8):Bool:=!(s == []) && decide (s.length<=200) && !(s.head? == some 48 && decide (1<s.length)) && s.all dZ
theorem vf :okD s=true ↔ wK s/\s.length<=200:=by
 unfold okD wK;simp only[S1,Vg,UB,ne_eq,SS,S3,Bool.and_eq_false_imp,Uo,Tk];constructor
 .rintro ⟨⟨⟨h1,h2⟩,h3⟩,h4⟩;refine⟨⟨h4,h1,λh=>?_⟩,h2⟩;have:=h3 h;have:0<s.length:=Tw.2 h1;omega
 rintro ⟨⟨h4,h1,h3⟩,h2⟩;exact⟨⟨⟨h1,h2⟩,λh=>by have:=h3 h;omega⟩,h4⟩
theorem Jg {i:Nat}(h:s[i]?=some c):bT (s.take (i+1))=bT (s.take i)*10+(c.toNat-48):=by
 rw[S9,h,T7,dB];congr 1;unfold bT D1;simp
def cD (c:UInt8)(s:List UInt8):List UInt8 × Bool:=if s.head?=some c then (s.tail,true) else (s,false)
end Go.Jog
namespace Go.Jog
open Go
variable {V:Int}{i:Nat}{o:Int}{out:List Nat}
section
variable {cx:Cx} {n:Nat} {ds:List (Option Nat)} {R:Rg n ds} {its:List It} {fr:Fr} {C:Mem} {L:List Ent} {i k d:Nat} {o:Oper} {g:GL}
theorem YQ {t e:Nat}{x y:Operand}{b:IntKind}{p q:Int}(c:Int)(f:Nat.ble k 1=true)(j:o.dst=some d)(l:o.op=.binOp .rem t x y e)(m:gOf ds fr o.guard=some g)(r:ev fr g x=some (.int b p))(s:ev fr g y=some (.int b q))
  (B:0<q) (u:p.tmod q=c) (v:aZ n ds ((d,g,.int b c)::fr) d=true) (z:wfG ds fr g=true)
  (h:D cx R its ((d,g,.int b c)::fr) C L):D cx R ((i,k,o)::its) fr C L :=
 D.run _ f j m (λ_ a hs w=>by
  rw[dU l (hs _ _ r) (hs _ _ s) (λ_ _=>.inl am) (.inl am) w];have A:q≠0:=by omega
  simp[binOp,Op.intDiv,A,u]) v z h
end
theorem dW (n:Nat):Lib.decDigits n=bi n:=by
 induction n using Nat.strongRecOn with
|ind n a =>
  rw[Lib.decDigits,bi];split
  .rfl
  rw[a (n / 10) om_]
def txt (z:Int):List UInt8:=if z<0 then 45::bi z.natAbs else bi z.natAbs
theorem LD (z:Int):Lib.itoa z=txt z:=by
 unfold Lib.itoa txt;split
 .rw[dW]
 rename_i h;rw[dW];congr 1;omega
theorem LF (n:Nat):Lib.itoa (n:Int)=bi n:=by rw[Lib.itoa_nonneg,dW]
theorem tenK {x:Nat}(h:x<10000):bi (10000+x)=49::nC 4 x:=by
 let⟨h1,h2,h3⟩:=li 4 x h;have a:wK (49::nC 4 x):=⟨λc a=>by
  rcases SY.1 a with rfl|a
  .decide
  exact h2 c a,by simp,λb=>by simp at b⟩
 have d:bT (49::nC 4 x)=10000+x:=by
  rw[dP,h1,h3];rfl
 rw[pF a,d]
theorem Jt (a:out.length=i)(h:V=(bx out:Nat)+(10000:Int) ^ i*o) :
  V=(bx (out++[(o % 10000).toNat]):Nat)+(10000:Int) ^ (i+1)*((o-o % 10000) / 10000):=by
 let⟨h1,h2,h3⟩:=Bx o;rw[pS,a,h];have e:((o % 10000).toNat:Int)=o % 10000:=Int.toNat_of_nonneg h1;rw[Vw,Tc,e,Int.natCast_pow,Int.pow_succ];have b:((BP:Nat):Int)=10000:=rfl;rw[b]
 conv=>lhs;rw[h3]
 rw[V0,Int.mul_assoc];omega
theorem K6 (a:out.length=i)(b:DigP out)(c:0<=V)(h:V=(bx out:Nat)+(10000:Int) ^ i*o):0<=o:=by
 have h1:=nF b;rw[a]at h1;have h2:((bx out:Nat):Int)<(10000:Int) ^ i:=by
  have:((bx out:Nat):Int)<((BP ^ i:Nat):Int):=by omega
  rwa [Int.natCast_pow]at this
 apply Ti;intro d;have h3:o<=-1:=by omega
 have h4:(10000:Int) ^ i*o<=(10000:Int) ^ i*(-1):=Int.mul_le_mul_of_nonneg_left h3 (Int.pow_nonneg dc_);omega
end Go.Jog
namespace Go.Jog
variable {a b:List Nat}{c e i:Nat}{l:List Nat}{lo o:Nat}{out:List Nat}{s:List UInt8}{x y:Nat}
abbrev B9:Nat:=1000000000
def bC:List Nat->Nat
|[]=>0
|x::l=>x+B9*bC l
def Dig9 (l:List Nat):Prop:=∀x∈l,x<B9
def zH (l:List Nat):Prop:=Dig9 l/\l.getLast?≠some 0
theorem fL:∀(a b:List Nat),bC (a++b)=bC a+B9 ^ a.length*bC b
|[],b=>by simp[bC]
|x::a,b=>by
  simp only[UA,bC,fL a b,S5,T3];rw[TT,<- Ur,Tt (B9 ^ a.length) B9,UQ]
theorem jn (a:List Nat)(x:Nat):bC (a++[x])=bC a+B9 ^ a.length*x:=by
 rw[fL];simp[bC]
theorem jo:∀{l:List Nat},Dig9 l->bC l<B9 ^ l.length
|[],_=>by simp[bC]
|x::l,h=>by
  have h1:=h x am;have h2:=jo (l:=l) (λy hy=>h y (by simp[hy]));simp only[bC,S5,T3];have h3:B9*(bC l+1)<=B9*B9 ^ l.length:=Ua _ h2;rw[Tt (B9 ^ l.length) B9];rw[TT]at h3;omega
theorem jm (h:l[i]?=some x):bC (l.take (i+1))=bC (l.take i)+B9 ^ i*x:=by
 have a:=(R0.1 h).1;rw[S9,h];simp only[T7];rw[jn,S2,TJ om_]
theorem Dig9.take {l:List Nat}(h:Dig9 l)(i:Nat):Dig9 (l.take i):=λx a=>h x (TP a)
theorem Dig9.snoc (h:Dig9 l)(a:x<B9):Dig9 (l++[x]):=λy hy=>by
 rcases SZ.1 hy with hy|hy
 .exact h y hy
 rw[S6.1 hy];exact a
theorem sV:∀{l:List Nat},(∀x∈l,x=0)->bC l=0
|[],_=>rfl
|x::l,h=>by
  rw[bC,h x am,sV (λy hy=>h y (by simp[hy]))];rfl
def om (l:List Nat):Nat->Nat
|0=>0
|k+1=>if l[k]?=some 0 then om l k else k+1
def Gd (l:List Nat):List Nat:=l.take (om l l.length)
theorem ol (l:List Nat):∀k,k<=l.length->(l.take (om l k)).getLast?≠some 0/\bC (l.take (om l k))=bC (l.take k)
|0,_=>by simp[om]
|k+1,b=>by
  rw[om];let⟨x,a⟩:∃x,l[k]?=some x:=⟨l[k],aj om_⟩;split
  .rename_i h;let⟨h1,h2⟩:=ol l k om_;refine⟨h1, ?_⟩;rw[h2,jm h];simp
  rename_i h;refine⟨?_,U⟩;rw[S9,a];simp only[T7,List.getLast?_append,List.getLast?_singleton];intro e;rw[a]at h;simp at e;exact h (by rw[e])
theorem iS (l:List Nat):bC (Gd l)=bC l:=by
 have:=(ol l l.length (SH _)).2;rw[SU]at this;exact this
theorem iT (h:Dig9 l):zH (Gd l):=⟨h.take _,(ol l l.length (SH _)).1⟩
theorem wk (h:zH l)(b:0<l.length):B9 ^ (l.length-1)<=bC l:=by
 let⟨x,a⟩:∃x,l[l.length-1]?=some x:=⟨l[l.length-1]'om_,aj om_⟩;have h1:=jm a;rw[show l.length-1+1=l.length by omega,SU]at h1;have c:x≠0:=λe=>h.2 (by rw[UY,a,e]);rw[h1];have:B9 ^ (l.length-1)*1<=B9 ^ (l.length-1)*x:=Ua _ om_;omega
theorem Ee (h:zH l):bC l=0 ↔ l=[]:=by
 constructor
 .intro e;apply Ti;intro a;have:=wk h (Tw.2 a);rw[e]at this;have hp:0<B9 ^ (l.length-1):=Vp dc_;omega
 rintro rfl;rfl
theorem vw (c:Dig9 a)(d:zH b)(h:a.length<b.length):bC a<bC b:=by
 have h1:=jo c;have h2:=wk d om_;have h3:B9 ^ a.length<=B9 ^ (b.length-1):=Tb dc_ om_;omega
theorem NF (e:Dig9 a)(l:a.length=b.length)(c:a[i]?=some x)(d:b[i]?=some y)(f:x<y)(g:a.drop (i+1)=b.drop (i+1)):bC a<bC b:=by
 have h:bC a=bC (a.take (i+1))+B9 ^ (i+1)*bC (a.drop (i+1)):=by
  have j:=(R0.1 c).1
  conv=>lhs;rw[<- TE (i+1) a]
  rw[fL,S2,TJ om_]
 have k:bC b=bC (b.take (i+1))+B9 ^ (i+1)*bC (b.drop (i+1)):=by
  have j:=(R0.1 d).1
  conv=>lhs;rw[<- TE (i+1) b]
  rw[fL,S2,TJ om_]
 rw[h,k,g,jm c,jm d];have h1:=jo (e.take i);have h2:(a.take i).length<=i:=by rw[S2];omega
 have h3:B9 ^ (a.take i).length<=B9 ^ i:=Tb dc_ h2;have h4:B9 ^ i*(x+1)<=B9 ^ i*y:=Ua _ f;rw[TT]at h4;omega
def g9 (l:List Nat)(i:Nat):Nat:=l.getD i 0
theorem lB (h:Dig9 l)(i:Nat):g9 l i<B9:=by
 unfold g9;rw[al];cases a:l[i]? with
|none=>decide
|some x=>exact h x (aK a)
theorem AV (h:l[i]?=some x):g9 l i=x:=by unfold g9;rw[al,h];rfl
theorem M9 (j:Nat):10 ^ (9*j)=B9 ^ j:=by rw[Nat.pow_mul]
theorem ED {j:Nat}(c:e+9*j=s.length)(a:out.length=j)(d:lo<=e)(h:bC out=bT (s.drop e)) :
  bC (out++[bT (ij s lo e)])=bT (s.drop lo):=by
 rw[jn,a,h];have b:s.drop lo=ij s lo e++s.drop e:=by
  unfold ij;have:s.drop lo=(s.take e++s.drop e).drop lo:=by rw[TE]
  rw[this,List.drop_append_of_le_length (by rw[S2];omega)]
 rw[b,dB,UI,show s.length-e=9*j by omega,M9,Tt,UT]
theorem Me (a:∀c∈s,dZ c=true)(h:e<=lo+9):bT (ij s lo e)<B9:=by
 have h1:∀c∈ij s lo e,dZ c=true:=λc b=>a c (TP (Vb b));have h2:=dG h1;have h3:(ij s lo e).length<=9:=by
  unfold ij;rw[UI,S2];omega
 have h4:10 ^ (ij s lo e).length<=10 ^ 9:=Tb dc_ h3;have h5:(10:Nat) ^ 9=B9:=rfl;omega
theorem Ft {p:List Nat}(j:Dig9 p)(f:p[i]?=some x)(h:wK s)(k:bT s=bC (p.drop (i+1)))(l:0<bT s) :
  wK (s++nC 9 x)/\bT (s++nC 9 x)=bC (p.drop i)/\0<bT (s++nC 9 x):=by
 have m:=j x (aK f);let⟨h1,h2,h3⟩:=li 9 x m;have g:=R0.1 f;have e:bC (p.drop i)=x+B9*bC (p.drop (i+1)):=by rw[Tg g.1,g.2];rfl
 have n:bT (s++nC 9 x)=bC (p.drop i):=by
  rw[dB,h1,h3,k,e,UT,Tt]
 refine⟨⟨λc a=>?_, ?_,λb=>?_⟩,n, ?_⟩
 .rcases SZ.1 a with a|a
  .exact h.1 c a
  exact h2 c a
 .intro e;exact h.2.1 (VZ.1 e).1
 .exfalso;rw[vC h.2.1]at b;have h5:=h.2.2 b
  match hs:s,h.2.1 with
 |[c],_ =>
   simp at b;subst b;have:bT ([48]:List UInt8)=0:=rfl;omega
 |c::d::s,_=>simp at h5
 rw[dB];have:0<bT s*10 ^ (nC 9 x).length:=Va l (Vp dc_);omega
theorem nH (l:List Nat)(i:Nat):bC (l.take (i+1))=bC (l.take i)+B9 ^ i*g9 l i:=by
 cases a:l[i]? with
|none =>
  have b:l.length<=i:=List.getElem?_eq_none_iff.1 a;have:g9 l i=0:=by unfold g9;rw[al,a];rfl
  rw[this,Td om_,Td b];simp
|some x=>rw[jm a,AV a]
theorem HX (P s c B t:Nat)(h:s+B*c=t):P*s+P*B*c=P*t:=by
 rw[<- h,TT,Ur]
theorem JJ (d:out.length=i)(h:bC out+B9 ^ i*c=bC (a.take i)+bC (b.take i)) :
  bC (out++[(g9 a i+g9 b i+c) % B9])+B9 ^ (i+1)*((g9 a i+g9 b i+c) / B9)=bC (a.take (i+1))+bC (b.take (i+1)):=by
 rw[jn,d,nH,nH,T3];have h1:=HX (B9 ^ i) _ _ B9 _ (VR (g9 a i+g9 b i+c) B9);rw[TT,TT]at h1;omega
def wJ (x y c:Nat):Nat:=if x<y+c then 1 else 0
def Jc (x y c:Nat):Nat:=x+B9*wJ x y c-y-c
theorem GJ (d:Dig9 b)(f:c<=1)(e:out.length=i)(h:bC out+bC (b.take i)=bC (a.take i)+B9 ^ i*c) :
  bC (out++[Jc (g9 a i) (g9 b i) c])+bC (b.take (i+1))=bC (a.take (i+1))+B9 ^ (i+1)*wJ (g9 a i) (g9 b i) c:=by
 have hy:=lB d i;have h0:Jc (g9 a i) (g9 b i) c+(g9 b i+c)=g9 a i+B9*wJ (g9 a i) (g9 b i) c:=by
  unfold Jc wJ;split <;> omega
 rw[jn,e,nH,nH,T3];have h1:B9 ^ i*Jc (g9 a i) (g9 b i) c+(B9 ^ i*g9 b i+B9 ^ i*c)=B9 ^ i*g9 a i+B9 ^ i*B9*wJ (g9 a i) (g9 b i) c:=by
  rw[<- TT,<- TT,h0,TT,Ur]
 omega
theorem Jy (x y c:Nat):wJ x y c<=1:=by unfold wJ;split <;> omega
theorem PE (a:x<B9)(b:y<B9)(d:c<=1):Jc x y c<B9:=by unfold Jc wJ;split <;> omega
theorem Jw (a:x<B9)(b:y<B9)(d:c<=1):(x+y+c) / B9<=1:=by
 have:x+y+c<2*B9:=by omega
 exact Nat.le_of_lt_succ ((UF dc_).2 this)
theorem uE:∀{l:List Nat}{i x z:Nat},l[i]?=some x->bC (l.set i z)+B9 ^ i*x=bC l+B9 ^ i*z
|[],_,_,_,h=>by simp at h
|y::l,0,x,z,h=>by
  simp at h;subst h;simp only[List.set_cons_zero,bC,Nat.pow_zero,UU];omega
|y::l,i+1,x,z,h=>by
  have a:=uE (l:=l) (i:=i) (x:=x) (z:=z) (by simpa using h);simp only[List.set_cons_succ,bC,T3];have h1:B9*bC (l.set i z)+B9*(B9 ^ i*x)=B9*bC l+B9*(B9 ^ i*z):=by rw[<- TT,a,TT]
  rw[Tt (B9 ^ i) B9,Ur,Ur];omega
theorem Dig9.set {l:List Nat}(h:Dig9 l){i z:Nat}(a:z<B9):Dig9 (l.set i z):=λx b=>by
 rcases T5 b with h1|h1
 .exact h x h1
 rw[h1];exact a
theorem HW {V T k:Nat}(a:out[i+k]?=some o)(d:T=bC (b.take k))(h:bC out+B9 ^ (i+k)*c=V+B9 ^ i*(x*T)) :
  bC (out.set (i+k) ((c+x*g9 b k+o) % B9))+B9 ^ (i+(k+1))*((c+x*g9 b k+o) / B9)=V+B9 ^ i*(x*bC (b.take (k+1))):=by
 have h1:=uE (z:=(c+x*g9 b k+o) % B9) a;rw[nH,<- d,show i+(k+1)=i+k+1 by omega,T3];have h2:=HX (B9 ^ (i+k)) _ _ B9 _ (VR (c+x*g9 b k+o) B9);rw[TT,TT]at h2;have h3:B9 ^ i*(x*(T+B9 ^ k*g9 b k))=B9 ^ i*(x*T)+B9 ^ (i+k)*(x*g9 b k):=by
  rw[TT,TT,UV];congr 1;rw[Wp x,Ur]
 omega
theorem tE (a:c<B9)(b:x<B9)(d:y<B9)(e:o<B9):c+x*y+o<B9*B9:=by
 have h1:x*y<=(B9-1)*(B9-1):=T2 om_ om_;have h2:(B9-1)*(B9-1)=999999998000000001:=by decide
 have h3:B9*B9=1000000000000000000:=by decide
 have f:B9=1000000000:=rfl;omega
theorem Jv (a:c<B9)(b:x<B9)(d:y<B9)(e:o<B9):(c+x*y+o) / B9<B9:=(UF dc_).2 (tE a b d e)
end Go.Jog
namespace Go.Jog
open Go Go.Proofs Go.Shelf
variable {C:Mem}{P:Program}{cs:Array Value}{name:String}
def VarC (P:Program)(C:Mem)(name:String)(cs:Array Value):Prop:=∃g e fz,P.globalNamed name=some g/\C g=some (.cells cs e fz)
theorem VarC.mono {D:Mem}(h:VarC P C name cs)(a:C.le D):VarC P D name cs :=
 let ⟨g,e,fz,h1,h2⟩:=h
 ⟨g,e,fz,h1,a _ _ h2⟩
theorem VarC.m_ {D:Mem}(h:VarC P C name cs)(a:C.le D:=by exact mup):VarC P D name cs:=VarC.mono h a
theorem VarC.var {P:Program}{C:Mem}{a:String}{b:Array Value}(h:VarC P C a b){L:List Ent}{w:World}(d:Sep C L w):w.var? P a=some b:=by
 let⟨g,e,fz,h1,h2⟩:=h;have h3:=d.c _ _ h2;simp[World.var?,h1,h3]
theorem VarC.ofWorld {W:World}(h:W.var? P name=some cs):VarC P (sH W) name cs:=by
 unfold World.var? at h;cases a:P.globalNamed name with
|none=>rw[a]at h;cases h
|some g =>
  rw[a]at h;simp only[Option.bind_some]at h;split at h
  .rename_i c e fz b;simp only[Tv]at h;subst h;exact⟨g,e,fz,a,b⟩
  cases h
theorem St.grown {w:World}(d:Sep C [] w)(q:Nat)(e:Array Obj):St w C [] C [] (Sort.grow (w.drewN q) e) :=
 ⟨⟨λb o f=>by rw[Sort.heap_grow_old (w.drewN q) e (cZ (d.c b o f):b<(w.drewN q).heap.size)];exact d.c b o f,λx g=>(by cases g),List.Pairwise.nil,d.n⟩,
  ⟨rfl,rfl,rfl,by simp[Sort.grow],λk a _=>Sort.heap_grow_old (w.drewN q) e a,Nat.le_add_right _ _⟩,Mem.le.refl _,λ_ _ a=>.inl a,λ_ a=>.inr a⟩
section
variable {P:Program} {ρ:Ren}
theorem Pg (L : LaysM.n171 P ρ) (n : Int) (b : -9223372036854775808 <= n) (c : n <= 9223372036854775807) (C : Mem) (d : VarC P C "internal/strconv.uint64pow10" (Lib.pow10Tab.map λz => Value.int .u64 z).toArray) (g : Enters P (ρ.f 171) = true) :
  Gives P (ρ.f 171) [i_ n] C (ag (Lib.itoa n)) :=
 ⟨g,λw a=>(Any.strconv_Itoa L n b c w (d.var a)).mono λe w' ⟨h2,q,os,h3⟩=>by
  subst h3;exact⟨_,C,[],h2,St.grown a q os,U,U⟩⟩
end
end Go.Jog
namespace Go.Jog
open Go Go.Proofs Go.Shelf
theorem St.bytesW {C:Mem}{w:World}(a:Sep C [] w)(e:TypeId)(s:ByteArray):St w C [] C [] (Lib.bytesWorld w e s):=by
 refine((St.start a).fresh (ob:=_) ⟨?_, ?_, ?_,Lib.bytesWorld_size w e s,λk b=>Lib.bytesWorld_at_old w e s k b,Lib.bytesWorld_at_new w e s, ?_⟩).drop
 .unfold Lib.bytesWorld World.freeze;split <;> rfl
 .unfold Lib.bytesWorld World.freeze;split <;> rfl
 .unfold Lib.bytesWorld World.freeze;split <;> rfl
 unfold Lib.bytesWorld World.freeze;split <;> exact UZ _
theorem rQ:∀(s:List UInt8)(a:Nat),(∀c∈s,dZ c=true)->Lib.decFrom a s=some (s.foldl D1 a)
|[],a,_=>rfl
|c::s,a,h=>by
  have h1:=h c am;simp only[dZ,SS]at h1;simp only[Lib.decFrom,Lib.digitVal,aL h1,VH];rw[rQ s _ (λd hd=>h d (by simp[hd]))];simp only[D1];rw[Tt 10 a]
theorem uf {s:List UInt8}(h:∀c∈s,dZ c=true)(a:s≠[]):Lib.decNat s=some (bT s):=by
 unfold Lib.decNat;cases s with
|nil=>exact absurd rfl a
|cons c s=>simp only[List.isEmpty_cons,TG,Ui];exact rQ _ 0 h
theorem PD {c:UInt8}(h:dZ c=true):(c == 45)=false/\(c == 43)=false:=by
 simp only[dZ,SS]at h;constructor <;> (rw[UB];rintro rfl;revert h;decide)
theorem JF {s:List UInt8}(h:∀c∈s,dZ c=true)(a:s≠[]):Lib.atoi s=some (bT s:Nat):=by
 cases s with
|nil=>exact absurd rfl a
|cons c s =>
  let⟨h1,h2⟩:=PD (h c am);simp only[Lib.atoi,h1,h2,TG,Ui,uf h a];rfl
theorem Mw (z:Int):Lib.atoi (txt z)=some z:=by
 let⟨h1,h2⟩:=bB z.natAbs;unfold txt;split
 .rename_i a;simp only[Lib.atoi,beq_self_eq_true,UK,uf h1.1 h1.2.1,h2];show some (-(z.natAbs:Int))=some z;congr 1;omega
 rename_i a;rw[JF h1.1 h1.2.1,h2];show some ((z.natAbs:Int))=some z;congr 1;omega
theorem tB (M:Nat)(e:999999999999999999<=M):∀(s:List UInt8)(a k:Nat),(∀c∈s,dZ c=true)->a<10 ^ k->k+s.length<=18->Lib.parseUintM M a s=.ok (s.foldl D1 a)
|[],a,k,_,_,_=>rfl
|c::s,a,k,h,g,b=>by
  have h1:=h c am;simp only[dZ,SS]at h1;have f:10 ^ (k+1)<=10 ^ 18:=Tb dc_ (by simp at b;omega);have i:10 ^ k<=10 ^ 17:=Tb dc_ (by simp at b;omega);have e18:(10:Nat) ^ 18=1000000000000000000:=by decide
  have j:(10:Nat) ^ 17=100000000000000000:=by decide
  rw[T3]at f;simp only[Lib.parseUintM,aL h1];rw[aF om_,aF om_,tB M e s (a*10+(c.toNat-48)) (k+1) (λd hd=>h d (by simp[hd])) (by rw[T3];omega) (by simp at b;omega)];simp only[VH,D1];rw[Tt 10 a]
section
variable {P:Program} {ρ:Ren}
theorem HG (L:Lays.n287 P ρ)(s:List UInt8)(b:∀c∈s,dZ c=true)(d:s≠[])(h:s.length<=18)(C:Mem)(g:Enters P (ρ.f 287)=true) :
  Gives P (ρ.f 287) [ag s,i_ 10,i_ 64] C (.tuple #[.int .u64 (bT s),.nilIface]) :=
 ⟨g,λw a=>(Any.internal_strconv_ParseUint_10_at64 L ⟨s.toArray⟩ (by simp[ByteArray.size];omega) w).mono λe w' ⟨h2,h3⟩=>by
  have hp:Lib.parseUintB 64 (⟨s.toArray⟩:ByteArray).data.toList=.ok (bT s):=by
   unfold Lib.parseUintB;rw[aF d];exact tB _ dc_ s 0 0 b dc_ om_
  rw[hp]at h2;rcases h3 with h3|h3
  .subst h3;exact⟨_,C,[],h2,St.start a,rfl,rfl⟩
  subst h3;exact⟨_,C,[],h2,St.bytesW a _ _,rfl,rfl⟩⟩
theorem BF (L:Lays.n172 P ρ)(z:Int)(a:(txt z).length<=18)(C:Mem)(b:Enters P (ρ.f 172)=true):Gives P (ρ.f 172) [ag (txt z)] C (.tuple #[i_ z,.nilIface]) :=
 ⟨b,λw c=>(Any.strconv_Atoi L ⟨(txt z).toArray⟩ z (by simpa [ByteArray.size] using a) (Mw z) w).mono λe w' ⟨h2,t,h3⟩=>by
  subst h3;exact⟨_,C,[],h2,St.bytesW c _ _,rfl,rfl⟩⟩
theorem Ai (L:Lays.n106 P ρ)(a b:List UInt8)(C:Mem)(c:Enters P (ρ.f 106)=true):Gives P (ρ.f 106) [ag a,ag b] C (i_ (Lib.compareBytes a b)) :=
 Gives.ofCalls c (λw=>Any.strings_Compare L ⟨a.toArray⟩ ⟨b.toArray⟩ w) C
end
end Go.Jog
namespace Go.Jog
open Go Go.Proofs Go.Shelf
theorem kH {P:Program}(w:World)(t u c e:TypeId)(i:TypeInfo)(d:P.underlying t=some (.slice e))(f:P.underlying u=some .string)(h:P.info? e=some i)(m:i.zero=some (.int .u8 0))
  (o:i.size=1) (p:i.bytes=1) (v:Value) (n:Nat) (b:List Value) (k:w.ownsRow 0 e 1 v n b) (s:ByteArray) (q:n+s.size<=maxLen) (x:n+s.size<=140737488355328) :
  ∃a w',(Builtin.append_ #[t,u] c #[v,.string s]).run P w=.ok a w'/\w'.ownsRow 0 e 1 a (n+s.size) (b++Lib.strCells s)/\w.grownBy w' v.ownBlock /\
   (a.ownBlock=v.ownBlock∨a.ownBlock=some w.heap.size∨a.ownBlock=none):=by
 let⟨a,w',h1,h2,h3,h4⟩:=Lib.run_append_own_string (P:=P) w 0 t u c e i d f h m o p v n b k s q x (SM _);refine⟨a,w',h1,h2,h3, ?_⟩;have y:b.length=n:=by simpa using k.1
 have C:n+s.size<=9223372036854775807:=by simp only[maxLen]at q;omega
 rcases k.2 with⟨rfl,rfl⟩|⟨g,l,r,rfl,D,z,E,F,A,G⟩
 .by_cases hm:s.size=0
  .rw[h4.2 ⟨rfl,hm⟩];exact .inr (.inr rfl)
  have hr:=run_append_nil_string (P:=P) w t u c e i (.int .u8 0) d f h m s om_ om_ (by rw[p];omega);rw[hr]at h1;injection h1 with h1 _;subst h1;exact .inr (.inl U)
 by_cases B:n+s.size<=l
 .have H:r.size=l:=by simpa using A
  have hr:=Lib.run_append_room_string (P:=P) w t u c e i d f h o g n l r z s B om_;rw[hr]at h1;injection h1 with h1 _;subst h1;exact .inl U
 have holds:∀j u,b[j]?=some u->w.cell? ((⟨g,0,none⟩:Addr).add j)=some u:=k.cells (g:=g) rfl;have hr:=Lib.run_append_grow_string (P:=P) w t u c e i (.int .u8 0) d f h m ⟨g,0,none⟩ n l b (by rw[o];simpa using y) holds s om_ om_ (by rw[p];exact growslice_fits om_ om_);rw[hr]at h1;injection h1 with h1 _;subst h1;exact .inr (.inl U)
section
variable {cx:Cx} {n:Nat} {ds:List (Option Nat)} {R:Rg n ds} {its:List It} {fr:Fr} {C:Mem} {L:List Ent} {i k d:Nat} {o:Oper} {g:GL} {v:Value}
theorem YA {t u e j m:Nat}{x y:Operand}{q r p:TI}{g:Value}{l:List Value}{s:List UInt8}(K:k=3)(M:o.dst=some d)(N:gOn ds fr o.guard=true)
  (O:o.op=.call ⟨.builtin .append,#[x,y],#[t,u]⟩) (Q:cx.T.get t=some q) (F:q.k=.slice e) (V:cx.T.get u=some r) (G:r.k=.str) (W:cx.T.get e=some p) (X:p.zv=.int .u8 0) (Y:p.size=1) (Z:p.bytes=1)
  (hx:ev fr [] x=some g) (hy:ev fr [] y=some (ag s)) (hm:L[j]?=some (.arr g e 1 m l))
  (aa:m+s.length<=140737488355328) (hp:∀v,aZ n ds ((d,[],v)::fr) d=true)
  (h:∀A n c,D cx R its ((d,[],.slice A n c)::fr) C (.arr (.slice A n c) e 1 (m+s.length) (l++s.map λb=>Value.int .u8 b.toNat)::L.eraseIdx j)):D cx R ((i,k,o)::its) fr C L:=by
 have hu:cx.P.underlying t=some (.slice e):=by
  let⟨kk,s1,b1,z1,g1⟩:=q;simp only at F;subst F;exact bW cx.hT Q
 have ab:cx.P.underlying u=some .string:=by
  let⟨kk,s1,b1,z1,g1⟩:=r;simp only at G;subst G;exact pU cx.hT V
 let⟨inf,hi,ac,ad,ae,am⟩:=(dC cx.hT W).info;have z:(⟨s.toArray⟩:ByteArray).size=s.length:=by simp[ByteArray.size]
 refine Xc (S:=λf H L'=>(∃A n c,f=.slice A n c)/\H=C/\L'=.arr f e 1 (m+s.length) (l++s.map λb=>Value.int .u8 b.toNat)::L.eraseIdx j) (by subst K;rfl) M N hp (λa hs w _ hw=>?_) (λf H L' _ ⟨⟨A,n',c,e0⟩,B,e2⟩=>by subst e0;subst B;subst e2;exact h A n' c);have I:=St.perm hw (ax hm);have af:w.ownsRow 0 e 1 g m l:=I.sep.e _ (SK ..);let⟨f,w',J,E,ah,ai⟩:=kH (P:=cx.P) w t u o.type e inf hu ab hi (by rw[ae,X]) (by rw[ac,Y]) (by rw[ad,Z]) g m l af ⟨s.toArray⟩ (by rw[z];simp[maxLen];omega) (by rw[z];exact aa);rw[z]at E;have aj:(Builtin.append_ #[t,u] o.type #[g,ag s]).run cx.P w=.ok f w':=J;have ak:(execOp a.eval o).run cx.P w=.ok (.value f) w':=by
  have B:execOp a.eval o=(do let dd <- resolve a.eval ⟨.builtin .append,#[x,y],#[t,u]⟩ o.type;invoke dd.target dd.args:Sem Next):=by unfold execOp;rw[O]
  rw[B];simp only[resolve,invoke,builtin,Sem.run_bind,Sem.run_pure,Result.andThen_ok,Us,Tq,Ut,hs _ _ hx,hs _ _ hy,aj]
 unfold Oper.wp;rw[ak];have al:∃A n c,f=.slice A n c:=by
  rcases E.2 with⟨h1,_⟩|⟨g0,an,ao,h1,_⟩
  .exact⟨_,_,_,h1⟩
  exact⟨_,_,_,h1⟩
 exact⟨f,C,_,U,Mem.le.refl _,λh2=>by omega,St.turn I E ah (bX _ J) ai,al,U,U⟩
theorem Yy {t b m c:Nat}{x:Operand}(e:Nat.ble k 1=true)(f:o.dst=some d)(h:o.op=.call ⟨.builtin .unsafeSliceData,#[x],#[t]⟩)(j:gOf ds fr o.guard=some g)(l:ev fr g x=some (s_ b m c))(p:c≠0)
  (q:aZ n ds ((d,g,p_ b)::fr) d=true) (r:wfG ds fr g=true)
  (s:D cx R its ((d,g,p_ b)::fr) C L):D cx R ((i,k,o)::its) fr C L:=by
 refine D.run _ e f j (λv a hs w=>?_) q r s;have u:execOp a.eval o=(do let dd <- resolve a.eval ⟨.builtin .unsafeSliceData,#[x],#[t]⟩ o.type;invoke dd.target dd.args:Sem Next):=by unfold execOp;rw[h]
 rw[u];simp only[resolve,invoke,builtin,Sem.run_bind,Sem.run_pure,Result.andThen_ok,Us,Tq,Ut,hs _ _ l,Lib.run_unsafeSliceData_row _ _ _ _ _ _ p]
theorem Yx {t u e j l m r:Nat}{x y:Operand}{s:List UInt8}(f:k=3)(N:o.dst=some d)(O:gOn ds fr o.guard=true)
  (Q:o.op=.call ⟨.builtin .unsafeString,#[x,y],#[t,u]⟩) (T:cx.P.underlying t=some (.pointer e)) (V:cx.P.cellsOf e=1)
  (p:ev fr [] x=some (p_ l)) (z:ev fr [] y=some (i_ s.length)) (W:L[j]?=some (.arr (s_ l m r) e 1 s.length (s.map λb=>Value.int .u8 b.toNat))) (X:s≠[])
  (ai:s.length<=140737488355328) (Y:∀v,aZ n ds ((d,[],v)::fr) d=true)
  (h:D cx R its ((d,[],ag s)::fr) C (L.eraseIdx j)):D cx R ((i,k,o)::its) fr C L:=by
 refine Xc (S:=λH I J=>H=ag s/\I=C/\J=L.eraseIdx j) (by subst f;rfl) N O Y (λa hs w _ Z=>?_) (λH I J _ ⟨e0,A,e2⟩=>by subst e0;subst A;subst e2;exact h);have q:=St.perm Z (ax W);have K:w.ownsRow 0 e 1 (s_ l m r) s.length (s.map λb=>Value.int .u8 b.toNat):=q.sep.e _ (SK ..);rcases K.2 with⟨B,_⟩|⟨g1,aj,E,B,ak,F,al,am,aa,an⟩
 .cases B
 cases B
 have ao:E.size=r:=by simpa using aa
 have hr:=Lib.run_unsafeString_row (P:=cx.P) w t u o.type e T V l E.size (by simp[World.shape?,F]) s X om_ om_ (λj x hj=>K.cells (g:=l) rfl j _ (by rw[SI,hj];rfl));have ab:(execOp a.eval o).run cx.P w=.ok (.value (ag s)) (w.freeze ⟨l,0,none⟩ s.length):=by
  have A:execOp a.eval o=(do let dd <- resolve a.eval ⟨.builtin .unsafeString,#[x,y],#[t,u]⟩ o.type;invoke dd.target dd.args:Sem Next):=by unfold execOp;rw[Q]
  rw[A];simp only[resolve,invoke,builtin,Sem.run_bind,Sem.run_pure,Result.andThen_ok,Us,Tq,Ut,hs _ _ p,hs _ _ z,hr];rfl
 unfold Oper.wp;rw[ab];have ac:l<w.heap.size:=cZ F;have ad:∀k,k≠l->(w.freeze ⟨l,0,none⟩ s.length).heap[k]?=w.heap[k]?:=λk f=>by
  unfold World.freeze;split <;> first|rfl|(simp only[Vx];rw[aF (λe=>f e.symm)])|(simp[Array.getElem?_setIfInBounds,Ne.symm f])
 have M:(w.freeze ⟨l,0,none⟩ s.length).heap.size=w.heap.size:=by
  unfold World.freeze;split <;> simp
 let⟨G,ae⟩:∃G,(w.freeze ⟨l,0,none⟩ s.length).heap[l]?=some G:=⟨_,Array.getElem?_eq_getElem (by rw[M];exact ac)⟩;have af:St _ _ _ C (.obj l (.cells E e (0,0))::L.eraseIdx j) w :=
  ⟨⟨q.sep.c,λx p=>by
   rcases SY.1 p with rfl|p
   .exact F
   .exact q.sep.e x (by simp[p]),by
   have:=TW.1 q.sep.d;exact TW.2 ⟨λy z k f=>this.1 y z k (by simp only[Ent.own]at f⊢;simp[Value.ownBlock,f]),this.2⟩,λk ⟨x,p,f⟩=>by
   rcases SY.1 p with rfl|p
   .simp only[Ent.own]at f;exact q.sep.n k ⟨_,SK ..,by simp[Ent.own,Value.ownBlock,f]⟩
   .exact q.sep.n k ⟨x,by simp[p],f⟩⟩,q.ev,q.c0,q.cn,λk ⟨x,p,f⟩=>by
   rcases SY.1 p with rfl|p
   .simp only[Ent.own]at f;exact q.ln k ⟨_,SK ..,by simp[Ent.own,Value.ownBlock,f]⟩
   exact q.ln k ⟨x,by simp[p],f⟩⟩
 have ah:=af.put (w':=w.freeze ⟨l,0,none⟩ s.length) (o':=G) ae ad M (by unfold World.freeze;split <;> rfl) (by unfold World.freeze;split <;> rfl) (by unfold World.freeze;split <;> rfl) (by unfold World.freeze;split <;> exact SH _);exact⟨ag s,C,_,U,Mem.le.refl _,λh2=>by omega,ah.drop,U,U,U⟩
end
end Go.Jog
namespace Go.Jog
open Go Go.Proofs Go.Shelf Go.Sort
section
variable {P:Program} {ρ:Ren}
theorem AW (L:Lays.n285 P ρ)(b i u t:Nat)(a:List Value)(v:u<18446744073709551616)(l:∀j,j<Lib.nDigits u->a[j]?=some (.int .u8 0))(y:Lib.nDigits u<4611686018427387904)(C:Mem)(z:Enters P (ρ.f 285)=true) :
  Fn P (ρ.f 285) [s_ b (Lib.nDigits u) i,.int .u64 u] C [.obj b (.cells ⟨a⟩ t (0,0))] λr A B=>r=.tuple #[]/\A=C/\∃d,B=[.obj b (.cells ⟨d⟩ t (0,0))]/\d.length=a.length/\∀(j:Nat) x,(bi u)[j]?=some x->d[j]?=some (.int .u8 x.toNat) :=
 ⟨z,λw m=>by
  have g:w.heap[b]?=some (.cells ⟨a⟩ t (0,0)):=m.e _ (SK ..);have D:Holds (λ(b:UInt8)=>Value.int .u8 (b.toNat:Int)) w b 0 (Array.replicate (Lib.nDigits u) (0:UInt8)):=λj c=>by
   have n:j<Lib.nDigits u:=by simpa using c
   constructor
   .simp[World.cell?,g,l j n,n]
   simp[World.frozen?,g]
  have o:=Any.internal_strconv_formatBase10 L b 0 i u (Array.replicate (Lib.nDigits u) 0) w D (by rw[We];exact Lib.lt_pow_nDigits u) v (by rw[We];exact y);rw[We]at o;refine o.mono ?_;rintro e w' ⟨h1,q,J,h,h2,p⟩;subst h2;have E:((putRow (λ(b:UInt8)=>Value.int .u8 (b.toNat:Int)) w b 0 h).drewN q).heap[b]?=some (.cells ⟨(putCells (λ(b:UInt8)=>Value.int .u8 (b.toNat:Int)) 0 h ⟨a⟩).toList⟩ t (0,0)):=by
   simp[putRow,mapBlock,onCells,Vx,g]
  refine⟨_,C,_,h1, ?_,U,U,(putCells (λ(b:UInt8)=>Value.int .u8 (b.toNat:Int)) 0 h ⟨a⟩).toList,U, ?_,λj x s=>?_⟩
  .exact(St.start m).put E (λk F=>by simp[putRow,mapBlock,Vx,Ne.symm F]) (by simp[putRow,mapBlock]) U U U (Nat.le_add_right _ _)
  .simp[putCells]
  rw[<- dW]at s;let⟨c,G⟩:=R0.1 s;have hr:=Lib.row_is_numeral p j c;have H:j<Lib.nDigits u:=by rw[<- Lib.decDigits_length];exact c
  have I:j<a.length:=(R0.1 (l j H)).1;have K:=p.size;simp only[putCells,Array.getElem?_toList,Array.getElem?_mapIdx];rw[show((⟨a⟩:Array Value)[j]?)=some a[j] from by simp[I]];simp only[Uk];rw[aL ⟨SM _,by omega⟩,VK,<- hr,G]⟩
theorem yr (L : LaysM.n284 P ρ) (u : Nat) (b : 1 <= u) (c : u < 18446744073709551616) (C : Mem) (d : VarC P C "internal/strconv.uint64pow10" (Lib.pow10Tab.map λz => Value.int .u64 z).toArray) (g : Enters P (ρ.f 284) = true) :
  Gives P (ρ.f 284) [.int .u64 u] C (i_ (Lib.nDigits u)) :=
 ⟨g,λw a=>(Any.internal_strconv_numDigits L u b c w (d.var a)).mono λe w' ⟨h3,h4⟩=>by
  subst h4;exact⟨_,C,[],h3,St.start a,U,U⟩⟩
end
end Go.Jog
namespace Go.Jog
open Go
section
variable {F:Fx} {k:List KI} {fr:Fr} {C:Mem} {L:List Ent}
theorem M2 {d:Cx}{b:Func}{n r:Nat}{e:List Deferred}{f:World}{g:Mem}{h:List Ent}{x:Value}(i:b.results=#[.tmp r])
  (j:ev fr [] (.tmp r)=some x) :
  ∀a w,FrOk n [] e fr a->St f g h C L w->(results b a.tmps).run d.P w=.ok x w:=λa w k _=>by
 have c:=bP k (λp hp=>by cases hp) j;simp only[Act.eval,TM]at c;simp[results,i,c]
end
theorem Fn.give {P:Program}{f:FuncId}{d:List Value}{C:Mem}{L:List Ent}{v:Value}{t c g:Nat}(b:List (List Value)){i:Value->Mem->List Ent->Prop}(j:Enters P f=true)(k:∀r∈b,r.length=c)(l:b.length=g)
  (h:∀a,C.le a->Sl a c v b->Fn P f d a L i):Fn P f d C (.arr v t c g b.flatten::L) i :=
 ⟨j,λw m=>by
  let⟨n,h1,h2,h3⟩:=St.freezeArr (St.start m) k l;refine((h n h1 h2).2 w h3.sep).mono λe w' ⟨u,a,o,p,hs,q⟩=>⟨u,a,o,p, ?_,q⟩;have:=St.call (Lp:=L) (Lr:=[]) (by rw[S8];exact h3) hs
  rwa [S8]at this⟩
end Go.Jog
namespace Go.Jog
open Go
section
variable {cx:Cx} {n:Nat} {ds:List (Option Nat)} {R:Rg n ds} {its:List It} {fr:Fr} {C:Mem} {L:List Ent} {i k d:Nat} {o:Oper} {g:GL} {v:Value}
theorem YM {t e b:Nat}{x:Operand}{p:Option Addr}(c:Nat.ble k 1=true)(f:o.dst=some d)(j:o.op=.binOp .eql t x (.const (.pointer none)) b)(l:gOf ds fr o.guard=some g)
  (m:ev fr g x=some (.pointer p)) (q:cx.P.underlying t=some (.pointer e)) (r:cx.P.pointee t=e)
  (s:aZ n ds ((d,g,.bool p.isNone)::fr) d=true) (u:wfG ds fr g=true)
  (h:D cx R its ((d,g,.bool p.isNone)::fr) C L):D cx R ((i,k,o)::its) fr C L:=by
 subst r;refine D.run _ c f l (λ_ a hs w=>?_) s u h;rw[dU j (hs _ _ m) rfl (λ_ _=>.inl am) (.inl am) w];simp only[Act.eval,run_eql_pointer_nil w t p q,Result.andThen_ok]
theorem Yz {t e c:Nat}{x y:Operand}{b:Addr}(f:Nat.ble k 1=true)(l:o.dst=some d)(m:o.op=.binOp .neq t x y c)(p:gOf ds fr o.guard=some g)
  (q:ev fr g x=some (.pointer (some b))) (r:ev fr g y=some (.pointer (some b))) (s:cx.P.underlying t=some (.pointer e)) (u:(cx.P.info? e).isSome=true)
  (v:aZ n ds ((d,g,.bool false)::fr) d=true) (z:wfG ds fr g=true)
  (h:D cx R its ((d,g,.bool false)::fr) C L):D cx R ((i,k,o)::its) fr C L:=by
 let⟨j,A⟩:=VT.1 u;refine D.run _ f l p (λ_ a hs w=>?_) v z h;rw[dU m (hs _ _ q) (hs _ _ r) (λ_ _=>.inl am) (.inl am) w];simp only[Lib.run_neq_ptr_same w b s A,Result.andThen_ok]
theorem YB {c f t e b:Nat}{x:Operand}{g:List Value}{m:Nat × Nat}(u:k=2)(y:o.dst=some d)(z:o.op=.convert c f x)(A:gOn ds fr o.guard=true)(B:ev fr [] x=some (p_ b))
  (E:Ent.obj b (.cells ⟨g⟩ e m)∈L) (F:cx.P.underlying c=some (.pointer t)) (G:cx.P.underlying f=some .unsafePointer) (H:((cx.P.info? t).map λi=>Nat.beq i.size 0)=some false) (I:0<g.length)
  (J:∀v,aZ n ds ((d,[],v)::fr) d=true)
  (h:D cx R its ((d,[],p_ b)::fr) C L):D cx R ((i,k,o)::its) fr C L:=by
 let⟨j,K,p⟩:=Option.map_eq_some_iff.1 H;refine Xc (S:=λv q r=>v=p_ b/\q=C/\r=L) (by subst u;rfl) y A J (λa M w _ s=>?_) (λT q r _ ⟨N,l,O⟩=>by subst N;subst l;subst O;exact h);have Q:w.heap[b]?=some (.cells ⟨g⟩ e m):=s.sep.e _ E;have hr:=Lib.run_to_unsafe (P:=cx.P) w (src:=c) (dst:=f) (e:=e) (cells:=g.length) ⟨b,0,none⟩ F G K (λe=>by rw[e]at p;cases p) (by simp[World.shape?,Q]) I;have l:execOp a.eval o=(do Pure.pure (.value (<- convert c f (a.eval x))):Sem Next):=by unfold execOp;rw[z]
 unfold Oper.wp;rw[l,M _ _ B];simp only[Sem.run_bind,hr,Result.andThen_ok,Sem.run_pure];exact⟨_,C,L,U,Mem.le.refl _,λ_ _ h=>h,s,U,U,U⟩
theorem YR {c f t e b:Nat}{x:Operand}{g:List Value}{m:Nat × Nat}(s:k=2)(u:o.dst=some d)(y:o.op=.convert c f x)(z:gOn ds fr o.guard=true)(A:ev fr [] x=some (p_ b))
  (B:Ent.obj b (.cells ⟨g⟩ e m)∈L) (E:cx.P.underlying c=some .unsafePointer) (F:cx.P.underlying f=some (.pointer t)) (G:(cx.P.info? t).isSome=true) (H:liesAt cx.P cx.P.depth e (g.length / cx.P.cellsOf e) 0 t 1=true)
  (I:∀v,aZ n ds ((d,[],v)::fr) d=true)
  (h:D cx R its ((d,[],p_ b)::fr) C L):D cx R ((i,k,o)::its) fr C L:=by
 let⟨j,J⟩:=VT.1 G;refine Xc (S:=λv p q=>v=p_ b/\p=C/\q=L) (by subst s;rfl) u z I (λa K w _ r=>?_) (λQ p q _ ⟨M,l,N⟩=>by subst M;subst l;subst N;exact h);have O:w.heap[b]?=some (.cells ⟨g⟩ e m):=r.sep.e _ B;have hr:=Lib.run_from_unsafe (P:=cx.P) w (src:=c) (dst:=f) (e:=e) (cells:=g.length) ⟨b,0,none⟩ E F J (by simp[World.shape?,O]) H;have l:execOp a.eval o=(do Pure.pure (.value (<- convert c f (a.eval x))):Sem Next):=by unfold execOp;rw[y]
 unfold Oper.wp;rw[l,K _ _ A];simp only[Sem.run_bind,hr,Result.andThen_ok,Sem.run_pure];exact⟨_,C,L,U,Mem.le.refl _,λ_ _ h=>h,r,U,U,U⟩
theorem YE {f:FuncId}{fn:Func}{x:Operand}{e:Array TypeId}{u:Value}(l:Nat.ble k 1=false)(m:o.dst=some d)(p:o.op=.call ⟨.value (.func f),#[x],e⟩)(q:gOn ds fr o.guard=true)
  (r : ev fr [] x = some u) (s : cx.P.funcs[f]? = some fn) (t : (fn.name == "runtime.NumGoroutine") = false) (y : fn.body.isNone = true) (z : Extern.findNext fn = none) (A : Extern.find fn = some Extern.AbiNoEscape.same)
  (B:∀v,aZ n ds ((d,[],v)::fr) d=true)
  (h:D cx R its ((d,[],u)::fr) C L):D cx R ((i,k,o)::its) fr C L:=by
 refine Xc (S:=λv g j=>v=u/\g=C/\j=L) l m q B (λa hs w _ E=>?_) (λG g j _ ⟨F,b,c⟩=>by subst F;subst b;subst c;exact h);have b:execOp a.eval o=(do let dd <- resolve a.eval ⟨.value (.func f),#[x],e⟩ o.type;invoke dd.target dd.args:Sem Next):=by unfold execOp;rw[p]
 have c:a.eval (.func f)=.func (.func f) #[] #[]:=rfl;unfold Oper.wp;rw[b];simp only[resolve,c,Deferred.ofValue,Sem.run_bind,Sem.run_pure,Result.andThen_ok,invoke,Us,Tq,Ut,hs _ _ r];rw[run_callFunc_extern s t y z A];simp only[Array.empty_append,Array.append_empty,Lib.run_noEscape,Result.andThen_ok];exact⟨_,C,L,U,Mem.le.refl _,λ_ _ h=>h,E,U,U,U⟩
theorem ju {P:Program}{b:BinOp}{t:Nat}{x:Operand}(u:Value)(w:World)(c:∀a,u≠.agg a):(eqGuard b t x (.const .nilIface) u .nilIface).run P w=.ok () w:=by
 by_cases h:u=.nilIface
 .subst h;cases b <;> first|rfl|(unfold eqGuard;simp)
 exact eK w (λa _=>.inl (c a)) (.inl h)
theorem Yl (b:Bool){c:BinOp}{t j:Nat}{x:Operand}(l:Nat.ble k 1=true)(m:o.dst=some d)(p:o.op=.binOp c t x (.const .nilIface) j)(q:gOf ds fr o.guard=some g)
  (r:ev fr g x=some .nilIface) (s:(c=.eql/\b=true)∨(c=.neq/\b=false)) (f:cx.P.underlying t=some (.interface (cx.P.methodsAt t)))
  (u:aZ n ds ((d,g,.bool b)::fr) d=true) (v:wfG ds fr g=true)
  (h:D cx R its ((d,g,.bool b)::fr) C L):D cx R ((i,k,o)::its) fr C L:=by
 refine D.run _ l m q (λ_ a hs w=>?_) u v h;rw[rK p,hs _ _ r];have e:a.eval (.const .nilIface)=.nilIface:=rfl;rcases s with⟨rfl,rfl⟩|⟨rfl,rfl⟩
 .simp only[e,Sem.run_bind,ju .nilIface w (by intro a;simp),Result.andThen_ok,run_eql_nil_nil w t f,Sem.run_pure]
 simp only[e,Sem.run_bind,ju .nilIface w (by intro a;simp),Result.andThen_ok,run_neq_nil_nil w t f,Sem.run_pure]
theorem CV {c:Cx}{d:Func}{n s t u b:Nat}{f:Fr}{C:Mem}{L:List Ent}{j:List Deferred}{k:World}{l:Mem}{m:List Ent}{r:TypeId}{v:Nat × Nat}{o:List Value}{g:TI}{y z:Value}(x:Ent.obj b (.cells ⟨o⟩ r v)∈L)(A:d.results=#[.cell s t,.tmp u])
  (B:ev f [] (.tmp s)=some (p_ b)) (D:ev f [] (.tmp u)=some z) (E:c.T.get t=some g) (G:cJ g (o.take g.size)=some y) :
  ∀a w,FrOk n [] j f a->St k l m C L w->(results d a.tmps).run c.P w=.ok (.tuple #[y,z]) w:=λa w q H=>by
 have h:=bP q (λp hp=>by cases hp) B;have i:=bP q (λp hp=>by cases hp) D;simp only[Act.eval]at h i;have I:=fD (F:=⟨c,d,n,⟨k,l,m⟩,λ_ _ _=>True,Cw.plain c.P,j,λ_ _ _=>True⟩) E (H.sep.e _ x) G;simp only[TM]at h i;simp[results,A,h,i,asAddr,I]
theorem Xr {t e:Nat}{x y:Operand}{b:IntKind}{p q:Int}(c:Int)(f:Z6 (Nat.ble k 1) true o.dst (some d) o.op (.binOp .rem t x y e) (gOf ds fr o.guard) (some g) (ev fr g x) (some (.int b p)) (ev fr g y) (some (.int b q)))(j:q≠0)(l:Z3 (p.tmod q) c (aZ n ds ((d,g,.int b c)::fr) d) true (wfG ds fr g) true)(h:D cx R its ((d,g,.int b c)::fr) C L):D cx R ((i,k,o)::its) fr C L :=
 have ⟨m,hd,r,s,u,hy⟩:=f;have ⟨v,hp,z⟩:=l;D.run _ m hd s (λ_ a hs w=>by
  rw[dU r (hs _ _ u) (hs _ _ hy) (λ_ _=>.inl am) (.inl am) w];simp[binOp,Op.intDiv,j,v]) hp z h
theorem Xg (p:Nat)(q:Nat){t b:Nat}{x y:Operand}{a:IntKind}(c:Z6 (Nat.ble k 1) true o.dst (some d) o.op (.binOp .rem t x y b) (gOf ds fr o.guard) (some g) (ev fr g x) (some (.int a (p:Nat))) (ev fr g y) (some (.int a (q:Nat))))(s:0<q)(e:Z2 (aZ n ds ((d,g,.int a ((p % q:Nat):Int))::fr) d) true (wfG ds fr g) true)(h:D cx R its ((d,g,.int a ((p % q:Nat):Int))::fr) C L):D cx R ((i,k,o)::its) fr C L:=by
 have ⟨f,hd,j,l,m,hy⟩:=c;have ⟨hp,r⟩:=e;rw[Int.natCast_emod]at hp h;exact Xz ⟨f,hd,j,l,m,hy⟩ om_ om_ ⟨hp,r⟩ h
theorem Xs (p:Nat)(q:Nat){t c:Nat}{x y:Operand}{a:IntKind}(e:Z6 (Nat.ble k 1) true o.dst (some d) o.op (.binOp .quo t x y c) (gOf ds fr o.guard) (some g) (ev fr g x) (some (.int a (p:Nat))) (ev fr g y) (some (.int a (q:Nat))))(v:0<q)(b:(a=.i64/\p<9223372036854775808)∨(a=.u64/\p<18446744073709551616))(f:Z2 (aZ n ds ((d,g,.int a ((p / q:Nat):Int))::fr) d) true (wfG ds fr g) true)(h:D cx R its ((d,g,.int a ((p / q:Nat):Int))::fr) C L):D cx R ((i,k,o)::its) fr C L:=by
 have ⟨j,hd,l,m,r,hy⟩:=e;have ⟨hp,s⟩:=f;have hr:a.wrap ((p / q:Nat):Int)=((p / q:Nat):Int):=by
  have u:=TS p q;generalize p / q=z at u⊢;rcases b with⟨rfl,b⟩|⟨rfl,b⟩
  .rw[IntKind.wrap_i64];omega
  rw[IntKind.wrap_u64];omega
 rw[Int.natCast_ediv]at hp h hr;exact D.quo j hd l m r hy om_ om_ hr hp s h
end
end Go.Jog
namespace Go.Jog
open Go
section
variable {cx:Cx} {n:Nat} {ds:List (Option Nat)} {R:Rg n ds} {its:List It} {fr:Fr} {C:Mem} {L:List Ent} {i k d:Nat} {o:Oper} {g:GL} {v:Value}
theorem XF {t f p l:Nat}{x:Operand}{q:List Value}{r m:TI}{s:List (Nat × Nat)}(B:Z12 (Nat.ble k 1) true o.dst (some d) o.op (.field t x f) (gOf ds fr o.guard) (some g) (ev fr g x) (some (.agg ⟨q⟩)) (cx.T.get t) (some r) r.k (.struct s) (s[f]?) (some (p,l)) (cx.T.get p) (some m) (bif m.agg then some (.agg ⟨(q.drop l).take m.size⟩) else q[l]?) (some v) (aZ n ds ((d,g,v)::fr) d) true (wfG ds fr g) true)(h:D cx R its ((d,g,v)::fr) C L):D cx R ((i,k,o)::its) fr C L:=by
 have ⟨E,hd,F,G,j,ht,u,b,y,c,hp,H⟩:=B;refine D.run _ E hd G (λ_ a hs w=>?_) hp H h;have I:execOp a.eval o=(do Pure.pure (.value (<- Instr.field t (a.eval x) f)):Sem Next):=by unfold execOp;rw[F]
 let⟨K,M,N,O,P⟩:=r;simp only at u;subst u;let⟨z,J,hm⟩:=nI cx.hT ht;obtain⟨e,h1,rfl,rfl⟩:∃e,z[f]?=some e/\e.type=p/\e.offset=l:=by
  rw[<- hm,SI]at b;cases j:z.toList[f]? with
 |none=>rw[j]at b;cases b
 |some e =>
   rw[j]at b;simp only[Uk,Tv,UW]at b;exact⟨e,by simpa using j,b.1,b.2⟩
 rw[I,hs _ _ j];unfold Instr.field;simp only[Sem.run_bind,run_underlying J,Result.andThen_ok,h1,asAgg,part,Sem.run_pure];rw[Iv cx.hT y w];simp only[Result.andThen_ok];cases A:m.agg with
|true =>
  rw[A]at c;simp only[Ux,Tv]at c;subst c;simp only[UK,Sem.run_bind,eD cx.hT y w,Result.andThen_ok,Sem.run_pure,List.extract_toArray,List.extract_eq_take_drop,Ud]
|false =>
  rw[A]at c;simp only[cond_false]at c;simp[c]
end
end Go.Jog
namespace Go.Jog
open Go
variable {c:UInt8}{d i k:Nat}{s:List UInt8}
def E1 (b:Bool):List UInt8:=if b then [45] else []
def dy:Option (List UInt8)->List UInt8
|none=>[]
|some b=>47::b
def mY (d:Nat):Option (List UInt8):=if d=1 then none else some (bi d)
def qtx (q:Rat):List UInt8:=E1 (decide (q.num<0))++bi q.num.natAbs++dy (mY q.den)
theorem NY (z:Int):txt z=E1 (decide (z<0))++bi z.natAbs:=by
 unfold txt E1;by_cases h:z<0
 .rw[aL h,S4 h];rfl
 rw[aF h,Te h];rfl
theorem qM (q:Rat):qtx q=txt q.num++dy (mY q.den):=by rw[NY];rfl
theorem nP (z:Int):qtx z=txt z:=by
 rw[qM];show txt z++dy (mY 1)=txt z;simp[mY,dy]
theorem pA (h:s[i]?=some c):bT (s.take (i+1))=10*bT (s.take i)+(c.toNat-48):=by
 rw[Jg h];omega
theorem mZ (a:∀c∈s,dZ c=true)(d:i<=9):bT (s.take i)<1000000000:=by
 have h1:=dG (s:=s.take i) (λc b=>a c (TP b));have h2:10 ^ (s.take i).length<=10 ^ 9:=Tb dc_ (by rw[S2];omega);omega
def Nq (A:List UInt8)(B:Option (List UInt8)):Bool:=decide (A.length<=9) && decide ((B.getD []).length<=9)
def Rz:Option (List UInt8)->Nat
|none=>1
|some b=>bT b
theorem Hy (p A r:List UInt8){j:Nat}(h:A[j]?=some c):(p++A++r)[p.length+j]?=some c:=by
 have a:=(R0.1 h).1;rw[Tn,Tj om_,Ud,Tz a,h]
theorem Df (p A r:List UInt8)(j:Nat):(p++A++r)[p.length+A.length+j]?=r[j]?:=by
 rw[Tj (by rw[SP];omega),SP,Ud]
theorem vl (n:Int)(a:d≠0):(mkRat n d).num=n / ((Nat.gcd n.natAbs d:Nat):Int)/\(mkRat n d).den=d / Nat.gcd n.natAbs d:=by
 rw[mkRat,dif_neg a,Rat.normalize_eq];exact⟨U,U⟩
theorem kw (h:d=1):mY d=none:=aL h
theorem fp (h:d≠1):mY d=some (bi d):=aF h
theorem oh (n:Nat):bi n≠[]:=(bB n).1.2.1
theorem iQ (n:Nat):∀c∈bi n,dZ c=true:=(bB n).1.1
theorem DX (d:Nat):∀b,mY d=some b->∀c∈b,dZ c=true:=by
 intro b h;unfold mY at h;split at h
 .cases h
 cases h;exact iQ d
theorem mX (d:Nat):Rz (mY d)=d:=by
 unfold mY;split
 .rename_i h;exact h.symm
 exact(bB d).2
def QB (k:Nat)(q:Rat):Prop:=q.num.natAbs<B9 ^ k/\q.den<B9 ^ k
theorem QB.le {m:Nat}{q:Rat}(h:QB k q)(a:k<=m):QB m q:=⟨TL h.1 (Tb dc_ a),TL h.2 (Tb dc_ a)⟩
theorem gA {n:Int}(a:d≠0)(b:n.natAbs<B9 ^ k)(c:d<B9 ^ k):QB k (mkRat n d):=by
 let⟨h1,h2⟩:=vl n a;refine⟨?_, ?_⟩
 .rw[h1,UL (Vo.1 (Uv.2 (VF _ _))),Tu];exact TD (TS _ _) b
 rw[h2];exact TD (TS _ _) c
theorem fc (a b:Rat):a+b=mkRat (a.num*b.den+b.num*a.den) (a.den*b.den):=by
 rw[Rat.add_def,Rat.normalize_eq_mkRat]
theorem fb (a b:Rat):a*b=mkRat (a.num*b.num) (a.den*b.den):=by
 rw[Rat.mul_def,Rat.normalize_eq_mkRat]
end Go.Jog
namespace Go.Jog
open Go
theorem St.arrObj {l:World}{o:Mem}{p:List Ent}{C:Mem}{L:List Ent}{w:World}{b e s m g:Nat}{i:List Value}(h:St l o p C (.arr (s_ b m g) e s m i::L) w) :
  ∃cs:List Value,cs.length=g*s/\cs.take (m*s)=i/\m<=g/\g<=maxLen/\St l o p C (.obj b (.cells ⟨cs⟩ e (0,0))::L) w:=by
 have r:w.ownsRow 0 e s (s_ b m g) m i:=h.sep.e _ (SK ..);let⟨_,t,u,q,v,z,A⟩:=cP r;have hd:=TW.1 h.sep.d;have j:∀k,(Ent.obj b (.cells ⟨q.toList⟩ e (0,0))).own k->(Ent.arr (s_ b m g) e s m i).own k:=λk f=>by
  simp only[Ent.own]at f;subst f;rfl
 refine⟨q.toList,by simpa using z,A,t,u,⟨⟨h.sep.c,λx a=>?_,TW.2 ⟨λy hy k f=>hd.1 y hy k (j k f),hd.2⟩,λk ⟨x,a,f⟩=>?_⟩,h.ev,h.c0,h.cn,λk ⟨x,a,f⟩=>?_⟩⟩
 .rcases SY.1 a with rfl|a
  .exact v
  exact h.sep.e x (by simp[a])
 .rcases SY.1 a with rfl|a
  .exact h.sep.n k ⟨_,SK ..,j k f⟩
  exact h.sep.n k ⟨x,by simp[a],f⟩
 rcases SY.1 a with rfl|a
 .exact h.ln k ⟨_,SK ..,j k f⟩
 exact h.ln k ⟨x,by simp[a],f⟩
end Go.Jog
namespace Go.Jog
open Go Go.MapKept
def bl (bm n:Nat)(seen:List Nat):Obj:=.mapIter (some bm) n seen.toArray n
theorem jA {b:Type}(a:b->Value):∀(m:List (b × Value))(i j:Nat),(bJ a m i)[j]?=(m[j]?).map λp=>⟨a p.1,p.2,i+j⟩
|[],i,j=>by simp[bJ]
|(k,v)::m,i,0=>by simp[bJ]
|(k,v)::m,i,j+1=>by
  simp only[bJ,Uw,jA a m (i+1) j];cases m[j]? with
 |none=>rfl
 |some p=>simp;omega
theorem mD {b:Type}{c:b->Value}{m:List (b × Value)}{e:MapEntry}(h:e∈bJ c m 0):∃p,m[e.born]?=some p/\e.key=c p.1/\e.val=p.2:=by
 let⟨j,a⟩:=Uh h;rw[jA]at a;cases hp:m[j]? with
|none=>rw[hp]at a;cases a
|some p =>
  rw[hp]at a;cases a
  exact⟨p,by simpa using hp,U,U⟩
theorem rn {a:Type}(b:a->Value)(m:List (a × Value)):((bJ b m 0).map (·.born)).Nodup:=by
 have:∀(m:List (a × Value))(i:Nat),(bJ b m i).map (·.born)=List.range' i m.length:=by
  intro m;induction m with
 |nil=>intro i;rfl
 |cons p m c=>intro i;simp only[bJ,Tq,c,S5,Wq]
 rw[this];exact List.nodup_range'
section
variable {cx:Cx} {n:Nat} {ds:List (Option Nat)} {R:Rg n ds} {its:List It} {fr:Fr} {C:Mem} {L:List Ent} {i k d:Nat} {o:Oper} {g:GL} {v:Value}
variable {kd:TypeDesc} {κ:Type} [DecidableEq κ] (K:KeyT kd κ)
theorem YD {t j l e:Nat}{x:Operand}{m:List (κ × Value)}{p:TI}(u:C e=some (bh K.enc m))(y:Nat.ble k 1=false)(z:o.dst=some d)(A:gOn ds fr o.guard=true)(B:o.op=.range t x)(f:ev fr [] x=some (.map (some e)))
  (E:cx.T.get t=some p) (F:p.k=.map j l) (G:∀v,aZ n ds ((d,[],v)::fr) d=true)
  (h:∀b,D cx R its ((d,[],p_ b)::fr) C (.obj b (bl e m.length [])::L)):D cx R ((i,k,o)::its) fr C L :=
 Xc (S:=λv q r=>q=C/\∃b,v=p_ b/\r=.obj b (bl e m.length [])::L) y z A G (λa hs w _ s=>by
  have H:w.heap[e]?=some (bh K.enc m):=s.sep.c _ _ u;have I:=ip cx.hT E F;have J:(execOp a.eval o).run cx.P w=.ok (.value (.pointer (some ⟨w.heap.size,0,none⟩))) (w.alloc (bl e m.length [])):=by
   have g:execOp a.eval o=(do Pure.pure (.value (<- Instr.range t (a.eval x))):Sem Next):=by unfold execOp;rw[B]
   rw[g,hs _ _ f];simp only[Sem.run_bind,run_range_map w t j l e _ _ I H,Result.andThen_ok,Sem.run_pure];rfl
  unfold Oper.wp;rw[J];exact⟨_,C,.obj w.heap.size (bl e m.length [])::L,U,Mem.le.refl _,λ_ x f=>by simp[f],St.alloc s _,U,_,U,U⟩)
  (λv q r _ ⟨g,b,M,N⟩=>by subst g;subst M;subst N;exact h b)
theorem tF {a:Type}{enc:a->Value}{m:List (a × Value)}{b:List Nat}{j:Nat}{p:a × Value}(c:m[j]?=some p)(d:j ∉ b):(⟨enc p.1,p.2,j⟩:MapEntry)∈(leftOf (bJ enc m 0).toArray b.toArray).toList:=by
 unfold leftOf;simp only[Array.toList_filter,Uf];refine⟨?_, ?_⟩
 .refine aK (i:=j) ?_;rw[jA,c];simp
 simpa using d
theorem YJ {b q g:Nat}{x:Operand}{m:List (κ × Value)}{f:List Nat}(hc:C g=some (bh K.enc m))(hk:k=3)(hd:o.dst=some d)(hg:gOn ds fr o.guard=true)(aa:o.op=.next x false)(l:ev fr [] x=some (p_ b))
  (hm:L[q]?=some (.obj b (bl g m.length f))) (hp:∀v,aZ n ds ((d,[],v)::fr) d=true)
  (h:∀(r:Bool)(rest:List Value)(s:List Nat),(r=false/\s=f/\∀j,j<m.length->j∈f)∨(r=true/\∃j,j<m.length/\j ∉ f/\s=f++[j]) ->
   D cx R its ((d,[],.tuple ⟨.bool r::rest⟩)::fr) C (.obj b (bl g m.length s)::L.eraseIdx q)):D cx R ((i,k,o)::its) fr C L :=
 Xc (S:=λv M N=>M=C/\∃(r:Bool)(rest:List Value)(s:List Nat),((r=false/\s=f/\∀j,j<m.length->j∈f)∨(r=true/\∃j,j<m.length/\j ∉ f/\s=f++[j]))/\v=.tuple ⟨.bool r::rest⟩/\N=.obj b (bl g m.length s)::L.eraseIdx q) (by subst hk;rfl) hd hg hp (λa hs w _ O=>by
  have y:=St.perm O (ax hm);have z:w.heap[b]?=some (bl g m.length f):=y.sep.e _ (SK ..);have ab:w.heap[g]?=some (bh K.enc m):=O.sep.c _ _ hc;have t:execOp a.eval o=(do Pure.pure (.value (<- Instr.next (a.eval x) false 0)):Sem Next):=by unfold execOp;rw[aa];rfl
  have hold:∀x∈(bJ K.enc m 0).toArray.toList,x.born<m.length:=λx l=>by
   let⟨p,h1,_⟩:=mD (show x∈bJ K.enc m 0 by simpa using l);exact(R0.1 h1).1
  have ac:∀w:World,w.heap[b]?=some (bl g m.length f)->(getObj b).run cx.P w=.ok (bl g m.length f) w:=λw h=>by
   simp only[getObj,Sem.run,h,bl]
  have A:(∀j,j<m.length->j∈f)/\(Instr.next (p_ b) false 0).run cx.P w=.ok (.tuple #[.bool false]) w ∨
    ∃(j:Nat)(p:κ × Value)(w1:World),m[j]?=some p/\j ∉ f/\w1.heap=w.heap/\w1.os=w.os/\w1.tape=w.tape/\w1.output=w.output/\w.drawn<=w1.drawn /\
     (Instr.next (p_ b) false 0).run cx.P w=.ok (.tuple #[.bool true,K.enc p.1,p.2]) { w1 with heap:=w1.heap.setIfInBounds b (bl g m.length (f++[j])) }:=by
   have ad:(Instr.next (p_ b) false 0).run cx.P w=(do
     let Q:=(if (leftOf (bJ K.enc m 0).toArray f.toArray).isEmpty then #[none] else #[])++(leftOf (bJ K.enc m 0).toArray f.toArray).map some
     match Q[<- choose (.mapNext Q.size)]? with
    |some (some e) =>
      setObj b (.mapIter (some g) m.length (f.toArray.push e.born) m.length)
      Pure.pure (Value.tuple #[.bool true,e.key,e.val])
    |some none=>Pure.pure (Value.tuple #[.bool false])
    |none => stuck "Next: no such candidate" : Sem Value).run cx.P w := by
    have T:∀x∈(leftOf (bJ K.enc m 0).toArray f.toArray).toList,x.born<m.length:=λx l=>hold x (mem_left l).1;have V:(leftOf (bJ K.enc m 0).toArray f.toArray).filter (λx=>decide (x.born<m.length))=leftOf (bJ K.enc m 0).toArray f.toArray:=Array.filter_eq_self.2 (λx l=>by simpa using T x (by simpa using l));have W:(leftOf (bJ K.enc m 0).toArray f.toArray).filter (λx=>decide (x.born ≥ m.length))=#[]:=by
     rw[Array.filter_eq_empty_iff];intro x l;have:=T x (by simpa using l);simp;omega
    unfold Instr.next;simp only[Sem.run_bind,ac w z,Result.andThen_ok,bl];have ae:(getObj g).run cx.P w=.ok (.map (bJ K.enc m 0).toArray m.length) w:=Go.MapKept.run_getObj_map ab;simp only[Sem.run_bind,ae,Result.andThen_ok,next_test_false f.toArray (bJ K.enc m 0).toArray m.length m.length hold (SH _),TG,Ui];unfold leftOf at V W⊢;simp only[V,W,Array.append_empty];refine congrArg _ (funext λa=>funext λw'=>?_);congr 1
   rw[ad];have X:∀e∈(leftOf (bJ K.enc m 0).toArray f.toArray).toList,∃p,m[e.born]?=some p/\e.born ∉ f/\e.key=K.enc p.1/\e.val=p.2:=λe B=>by
    let⟨h1,h2⟩:=mem_left B;let⟨p,h3,h4,h5⟩:=mD (show e∈bJ K.enc m 0 by simpa using h1);exact⟨p,h3,by simpa using h2,h4,h5⟩
   have Y:(leftOf (bJ K.enc m 0).toArray f.toArray)=#[]->∀j,j<m.length->j∈f:=λB j E=>by
    by_cases hs:j∈f
    .exact hs
    have:=tF (enc:=K.enc) (aj E) hs;rw[B]at this;cases this
   generalize leftOf (bJ K.enc m 0).toArray f.toArray=F at X Y⊢;by_cases h0:F.size=0
   .have:F=#[]:=Array.eq_empty_of_size_eq_zero h0;subst this;left;refine⟨Y U, ?_⟩;simp[choose,Sem.run,Question.forced]
   right;have af:F.isEmpty=false:=by simp[Array.isEmpty,h0]
   simp only[af,TG,Ui,Array.empty_append,Array.size_map];have ag:∃(j:Nat)(w1:World),j<F.size/\w1.heap=w.heap/\w1.os=w.os/\w1.tape=w.tape/\w1.output=w.output/\w.drawn<=w1.drawn/\(choose (Question.mapNext F.size)).run cx.P w=.ok j w1:=by
    by_cases Z:F.size<=1
    .exact⟨0,w,by omega,U,U,U,U,SH _,by simp[choose,Sem.run,Question.forced,Z]⟩
    exact⟨_,w.drew,Ts _ om_,U,U,U,U,UZ _,by
     simp only[choose,Sem.run,Question.forced,SS,Z,Ui,Question.cut];rfl⟩
   let⟨j,w1,E,hh,G,H,I,J,A⟩:=ag;let⟨p,h1,h2,h3,h4⟩:=X F[j] am;refine⟨F[j].born,p,w1,h1,h2,hh,G,H,I,J, ?_⟩;have u:(setObj b (.mapIter (some g) m.length (f.toArray.push F[j].born) m.length)).run cx.P w1=.ok () { w1 with heap:=w1.heap.setIfInBounds b (bl g m.length (f++[F[j].born])) }:=by
    have ah:w1.heap[b]?=some (bl g m.length f):=by rw[hh];exact z
    simp only[setObj,Sem.run,ah,bl];simp
   simp only[A,Array.getElem?_map,Array.getElem?_eq_getElem E,Uk,Sem.run_bind,Result.andThen_ok,u,Sem.run_pure,h3,h4]
  rw[show a.eval x=p_ b from hs _ _ l]at t;unfold Oper.wp;rw[t];rcases A with⟨h1,hr⟩|⟨j,p,w1,h1,h2,hh,G,H,I,J,hr⟩
  .simp only[Sem.run_bind,hr,Result.andThen_ok,Sem.run_pure];exact⟨_,C,.obj b (bl g m.length f)::L.eraseIdx q,U,Mem.le.refl _,λh2=>by omega,y,U,false,[],f,.inl ⟨U,U,h1⟩,U,U⟩
  .simp only[Sem.run_bind,hr,Result.andThen_ok,Sem.run_pure];have ai:=y.same (w':=w1) G H I hh J;have u:=heap_set (o':=bl g m.length (f++[j])) (show w1.heap[b]?=_ from by rw[hh];exact z);exact⟨_,C,.obj b (bl g m.length (f++[j]))::L.eraseIdx q,U,Mem.le.refl _,λh2=>by omega,St.put ai u.1 u.2 am U U U (SH _),U,true,[K.enc p.1,p.2],_,
    .inr ⟨rfl,j,(R0.1 h1).1,h2,rfl⟩,rfl,rfl⟩)
  (λv M N _ ⟨t,r,rest,s,h1,e2,e3⟩=>by subst t;subst e2;subst e3;exact h r rest s h1)
theorem YG {b f j:Nat}{x:Operand}{m:List (κ × Value)}{l:List Nat}{p:κ × Value}(t:C f=some (bh K.enc m))(u:m[j]?=some p)(v:Ent.obj b (bl f m.length (l++[j]))∈L)(q:k=1)(y:o.dst=some d)(z:o.op=.entry x)(A:gOf ds fr o.guard=some g)(B:ev fr g x=some (p_ b))
  (E:aZ n ds ((d,g,.tuple #[K.enc p.1,p.2])::fr) d=true) (F:wfG ds fr g=true)
  (h:D cx R its ((d,g,.tuple #[K.enc p.1,p.2])::fr) C L):D cx R ((i,k,o)::its) fr C L :=
 Xe (by subst q;rfl) y A E F (λ_ a hs T r w s=>by
  have G:w.heap[b]?=some (bl f m.length (l++[j])):=s.sep.e _ ((r q).2 _ v);have H:w.heap[f]?=some (bh K.enc m):=s.sep.c _ _ ((r q).1 _ _ t);have I:(bJ K.enc m 0).toArray.find? (·.born == j)=some ⟨K.enc p.1,p.2,j⟩:=by
   rw[<- Array.find?_toList];refine find_born ⟨K.enc p.1,p.2,j⟩ _ (by simpa using rn K.enc m)<|aK (i:=j) ?_;simp[jA,u]
  have J:(Instr.entry (p_ b)).run cx.P w=.ok (.tuple #[K.enc p.1,p.2]) w:=by
   have M:(getObj f).run cx.P w=.ok (.map (bJ K.enc m 0).toArray m.length) w:=Go.MapKept.run_getObj_map H;have N:(getObj b).run cx.P w=.ok (bl f m.length (l++[j])) w:=by simp only[getObj,Sem.run,G,bl]
   unfold Instr.entry;simp only[Sem.run_bind,N,Result.andThen_ok,bl];have O:(l++[j]).toArray.back?=some j:=by simp
   simp only[O,M,Sem.run_bind,Result.andThen_ok,bne_self_eq_false,TG,Ui,I,Sem.run_pure]
  have Q:(execOp a.eval o).run cx.P w=.ok (.value (.tuple #[K.enc p.1,p.2])) w:=by
   have S:execOp a.eval o=(do Pure.pure (.value (<- Instr.entry (a.eval x))):Sem Next):=by unfold execOp;rw[z]
   rw[S,hs _ _ B];simp only[Sem.run_bind,J,Result.andThen_ok,Sem.run_pure]
  unfold Oper.quietAt;rw[Q];exact⟨U,U⟩) h
end
end Go.Jog
namespace Go.Jog
open Go Go.MapKept
structure KeyP (P:Program)(kt:TypeId)(κ:Type)[DecidableEq κ] where
 enc:κ->Value
 check:∀a em w,(Instr.checkKey em 10000 kt (enc a)).run P w=.ok () w
 ask:∀x es w,(Instr.findKey kt x es).run P w=(Instr.findAsking kt x es).run P w
 same:∀a b w,(Op.equal kt (enc a) (enc b)).run P w=.ok (decide (a=b)) w
 stays:∀a w,(Instr.keyThatStays (enc a) (enc a)).run P w=.ok (enc a) w
section
variable {κ:Type} [DecidableEq κ] {enc:κ->Value}
theorem rm {k:κ}{v:Value}:∀{m:List (κ × Value)}{i:Nat},kT m k=none->bJ enc m i++[⟨enc k,v,i+m.length⟩]=bJ enc (jd m k v) i/\(jd m k v).length=m.length+1
|[],i,_=>⟨rfl,rfl⟩
|(d,e)::m,i,h=>by
  simp only[kT]at h;split at h
  .cases h
  rename_i a;have b:kT m k=none:=by
   cases c:kT m k with
  |none=>rfl
  |some p=>rw[c]at h;cases h
  let⟨h1,h2⟩:=rm (i:=i+1) (v:=v) b;simp only[jd,aF a,bJ,UA,S5,h2];refine⟨?_,trivial⟩;rw[<- h1];congr 3;congr 1;omega
theorem rk {k:κ}{v:Value}:∀{m:List (κ × Value)}{i q:Nat}{u:Value},kT m k=some (q,u)->(bJ enc m i).modify q (λe=>{ e with key:=enc k,val:=v })=bJ enc (jd m k v) i/\(jd m k v).length=m.length/\((bJ enc m i)[q]?).map (·.key)=some (enc k)
|[],_,_,_,h=>by cases h
|(c,d)::m,i,q,u,h=>by
  simp only[kT]at h;split at h
  .rename_i e;subst e;cases h
   simp[bJ,jd]
  rename_i b;cases a:kT m k with
 |none=>rw[a]at h;cases h
 |some p =>
   let⟨f,g⟩:=p;rw[a]at h;cases h
   let⟨h1,h2,h3⟩:=rk (i:=i+1) (v:=v) a;simp only[jd,aF b,bJ,S5,h2,List.modify_succ_cons,h1];exact⟨trivial,trivial,by simpa using h3⟩
end
section
variable {P:Program} {kt:TypeId} {κ:Type} [DecidableEq κ] (K:KeyP P kt κ)
theorem CO (k:κ)(w:World):∀(m:List (κ × Value))(i j:Nat),(Instr.findAsking kt (K.enc k) (bJ K.enc m i) j).run P w=.ok ((kT m k).map λp=>(j+p.1,p.2)) w
|[],i,j=>rfl
|(a,v)::m,i,j=>by
  simp only[bJ,Instr.findAsking,Sem.run_bind,K.same,Result.andThen_ok];by_cases h:k=a
  .subst h;simp[kT]
  have b:¬ a=k:=λe=>h e.symm;simp only[h,decide_false,CO k w m (i+1) (j+1),kT,aF b,TG,Ui];cases kT m k with
 |none=>rfl
 |some p=>simp;omega
theorem xz (k:κ)(m:List (κ × Value))(i:Nat)(w:World):(Instr.findKey kt (K.enc k) (bJ K.enc m i)).run P w=.ok (kT m k) w:=by
 rw[K.ask,CO K k w m i 0];cases kT m k <;> simp
theorem qH {T:Tab}(c:oZ P T=true){t d:Nat}{e f:TI}{a:Bool}(g:T.get t=some e)(h:e.k=.map kt d)(i:T.get d=some f){w:World}{b:Nat}{m:List (κ × Value)}(j:w.heap[b]?=some (bh K.enc m))(y:κ) :
  (Instr.lookup t (.map (some b)) (K.enc y) a).run P w=.ok (mF f.zv a (eh m y)) w:=by
 have l:=ip c g h;have h1:(getObj b).run P w=.ok (.map ⟨bJ K.enc m 0⟩ m.length) w:=Go.MapKept.run_getObj_map j;have h2:=xz K y m 0 w;rw[<- rj];unfold Instr.lookup;simp only[Sem.run_bind,run_underlying l,Result.andThen_ok,h1,Sem.run_pure,K.check];rw[h2];cases kT m y with
|none=>cases a <;> simp[mF,pN c i w]
|some p=>cases a <;> simp[mF]
end
section
variable {cx:Cx} {n:Nat} {ds:List (Option Nat)} {R:Rg n ds} {its:List It} {fr:Fr} {C:Mem} {L:List Ent} {i k d:Nat} {o:Oper} {g:GL} {v:Value}
variable {κ:Type} [DecidableEq κ]
theorem Yj {b t j l:Nat}(K:KeyP cx.P j κ){x y:Operand}{c:Bool}{m:List (κ × Value)}{f:κ}{p q:TI}(s:Ent.obj b (bh K.enc m)∈L)(r:k=1)(u:o.dst=some d)(z:o.op=.lookup t x y c)(A:gOf ds fr o.guard=some g)(B:ev fr g x=some (.map (some b)))(E:ev fr g y=some (K.enc f))
  (F:cx.T.get t=some p) (G:p.k=.map j l) (H:cx.T.get l=some q) (I:mF q.zv c (eh m f)=v) (J:aZ n ds ((d,g,v)::fr) d=true) (M:wfG ds fr g=true)
  (h:D cx R its ((d,g,v)::fr) C L):D cx R ((i,k,o)::its) fr C L :=
 Xe (by subst r;rfl) u A J M (λ_ a hs W N w O=>by
  have Q:w.heap[b]?=some (bh K.enc m):=O.sep.e _ ((N r).2 _ s);have S:(execOp a.eval o).run cx.P w=.ok (.value v) w:=by
   have V:execOp a.eval o=(do Pure.pure (.value (<- Instr.lookup t (a.eval x) (a.eval y) c)):Sem Next):=by unfold execOp;rw[z]
   rw[V,hs _ _ B,hs _ _ E,<- I];simp only[Sem.run_bind,qH K cx.hT F G H Q f,Result.andThen_ok,Sem.run_pure]
  unfold Oper.quietAt;rw[S];exact⟨U,U⟩) h
theorem Yk {b t j l:Nat}(K:KeyP cx.P j κ){x y:Operand}{e:Bool}{m:List (κ × Value)}{f:κ}{p q:TI}(s:GT ds fr g->C b=some (bh K.enc m))(r:k=1)(u:o.dst=some d)(z:o.op=.lookup t x y e)(A:gOf ds fr o.guard=some g)(B:ev fr g x=some (.map (some b)))(E:ev fr g y=some (K.enc f))
  (F:cx.T.get t=some p) (G:p.k=.map j l) (H:cx.T.get l=some q) (I:mF q.zv e (eh m f)=v) (J:aZ n ds ((d,g,v)::fr) d=true) (M:wfG ds fr g=true)
  (h:D cx R its ((d,g,v)::fr) C L):D cx R ((i,k,o)::its) fr C L :=
 Xe (by subst r;rfl) u A J M (λN a hs X O w Q=>by
  have S:w.heap[b]?=some (bh K.enc m):=Q.sep.c _ _ ((O r).1 _ _ (s N));have V:(execOp a.eval o).run cx.P w=.ok (.value v) w:=by
   have W:execOp a.eval o=(do Pure.pure (.value (<- Instr.lookup t (a.eval x) (a.eval y) e)):Sem Next):=by unfold execOp;rw[z]
   rw[W,hs _ _ B,hs _ _ E,<- I];simp only[Sem.run_bind,qH K cx.hT F G H S f,Result.andThen_ok,Sem.run_pure]
  unfold Oper.quietAt;rw[V];exact⟨U,U⟩) h
theorem Yb {t f A j b:Nat}(K:KeyP cx.P f κ){x y z:Operand}{m:List (κ × Value)}{key:κ}{g:TI}(B:k=3)(E:gOn ds fr o.guard=true)(F:o.dst=none)(G:o.op=.mapUpdate t x y z)
  (H:ev fr [] x=some (.map (some b))) (I:ev fr [] y=some (K.enc key)) (J:ev fr [] z=some v) (M:L[j]?=some (.obj b (bh K.enc m)))
  (N:cx.T.get t=some g) (O:g.k=.map f A)
  (h:D cx R its fr C (.obj b (bh K.enc (jd m key v))::L.eraseIdx j)):D cx R ((i,k,o)::its) fr C L :=
 XI (S:=λl L'=>l=C/\L'=.obj b (bh K.enc (jd m key v))::L.eraseIdx j) (by subst B;rfl) E (λa hs w _ Q=>by
  have n:=St.perm Q (ax M);have c:w.heap[b]?=some (bh K.enc m):=n.sep.e _ (SK ..);have V:=ip cx.hT N O;have h1:(getObj b).run cx.P w=.ok (.map ⟨bJ K.enc m 0⟩ m.length) w:=Go.MapKept.run_getObj_map c;have h2:=xz K key m 0 w;have W:(Instr.mapUpdate t (.map (some b)) (K.enc key) v).run cx.P w=.ok () { w with heap:=w.heap.setIfInBounds b (bh K.enc (jd m key v)) }:=by
   unfold Instr.mapUpdate;simp only[Sem.run_bind,run_underlying V,Result.andThen_ok,h1,K.check];rw[h2];cases r:kT m key with
  |none =>
    let⟨h3,h4⟩:=rm (enc:=K.enc) (v:=v) (i:=0) r;simp only[Result.andThen_ok];rw[Go.MapKept.run_setObj_map (P:=cx.P) _ c];congr 2;simp only[bh,h4,<- h3,TX];congr 2;apply Uz;simp
  |some p =>
    let⟨q,u⟩:=p;let⟨h3,h4,h5⟩:=rk (enc:=K.enc) (v:=v) (i:=0) r;have X:(((⟨bJ K.enc m 0⟩:Array MapEntry)[q]?).map (·.key)).getD (K.enc key)=K.enc key:=by
     show(((bJ K.enc m 0).toArray[q]?).map (·.key)).getD (K.enc key)=K.enc key;rw[T9,h5];rfl
    simp only[Result.andThen_ok,Sem.run_bind];rw[X,K.stays];simp only[Result.andThen_ok];rw[Go.MapKept.run_setObj_map (P:=cx.P) _ c];congr 2;simp only[bh,h4,<- h3];congr 2;apply Uz;simp
  have Y:(execOp a.eval o).run cx.P w=.ok .skip { w with heap:=w.heap.setIfInBounds b (bh K.enc (jd m key v)) }:=by
   have d:execOp a.eval o=(do Instr.mapUpdate t (a.eval x) (a.eval y) (a.eval z);Pure.pure .skip:Sem Next):=by unfold execOp;rw[G]
   rw[d,hs _ _ H,hs _ _ I,hs _ _ J];simp only[Sem.run_bind,W,Result.andThen_ok,Sem.run_pure]
  unfold Oper.wp;rw[Y];have s:=heap_set (o':=bh K.enc (jd m key v)) c;refine⟨C,.obj b (bh K.enc (jd m key v))::L.eraseIdx j, ?_,Mem.le.refl _,λh2=>by omega,St.put n s.1 s.2 am U U U (SH _),U,U⟩;rw[F];rfl)
  (λl L' _ ⟨d,Z⟩=>by subst d;subst Z;exact h)
end
end Go.Jog
namespace Go.Jog
open Go Go.MapKept
section
variable {cx:Cx} {n:Nat} {ds:List (Option Nat)} {R:Rg n ds} {its:List It} {fr:Fr} {C:Mem} {L:List Ent} {i k d:Nat} {o:Oper} {g:GL} {v:Value}
variable {κ:Type} (enc:κ->Value)
theorem Yd {t j l e:Nat}{x:Operand}{m:List (κ × Value)}{p:TI}(u:C e=some (bh enc m))(y:Nat.ble k 1=false)(z:o.dst=some d)(A:gOn ds fr o.guard=true)(B:o.op=.range t x)(f:ev fr [] x=some (.map (some e)))
  (E:cx.T.get t=some p) (F:p.k=.map j l) (G:∀v,aZ n ds ((d,[],v)::fr) d=true)
  (h:∀b,D cx R its ((d,[],p_ b)::fr) C (.obj b (bl e m.length [])::L)):D cx R ((i,k,o)::its) fr C L :=
 Xc (S:=λv q r=>q=C/\∃b,v=p_ b/\r=.obj b (bl e m.length [])::L) y z A G (λa hs w _ s=>by
  have H:w.heap[e]?=some (bh enc m):=s.sep.c _ _ u;have I:=ip cx.hT E F;have J:(execOp a.eval o).run cx.P w=.ok (.value (.pointer (some ⟨w.heap.size,0,none⟩))) (w.alloc (bl e m.length [])):=by
   have g:execOp a.eval o=(do Pure.pure (.value (<- Instr.range t (a.eval x))):Sem Next):=by unfold execOp;rw[B]
   rw[g,hs _ _ f];simp only[Sem.run_bind,run_range_map w t j l e _ _ I H,Result.andThen_ok,Sem.run_pure];rfl
  unfold Oper.wp;rw[J];exact⟨_,C,.obj w.heap.size (bl e m.length [])::L,U,Mem.le.refl _,λ_ x f=>by simp[f],St.alloc s _,U,_,U,U⟩)
  (λv q r _ ⟨g,b,K,M⟩=>by subst g;subst K;subst M;exact h b)
theorem Yg {b q g:Nat}{x:Operand}{m:List (κ × Value)}{f:List Nat}(Z:C g=some (bh enc m))(hk:k=3)(hd:o.dst=some d)(hg:gOn ds fr o.guard=true)(aa:o.op=.next x false)(l:ev fr [] x=some (p_ b))
  (hm:L[q]?=some (.obj b (bl g m.length f))) (hp:∀v,aZ n ds ((d,[],v)::fr) d=true)
  (h:∀(r:Bool)(rest:List Value)(s:List Nat),(r=false/\s=f/\∀j,j<m.length->j∈f)∨(r=true/\∃j,j<m.length/\j ∉ f/\s=f++[j]) ->
   D cx R its ((d,[],.tuple ⟨.bool r::rest⟩)::fr) C (.obj b (bl g m.length s)::L.eraseIdx q)):D cx R ((i,k,o)::its) fr C L :=
 Xc (S:=λv K M=>K=C/\∃(r:Bool)(rest:List Value)(s:List Nat),((r=false/\s=f/\∀j,j<m.length->j∈f)∨(r=true/\∃j,j<m.length/\j ∉ f/\s=f++[j]))/\v=.tuple ⟨.bool r::rest⟩/\M=.obj b (bl g m.length s)::L.eraseIdx q) (by subst hk;rfl) hd hg hp (λa hs w _ N=>by
  have y:=St.perm N (ax hm);have z:w.heap[b]?=some (bl g m.length f):=y.sep.e _ (SK ..);have ab:w.heap[g]?=some (bh enc m):=N.sep.c _ _ Z;have t:execOp a.eval o=(do Pure.pure (.value (<- Instr.next (a.eval x) false 0)):Sem Next):=by unfold execOp;rw[aa];rfl
  have hold:∀x∈(bJ enc m 0).toArray.toList,x.born<m.length:=λx l=>by
   let⟨p,h1,_⟩:=mD (show x∈bJ enc m 0 by simpa using l);exact(R0.1 h1).1
  have ac:∀w:World,w.heap[b]?=some (bl g m.length f)->(getObj b).run cx.P w=.ok (bl g m.length f) w:=λw h=>by
   simp only[getObj,Sem.run,h,bl]
  have A:(∀j,j<m.length->j∈f)/\(Instr.next (p_ b) false 0).run cx.P w=.ok (.tuple #[.bool false]) w ∨
    ∃(j:Nat)(p:κ × Value)(w1:World),m[j]?=some p/\j ∉ f/\w1.heap=w.heap/\w1.os=w.os/\w1.tape=w.tape/\w1.output=w.output/\w.drawn<=w1.drawn /\
     (Instr.next (p_ b) false 0).run cx.P w=.ok (.tuple #[.bool true,enc p.1,p.2]) { w1 with heap:=w1.heap.setIfInBounds b (bl g m.length (f++[j])) }:=by
   have ad:(Instr.next (p_ b) false 0).run cx.P w=(do
     let O:=(if (leftOf (bJ enc m 0).toArray f.toArray).isEmpty then #[none] else #[])++(leftOf (bJ enc m 0).toArray f.toArray).map some
     match O[<- choose (.mapNext O.size)]? with
    |some (some e) =>
      setObj b (.mapIter (some g) m.length (f.toArray.push e.born) m.length)
      Pure.pure (Value.tuple #[.bool true,e.key,e.val])
    |some none=>Pure.pure (Value.tuple #[.bool false])
    |none => stuck "Next: no such candidate" : Sem Value).run cx.P w := by
    have Q:∀x∈(leftOf (bJ enc m 0).toArray f.toArray).toList,x.born<m.length:=λx l=>hold x (mem_left l).1;have T:(leftOf (bJ enc m 0).toArray f.toArray).filter (λx=>decide (x.born<m.length))=leftOf (bJ enc m 0).toArray f.toArray:=Array.filter_eq_self.2 (λx l=>by simpa using Q x (by simpa using l));have V:(leftOf (bJ enc m 0).toArray f.toArray).filter (λx=>decide (x.born ≥ m.length))=#[]:=by
     rw[Array.filter_eq_empty_iff];intro x l;have:=Q x (by simpa using l);simp;omega
    unfold Instr.next;simp only[Sem.run_bind,ac w z,Result.andThen_ok,bl];have ae:(getObj g).run cx.P w=.ok (.map (bJ enc m 0).toArray m.length) w:=Go.MapKept.run_getObj_map ab;simp only[Sem.run_bind,ae,Result.andThen_ok,next_test_false f.toArray (bJ enc m 0).toArray m.length m.length hold (SH _),TG,Ui];unfold leftOf at T V⊢;simp only[T,V,Array.append_empty];refine congrArg _ (funext λa=>funext λw'=>?_);congr 1
   rw[ad];have W:∀e∈(leftOf (bJ enc m 0).toArray f.toArray).toList,∃p,m[e.born]?=some p/\e.born ∉ f/\e.key=enc p.1/\e.val=p.2:=λe B=>by
    let⟨h1,h2⟩:=mem_left B;let⟨p,h3,h4,h5⟩:=mD (show e∈bJ enc m 0 by simpa using h1);exact⟨p,h3,by simpa using h2,h4,h5⟩
   have X:(leftOf (bJ enc m 0).toArray f.toArray)=#[]->∀j,j<m.length->j∈f:=λB j E=>by
    by_cases hs:j∈f
    .exact hs
    have:=tF (enc:=enc) (aj E) hs;rw[B]at this;cases this
   generalize leftOf (bJ enc m 0).toArray f.toArray=F at W X⊢;by_cases h0:F.size=0
   .have:F=#[]:=Array.eq_empty_of_size_eq_zero h0;subst this;left;refine⟨X U, ?_⟩;simp[choose,Sem.run,Question.forced]
   right;have af:F.isEmpty=false:=by simp[Array.isEmpty,h0]
   simp only[af,TG,Ui,Array.empty_append,Array.size_map];have ag:∃(j:Nat)(w1:World),j<F.size/\w1.heap=w.heap/\w1.os=w.os/\w1.tape=w.tape/\w1.output=w.output/\w.drawn<=w1.drawn/\(choose (Question.mapNext F.size)).run cx.P w=.ok j w1:=by
    by_cases Y:F.size<=1
    .exact⟨0,w,by omega,U,U,U,U,SH _,by simp[choose,Sem.run,Question.forced,Y]⟩
    exact⟨_,w.drew,Ts _ om_,U,U,U,U,UZ _,by
     simp only[choose,Sem.run,Question.forced,SS,Y,Ui,Question.cut];rfl⟩
   let⟨j,w1,E,hh,G,H,I,J,A⟩:=ag;let⟨p,h1,h2,h3,h4⟩:=W F[j] am;refine⟨F[j].born,p,w1,h1,h2,hh,G,H,I,J, ?_⟩;have u:(setObj b (.mapIter (some g) m.length (f.toArray.push F[j].born) m.length)).run cx.P w1=.ok () { w1 with heap:=w1.heap.setIfInBounds b (bl g m.length (f++[F[j].born])) }:=by
    have ah:w1.heap[b]?=some (bl g m.length f):=by rw[hh];exact z
    simp only[setObj,Sem.run,ah,bl];simp
   simp only[A,Array.getElem?_map,Array.getElem?_eq_getElem E,Uk,Sem.run_bind,Result.andThen_ok,u,Sem.run_pure,h3,h4]
  rw[show a.eval x=p_ b from hs _ _ l]at t;unfold Oper.wp;rw[t];rcases A with⟨h1,hr⟩|⟨j,p,w1,h1,h2,hh,G,H,I,J,hr⟩
  .simp only[Sem.run_bind,hr,Result.andThen_ok,Sem.run_pure];exact⟨_,C,.obj b (bl g m.length f)::L.eraseIdx q,U,Mem.le.refl _,λh2=>by omega,y,U,false,[],f,.inl ⟨U,U,h1⟩,U,U⟩
  .simp only[Sem.run_bind,hr,Result.andThen_ok,Sem.run_pure];have ai:=y.same (w':=w1) G H I hh J;have u:=heap_set (o':=bl g m.length (f++[j])) (show w1.heap[b]?=_ from by rw[hh];exact z);exact⟨_,C,.obj b (bl g m.length (f++[j]))::L.eraseIdx q,U,Mem.le.refl _,λh2=>by omega,St.put ai u.1 u.2 am U U U (SH _),U,true,[enc p.1,p.2],_,
    .inr ⟨rfl,j,(R0.1 h1).1,h2,rfl⟩,rfl,rfl⟩)
  (λv K M _ ⟨t,r,rest,s,h1,e2,e3⟩=>by subst t;subst e2;subst e3;exact h r rest s h1)
theorem Ye {b f j:Nat}{x:Operand}{m:List (κ × Value)}{l:List Nat}{p:κ × Value}(t:C f=some (bh enc m))(u:m[j]?=some p)(v:Ent.obj b (bl f m.length (l++[j]))∈L)(q:k=1)(y:o.dst=some d)(z:o.op=.entry x)(A:gOf ds fr o.guard=some g)(B:ev fr g x=some (p_ b))
  (E:aZ n ds ((d,g,.tuple #[enc p.1,p.2])::fr) d=true) (F:wfG ds fr g=true)
  (h:D cx R its ((d,g,.tuple #[enc p.1,p.2])::fr) C L):D cx R ((i,k,o)::its) fr C L :=
 Xe (by subst q;rfl) y A E F (λ_ a hs S r w s=>by
  have G:w.heap[b]?=some (bl f m.length (l++[j])):=s.sep.e _ ((r q).2 _ v);have H:w.heap[f]?=some (bh enc m):=s.sep.c _ _ ((r q).1 _ _ t);have I:(bJ enc m 0).toArray.find? (·.born == j)=some ⟨enc p.1,p.2,j⟩:=by
   rw[<- Array.find?_toList];refine find_born ⟨enc p.1,p.2,j⟩ _ (by simpa using rn enc m)<|aK (i:=j) ?_;simp[jA,u]
  have J:(Instr.entry (p_ b)).run cx.P w=.ok (.tuple #[enc p.1,p.2]) w:=by
   have K:(getObj f).run cx.P w=.ok (.map (bJ enc m 0).toArray m.length) w:=Go.MapKept.run_getObj_map H;have M:(getObj b).run cx.P w=.ok (bl f m.length (l++[j])) w:=by simp only[getObj,Sem.run,G,bl]
   unfold Instr.entry;simp only[Sem.run_bind,M,Result.andThen_ok,bl];have N:(l++[j]).toArray.back?=some j:=by simp
   simp only[N,K,Sem.run_bind,Result.andThen_ok,bne_self_eq_false,TG,Ui,I,Sem.run_pure]
  have O:(execOp a.eval o).run cx.P w=.ok (.value (.tuple #[enc p.1,p.2])) w:=by
   have Q:execOp a.eval o=(do Pure.pure (.value (<- Instr.entry (a.eval x))):Sem Next):=by unfold execOp;rw[z]
   rw[Q,hs _ _ B];simp only[Sem.run_bind,J,Result.andThen_ok,Sem.run_pure]
  unfold Oper.quietAt;rw[O];exact⟨U,U⟩) h
end
end Go.Jog
namespace Go.Jog
open Go Go.MapKept
variable {P:Program}{kt:TypeId}
def rL (p:Int × Int):Value:=.agg ⟨[.int .i64 p.1,.int .i64 p.2]⟩
theorem wh {e:TypeId}(d:P.underlying kt=some (.array 2 e))(b:P.underlying e=some (.int .i64)){i:TypeInfo}(f:P.info? e=some i)(g:i.size=1)(p:Int × Int)(a:Bool)(w:World) :
  (Instr.checkKey a 10000 kt (rL p)).run P w=.ok () w:=by
 have k:∀z:Int,(Instr.checkKey a (9998+1) e (i_ z)).run P w=.ok () w:=λz=>run_checkKey b (by simp[IsKey]) a 9998;show(Instr.checkKey a (9999+1) kt (rL p)).run P w=_;unfold Instr.checkKey;simp only[Sem.run_bind,run_underlying d,Result.andThen_ok,rL];have c:∀(z:Int)(xs:Array Value)(j:Nat),xs[j]?=some (i_ z)->(part e xs j).run P w=.ok (i_ z) w:=λz xs j h=>by
  unfold part;simp only[Sem.run_bind,fO b rfl w,Result.andThen_ok,TG,Ui,h,Sem.run_pure]
 have l:(sizeOf e).run P w=.ok 1 w:=by simp[sizeOf,typeInfo,f,g]
 have m:=c p.1 ⟨[i_ p.1,i_ p.2]⟩ 0 rfl;have n:=c p.2 ⟨[i_ p.1,i_ p.2]⟩ 1 rfl;rw[Std.Legacy.Range.forIn_eq_forIn_range'];simp[Std.Legacy.Range.size,List.range',l,m,n,k]
theorem xm {a:List Value}(h:Instr.sameBits 10000 (.agg ⟨a⟩) (.agg ⟨a⟩)=true)(w:World):(Instr.keyThatStays (.agg ⟨a⟩) (.agg ⟨a⟩)).run P w=.ok (.agg ⟨a⟩) w:=by
 simp[Instr.keyThatStays,h]
theorem B7 (b:(match P.underlying kt with|some (.array _ _)|some (.struct _)=>true|_=>false)=true)(x:Value)(a:List MapEntry)(w:World):(Instr.findKey kt x a).run P w=(Instr.findAsking kt x a).run P w:=run_findKey_eq w b x a
def Sw {P:Program}{kt e:TypeId}(hu:P.underlying kt=some (.array 2 e))(he:P.underlying e=some (.int .i64))(hi:(P.info? e).map (·.size)=some 1)(ht:AX P kt=true):KeyP P kt (Int × Int) where
 enc:=rL
 check p em w:=by
  obtain⟨i,h1,h2⟩:=Option.map_eq_some_iff.1 hi;exact wh hu he h1 h2 p em w
 ask x es w:=B7 (by rw[hu]) x es w
 same a b w:=by
  have h:=ES (P:=P) ht (xs:=[.int .i64 a.1,.int .i64 a.2]) (ys:=[.int .i64 b.1,.int .i64 b.2]) (by unfold Sx;rw[hu];show(Nat.beq 2 2 && List.all _ (λx=>tV (P.underlying e) x))=true;rw[he];rfl) (b:=decide (a=b)) (by
   obtain⟨a1,a2⟩:=a;obtain⟨b1,b2⟩:=b;simp[kK,Oe];by_cases h1:a1=b1 <;> by_cases h2:a2=b2 <;> simp[h1,h2]) w
  exact h
 stays a w:=xm (by simp[Instr.sameBits]) w
def FD (p:List UInt8 × List UInt8):Value:=.agg ⟨[ag p.1,ag p.2]⟩
theorem wg   {a b : Field} (k : P.underlying kt = some (.struct #[a, b])) (d : P.underlying a.type = some .string) (e : P.underlying b.type = some .string) (l : a.name ≠ "_") (m : b.name ≠ "_") (n : a.offset = 0) (o : b.offset = 1) (p : List UInt8 × List UInt8) (c : Bool) (w : World) :
  (Instr.checkKey c 10000 kt (FD p)).run P w=.ok () w:=by
 have g:∀(f:Field)(s:List UInt8),P.underlying f.type=some .string->(Instr.checkKey c (9998+1) f.type (ag s)).run P w=.ok () w:=λf s h=>run_checkKey h (by simp[IsKey,ag]) c 9998;have i:∀(f:Field)(s:List UInt8)(xs:Array Value)(j:Nat),P.underlying f.type=some .string->xs[j]?=some (ag s)->(part f.type xs j).run P w=.ok (ag s) w:=λf s xs j q h=>by
  unfold part;simp only[Sem.run_bind,fO q rfl w,Result.andThen_ok,TG,Ui,h,Sem.run_pure]
 have r:=i a p.1 ⟨[ag p.1,ag p.2]⟩ 0 d rfl;have t:=i b p.2 ⟨[ag p.1,ag p.2]⟩ 1 e rfl;have k0:=g a p.1 d;have k1:=g b p.2 e;show(Instr.checkKey c (9999+1) kt (FD p)).run P w=_;unfold Instr.checkKey;simp only[Sem.run_bind,run_underlying k,Result.andThen_ok,FD];simp[l,m,n,o,r,t,k0,k1]
def Sv {P : Program} {kt : TypeId} {f0 f1 : Field} (hu : P.underlying kt = some (.struct #[f0, f1])) (h0 : P.underlying f0.type = some .string) (h1 : P.underlying f1.type = some .string) (hn0 : f0.name ≠ "_") (hn1 : f1.name ≠ "_") (ho0 : f0.offset = 0) (ho1 : f1.offset = 1) (ht : tU P kt = true) : KeyP P kt (List UInt8 × List UInt8) where
 enc:=FD
 check p em w:=wg hu h0 h1 hn0 hn1 ho0 ho1 p em w
 ask x es w:=B7 (by rw[hu]) x es w
 same a b w:=by
  have h:=qI (P:=P) ht (xs:=[ag a.1,ag a.2]) (ys:=[ag b.1,ag b.2]) (by unfold RV;rw[hu];show LR P [f0,f1] _=true;unfold LR;rw[h0];unfold LR;rw[h1];rfl) (b:=decide (a=b)) (by
   obtain⟨a1,a2⟩:=a;obtain⟨b1,b2⟩:=b;simp[kK,Oe,ag];by_cases h1:a1=b1 <;> by_cases h2:a2=b2 <;> simp[h1,h2]) w
  exact h
 stays a w:=xm (by simp[Instr.sameBits,ag,GK]) w
section
variable {cx:Cx} {n:Nat} {ds:List (Option Nat)} {R:Rg n ds} {its:List It} {fr:Fr} {C:Mem} {L:List Ent} {i k d:Nat} {o:Oper} {g:GL} {v:Value} {κ:Type} [DecidableEq κ]
theorem Yi {t c:Nat}(K:KeyP cx.P c κ)(e:Nat.ble k 1=false)(g:o.dst=some d)(j:gOn ds fr o.guard=true)(l:o.op=.makeMap t none)(m:∀v,aZ n ds ((d,[],v)::fr) d=true)
  (h:∀b,D cx R its ((d,[],.map (some b))::fr) C (.obj b (bh K.enc [])::L)):D cx R ((i,k,o)::its) fr C L :=
 XO (f:=λb=>.map (some b)) (ob:=bh K.enc []) e g j m (λa _ w=>by
  have p:execOp a.eval o=(do Pure.pure (.value (<- Instr.makeMap t none)):Sem Next):=by unfold execOp;rw[l];rfl
  rw[p];rfl) h
end
end Go.Jog
namespace Go.Jog
open Go
section
variable {F:Fx} {k:List KI} {fr:Fr} {C:Mem} {L:List Ent}
theorem Y8 {d:Cx}{j:Func}{n:Nat}{f:World}{C k:Mem}{g b:List Ent}{l:Value->Mem->List Ent->Prop}{W:Cw d.P}{c:Fr}{A:Fr->List Ent->Prop}(m:Has fr c)(h:A c b) :
  G ⟨d,j,n,⟨f,C,g⟩,l,W,[],λe a w'=>e=.normal/\∃i b,A i b/\FrOk n [] [] i a/\St f C g C b w'⟩ [] .normal fr k b:=λo _ _ p q =>
 ⟨rfl,c,b,h,p.weaken m.sub,St.less q l_ o⟩
end
end Go.Jog
namespace Go.Jog
open Go
section
variable {F:Fx} {k:List KI} {fr:Fr} {C:Mem} {L:List Ent}
def IAD (F:Fx)(I:List Deferred->Fr->Mem->List Ent->Nat->Prop)(C:Mem)(m:Nat)(a:Act)(w:World):Prop :=
 ∃dd fr C' L',C.le C'/\I dd fr C' L' m/\FrOk F.n [] dd fr a/\F.b.cls (C',L') w
theorem Y5 {c:Code}(I:List Deferred->Fr->Mem->List Ent->Nat->Prop){m:Nat}{b:Fr}(i:Has fr b)(j:I F.dd b C L m)
  (l:∀dd fr d f m,C.le d->I dd fr d f m->G { F with dd:=dd } (kJ 64 (.code c::.inv (λa w=>∃g,g<m/\IAD F I C g a w)::k)) .normal fr d f):G F (.code (.loop c)::k) .normal fr C L:=λh0 a w n o=>by
 simp only[Kq];refine sR F.W (IAD F I C) ⟨F.dd,b,C,L,Mem.le.refl _,j,n.weaken i.sub,o⟩ (λm a w ⟨p,r,s,t,h,u,v,x⟩=>?_);have h1:=Xf 64 (l p r s t m h u) (h0.trans h) a w v x;rw[FW]at h1;refine F.W.mono (λe a w q=>?_) h1;cases e <;> exact q
theorem Y4 {b:List Deferred}{I:List Deferred->Fr->Mem->List Ent->Nat->Prop}{d:Mem}{m m':Nat}{c:Fr}(e:m'<m)(f:d.le C)(g:Has fr c)(h:I b c C L m') :
  G { F with dd:=b } (.inv (λa w=>∃m',m'<m/\IAD F I d m' a w)::k) .normal fr C L:=λ_ _l _n i j =>
 ⟨m',e,b,c,C,L,f,h,i.weaken g.sub,j⟩
theorem Y9 {g:Operand}{p0 p1:Nat}{assign body:Code}{gf:FuncId}{lb:Array Value}{vss:List (Value × Value)}(hW:F.W=Cw.plain F.cx.P)
  (hg:ev fr [] g=some (.func (.func gf) #[] lb)) (hen:Enters F.cx.P gf=true) (hseq:RY F.cx.P gf lb C vss) (I:Nat->List Ent->Prop) (h0:I 0 L) (_hp:fr.all (λx=>x.2.1.isEmpty)=true)
  (hok:∀u v,(aZ F.n [] ((p0,[],u)::fr) p0 && aZ F.n [] ((p1,[],v)::(p0,[],u)::fr) p1)=true) (A:Nat->List Ent->Fr->List Ent->Prop)
  (hassign:∀l j u v L' W1,I j L'->vss[j]?=some (u,v)->G ⟨F.cx,F.fn,F.n,⟨W1,C,L'⟩,F.post,Cw.round F.cx.P l 1,[],λe a w'=>e=.normal/\∃frA LA,A j L' frA LA/\FrOk F.n [] [] frA a/\St W1 C L' C LA w'⟩ (kJ 64 [.code assign]) .normal ((p1,[],v)::(p0,[],u)::fr) C L')
  (hbody:∀l j u v L' frA LA W1,I j L'->vss[j]?=some (u,v)->A j L' frA LA ->
   G ⟨F.cx,F.fn,F.n,⟨W1,C,LA⟩,F.post,Cw.round F.cx.P l 1,[],λe _ w'=>e=.normal/\∃L1,I (j+1) L1/\St W1 C LA C L1 w'⟩ (kJ 64 [.code body]) .normal frA C LA)
  (hdone:∀D L',I vss.length L'->G { F with dd:={ target:=.collected D,args:=#[] }::F.dd } (kJ 64 k) .normal fr C (.obj D (.deferred (some []))::L')) :
  G F (.code (.rangeFunc g #[p0,p1] assign body)::k) .normal fr C L:=λhle a w ha hw=>by
 simp only[Kq,hW];show(Code.rangeFunc g #[p0,p1] assign body).wp F.cx.P (Kq F k) a w;refine(wpIn_wide (n:=3)).1 (wpIn_rangeFunc λfn _=>?_);have hga:a.eval g=.func (.func gf) #[] lb:=bP ha (λp hp=>by cases hp) hg;let⟨rec,hrec⟩:∃rec:LoopState->Loop,rec=λst=>{ state:=st,pending:=none,fn,tmps:=a.tmps,params:=#[p0,p1],assign,body,defers:=w.heap.size }:=⟨_,rfl⟩;let⟨W1,hW1⟩:∃W1,(w.alloc (.deferred (some []))).alloc (.loop (rec .ready))=W1:=⟨_,rfl⟩;have hS1:St F.b.w0 F.b.C0 F.b.L0 C (.obj (w.heap.size+1) (.loop (rec .ready))::.obj w.heap.size (.deferred (some []))::L) W1:=by
  have:=St.alloc (St.alloc hw (.deferred (some []))) (.loop (rec .ready));rw[World.size_alloc]at this;rw[<- hW1];exact this
 refine⟨w.heap.size+1,[{ target:=.collected w.heap.size,args:=#[] }],W1,{ target:=.fn (.func gf) lb,args:=#[.func (.yield (w.heap.size+1)) #[] #[]] },W1,gf,
  #[.func (.yield (w.heap.size+1)) #[] #[]]++lb,W1, ?_, ?_,λ_ _=>trivial, ?_,λ_=>by decide, ?_⟩
 .rw[<- hW1,hrec];exact run_enterLoop_outer _ _ _ _ _
 .simp only[resolve,hga];simp[go_sem]
 .simp[invoke,go_sem,gv hen]
 refine(hseq (w.heap.size+1) (λj W=>∃L',I j L'/\St F.b.w0 F.b.C0 F.b.L0 C (.obj (w.heap.size+1) (.loop (rec .ready))::.obj w.heap.size (.deferred (some []))::L') W) W1
  (λj W ⟨L',_,hs⟩=>hs.sep.c) (λj W ⟨L',hi,hs⟩=>⟨L',hi,hs.drew⟩) ?_ ⟨L,h0,hS1⟩).mono ?_
 .rintro j ⟨u,v⟩ W ⟨L',hi,hs⟩ hj;have hl:W.heap[w.heap.size+1]?=some (.loop (rec .ready)):=hs.sep.e _ (SK ..);have hy:=run_yield (P:=F.cx.P) (args:=#[u,v]) hl (by rw[hrec];rfl);rw[hrec]at hy;have hz:(#[p0,p1].zip #[u,v]).foldl (λtmps (x:Nat × Value)=>match x with|(t,a)=>tmps.setIfInBounds t a) a.tmps=(a.tmps.setIfInBounds p0 u).setIfInBounds p1 v:=by simp
  dsimp only at hy;rw[hz]at hy;refine⟨fn,_,assign,body,hy,roundIn_of_wpIn trivial ?_⟩;have hfr:FrOk F.n [] [] ((p1,[],v)::(p0,[],u)::fr) { tmps:=(a.tmps.setIfInBounds p0 u).setIfInBounds p1 v,defers:=[] }:=by
   have hk:=hok u v;rw[S1]at hk;have h1:=FrOk.put (u:=u) (FrOk.mk (dd:=F.dd) ha.size ha.defers ha.ent:FrOk F.n [] F.dd fr a) hk.1 ⟨λ_=>rfl,λhn=>absurd (λp hp=>by cases hp) hn⟩;have h2:=FrOk.put (u:=v) h1 hk.2 ⟨λ_=>rfl,λhn=>absurd (λp hp=>by cases hp) hn⟩;exact⟨h2.size,U,h2.ent⟩
  have hA:=XW (hassign (w.heap.size+1) j u v L' W hi hj) l_ hfr (St.start hs.drop.drop.sep);refine wpIn_mono hA (λe a1 W2 q=>?_);obtain⟨rfl,frA,LA,hAA,hfr1,hs1⟩:=q;have hs2a:=St.call (Lp:=L') (Lr:=[.obj (w.heap.size+1) (.loop (rec .ready)),.obj w.heap.size (.deferred (some []))]) (St.perm hs (TR (l₁:=[_,_]))) hs1;have hs2:St F.b.w0 F.b.C0 F.b.L0 C (.obj (w.heap.size+1) (.loop (rec .ready))::.obj w.heap.size (.deferred (some []))::LA) W2:=St.perm hs2a (TR (l₂:=[_,_]));have hl2:W2.heap[w.heap.size+1]?=some (.loop (rec .ready)):=hs2.sep.e _ (SK ..);refine⟨_,run_beginRound hl2 (by rw[hrec]), ?_⟩;have hs3:St F.b.w0 F.b.C0 F.b.L0 C (.obj (w.heap.size+1) (.loop (rec .busy))::.obj w.heap.size (.deferred (some []))::LA) (W2.putObj (w.heap.size+1) (.loop { rec .ready with state:=.busy })):=by
   have:=St.putObj (o':=.loop { rec .ready with state:=.busy }) hs2;rw[hrec]at this⊢;exact this
  have hB:=XW (hbody (w.heap.size+1) j u v L' frA LA (W2.putObj (w.heap.size+1) (.loop { rec .ready with state:=.busy })) hi hj hAA) l_ hfr1 (St.start hs3.drop.drop.sep);refine wpIn_mono hB (λe a2 W4 q=>?_);obtain⟨rfl,L1,hi1,hs4⟩:=q;have hs5:=St.call (Lp:=LA) (Lr:=[.obj (w.heap.size+1) (.loop (rec .busy)),.obj w.heap.size (.deferred (some []))]) (St.perm hs3 (TR (l₁:=[_,_]))) hs4;have hs6:St F.b.w0 F.b.C0 F.b.L0 C (.obj (w.heap.size+1) (.loop (rec .busy))::.obj w.heap.size (.deferred (some []))::L1) W4:=St.perm hs5 (TR (l₂:=[_,_]));have hl4:W4.heap[w.heap.size+1]?=some (.loop (rec .busy)):=hs6.sep.e _ (SK ..);refine⟨_,_,run_endRound none hl4,U,L1,hi1, ?_⟩;have:=St.putObj (o':=.loop { rec .busy with state:=if (none:Option Code).isNone then .ready else .done,pending:=none }) hs6;rw[hrec]at this⊢;exact this
 rintro e W2 ⟨⟨v,rfl⟩,L',hi,hs⟩;have hl:W2.heap[w.heap.size+1]?=some (.loop (rec .ready)):=hs.sep.e _ (SK ..);refine⟨none,_,by have:=run_endLoop (P:=F.cx.P) hl (by rw[hrec];simp);rw[hrec]at this;exact this, ?_⟩;have hs2:St F.b.w0 F.b.C0 F.b.L0 C (.obj w.heap.size (.deferred (some []))::L') (W2.putObj (w.heap.size+1) (.loop { rec .ready with state:=.exhausted })):=(St.putObj hs).drop;have:=Xf 64 (hdone w.heap.size L' hi) hle { a with defers:=[{ target:=.collected w.heap.size,args:=#[] }]++a.defers } _ ⟨ha.size,by rw[ha.defers];rfl,ha.ent⟩ hs2;rw[FW]at this;rw[hrec]at this;exact this
theorem QZ {c:Cx}{d:Func}{n s t b u q r:Nat}{f:Fr}{C:Mem}{L:List Ent}{g:List Deferred}{h:World}{i:Mem}{j:List Ent}{D E:TypeId}{G H:Nat × Nat}{v x:List Value}{k l:TI}{y z:Value}(I:Ent.obj b (.cells ⟨v⟩ D G)∈L)(J:Ent.obj r (.cells ⟨x⟩ E H)∈L)(K:d.results=#[.cell s t,.cell u q])
  (M:ev f [] (.tmp s)=some (p_ b)) (N:ev f [] (.tmp u)=some (p_ r)) (O:c.T.get t=some k) (Q:cJ k (v.take k.size)=some y) (R:c.T.get q=some l) (S:cJ l (x.take l.size)=some z) :
  ∀a w,FrOk n [] g f a->St h i j C L w->(results d a.tmps).run c.P w=.ok (.tuple #[y,z]) w:=λa w A B=>by
 have m:=bP A (λp hp=>by cases hp) M;have o:=bP A (λp hp=>by cases hp) N;simp only[Act.eval]at m o;have U:=fD (F:=⟨c,d,n,⟨h,i,j⟩,λ_ _ _=>True,Cw.plain c.P,g,λ_ _ _=>True⟩) O (B.sep.e _ I) Q;have V:=fD (F:=⟨c,d,n,⟨h,i,j⟩,λ_ _ _=>True,Cw.plain c.P,g,λ_ _ _=>True⟩) R (B.sep.e _ J) S;simp only[TM]at m o;simp[results,K,m,o,asAddr,U,V]
def Mk (D:Nat):Deferred:={ target:=.collected D,args:=#[] }
def Bp (D:Nat):Ent:=.obj D (.deferred (some []))
theorem Y6 {d:Cx}{g:Func}{n:Nat}{f:List Nat}{b:Bs}{i:Value->Mem->List Ent->Prop}{v:Value}
  (m:∀a w,FrOk n [] (f.map Mk) fr a->St b.w0 b.C0 b.L0 C L w->(results g a.tmps).run d.P w=.ok v w) (h:i v C []) (o:f≠[]) :
  G ⟨d,g,n,b,i,Cw.plain d.P,f.map Mk,bodyPostM Fence.wide 3 d.P g (yN b i)⟩ [] .ret fr C (f.map Bp++L):=λs a w k j=>by
 show LeavesInM _ _ _ _ _ _ a.defers _ _;have p:=k;rw[k.defers];have q:∀(c:List Nat)(w:World),c≠[]->St b.w0 b.C0 b.L0 C (c.map Bp++L) w->LeavesInM Fence.wide 3 d.P g a.tmps (yN b i) (c.map Mk) .returning w:=by
  intro c;induction c with
 |nil=>exact λ_ h0=>absurd rfl h0
 |cons D c r =>
   intro w _ j;have l:w.heap[D]?=some (.deferred (some [])):=j.sep.e _ (SK ..);have hs:=(St.putObj (o':=.deferred none) j).drop;cases c with
  |nil=>exact⟨by simp,.inl ⟨D,_,rfl,run_takeDeferred l,v,m a _ p hs,v,C,[],rfl,St.dropAll hs,h⟩⟩
  |cons E c=>exact⟨by simp,.inl ⟨D,_,rfl,run_takeDeferred l,r _ am hs⟩⟩
 exact q f w o j
end
end Go.Jog
