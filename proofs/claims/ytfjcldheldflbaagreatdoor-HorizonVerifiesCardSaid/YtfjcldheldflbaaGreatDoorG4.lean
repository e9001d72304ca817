import Derived.Test.YtfjcldheldflbaaGreatDoorG3
import Derived.Lib.AppendZeros
namespace Go.Jog
open Go Go.MapKept
section
variable {cx:Cx} {n:Nat} {ds:List (Option Nat)} {R:Rg n ds} {its:List It} {fr:Fr} {C:Mem} {L:List Ent} {i k d:Nat} {o:Oper} {g:GL} {v:Value}
variable {κ:Type} (enc:κ->Value)
theorem ER {P:Program}{T:Tab}(d:oZ P T=true){t e f:Nat}{c:TI}(g:T.get t=some c)(h:c.k=.map e f){a:Act}{o:Oper}{x:Operand}{b:Nat}{m:List (κ × Value)}(i:o.op=.call ⟨.builtin .len,#[x],#[t]⟩)(j:a.eval x=.map (some b)){w:World}(l:w.heap[b]?=some (bh enc m)) :
  (execOp a.eval o).run P w=.ok (.value (i_ (m.length:Nat))) w:=by
 have n:=ip d g h;have p:execOp a.eval o=(do let dd <- resolve a.eval ⟨.builtin .len,#[x],#[t]⟩ o.type;invoke dd.target dd.args:Sem Next):=by unfold execOp;rw[i]
 have h1:(getObj b).run P w=.ok (.map ⟨bJ enc m 0⟩ m.length) w:=Go.MapKept.run_getObj_map l;have q:(Builtin.len_ #[t] o.type #[.map (some b)]).run P w=.ok (i_ (m.length:Nat)) w:=by
  simp[Builtin.len_,run_underlying n,h1,oI,goInt]
 rw[p];simp only[resolve,invoke,builtin,Sem.run_bind,Sem.run_pure,Result.andThen_ok,Us,Tq,Ut,j,q]
theorem Yn {b t j l:Nat}{x:Operand}{m:List (κ × Value)}{c:TI}(p:Ent.obj b (bh enc m)∈L)(f:k=1)(q:o.dst=some d)(r:o.op=.call ⟨.builtin .len,#[x],#[t]⟩)(s:gOf ds fr o.guard=some g)(u:ev fr g x=some (.map (some b)))
  (v:cx.T.get t=some c) (y:c.k=.map j l) (z:aZ n ds ((d,g,i_ (m.length:Nat))::fr) d=true) (A:wfG ds fr g=true)
  (h:D cx R its ((d,g,i_ (m.length:Nat))::fr) C L):D cx R ((i,k,o)::its) fr C L :=
 Xe (by subst f;rfl) q s z A (λ_ a hs G B w E=>by
  have F:w.heap[b]?=some (bh enc m):=E.sep.e _ ((B f).2 _ p);unfold Oper.quietAt;rw[ER enc cx.hT v y r (hs _ _ u) F];exact⟨U,U⟩) h
end
end Go.Jog
namespace Go.Jog
open Go Go.MapKept
variable {C:Mem}{b:Nat}{cs:List Value}{f first:Int}{k:Nat}{out:List Int}{p q:Int}{seen:List Nat}{t:TypeId}
def keyZ:KeyT (.int .i64) Int where
 enc z:=.int .i64 z
 isKey _:=rfl
 same a b:=by
  simp only[Instr.sameNow,UK];congr 1
section
variable {κ β:Type} [DecidableEq κ]
theorem cQ:∀{m:List (κ × β)}{k:κ},eh m k=none ↔ k ∉ m.map (·.1)
|[],k=>by simp[eh]
|(a,v)::m,k=>by
  simp only[eh,Tq,SY,not_or];by_cases h:a=k
  .simp[h]
  rw[aF h,cQ (m:=m)];exact⟨λh2=>⟨λe=>h e.symm,h2⟩,λh2=>h2.2⟩
theorem km:∀{m:List (κ × β)}{k:κ}{v:β},eh m k=none->jd m k v=m++[(k,v)]
|[],k,v,_=>rfl
|(b,c)::m,k,v,h=>by
  simp only[eh]at h;split at h
  .cases h
  rename_i a;simp only[jd,aF a,UA,km h]
theorem gC:∀{m:List (κ × β)}{k:κ}{v:β},eh m k=some v->(k,v)∈m
|(a,b)::m,k,v,h=>by
  simp only[eh]at h;split at h
  .rename_i e;cases h;subst e;exact SK
  exact SX _ (gC h)
theorem fY:∀{m:List (κ × β)}{k:κ}{v:β},(m.map (·.1)).Nodup->(k,v)∈m->eh m k=some v
|(b,c)::m,k,v,a,h=>by
  simp only[Tq,Wf]at a;rcases SY.1 h with h|h
  .cases h;simp[eh]
  have:b≠k:=λe=>a.1 (e ▸ US (f:=(·.1)) h);simp only[eh,aF this];exact fY a.2 h
theorem yu {m a:List (κ × β)}(h:m.Perm a)(c:(m.map (·.1)).Nodup)(k:κ):eh m k=eh a k:=by
 have d:(a.map (·.1)).Nodup:=(h.map (·.1)).nodup_iff.1 c;cases b:eh m k with
|some v=>exact(fY d (h.mem_iff.1 (gC b))).symm
|none =>
  cases e:eh a k with
 |none=>rfl
 |some v=>rw[fY c (h.mem_iff.2 (gC e))]at b;cases b
end
abbrev fG:=Int × Int
def oR (s:fG):fG:=(s.2,s.1)
def jM (ks:List fG)(s:fG):Bool:=!(decide (oR s∈ks))
def vi (B:List fG):List (Int × Value):=B.map λs=>(s.1,.int .i64 s.2)
theorem Dt (B:List fG):(vi B).length=B.length:=by simp[vi]
theorem iz (B:List fG)(p:Int):eh (vi B) p=(eh B p).map (.int .i64):=Dz (λz:Int=>i_ z) B p
theorem Dr {B:List fG}(h:eh B p=none):jd (vi B) p (i_ q)=vi (B++[(p,q)]):=by
 rw[km (by rw[iz,h];rfl)];simp[vi]
def mI (B:List fG)(f:Int):Prop:=(B=[]/\f=-1)∨(0<=f/\f∈B.map (·.1)/\∀s∈B,f<=s.1)
def IV (B:List fG):Int:=B.foldl (λf s=>if f<0∨s.1<f then s.1 else f) (-1)
theorem rA {B:List fG}(h:mI B f)(s:fG)(a:0<=s.1):mI (B++[s]) (if f<0∨s.1<f then s.1 else f):=by
 right;rcases h with⟨rfl,rfl⟩|⟨h1,h2,h3⟩
 .rw[aL (.inl dc_)];exact⟨a,by simp,by simp⟩
 by_cases b:s.1<f
 .rw[aL (.inr b)];refine⟨a,by simp,λt ht=>?_⟩;rcases SZ.1 ht with ht|ht
  .have:=h3 t ht;omega
  rw[S6.1 ht];exact Int.le_refl _
 rw[aF om_];refine⟨h1,by rw[Tm];exact Uy _ h2,λt ht=>?_⟩;rcases SZ.1 ht with ht|ht
 .exact h3 t ht
 rw[S6.1 ht];omega
theorem yz {B:List fG}(h:∀s∈B,0<=s.1):mI B (IV B):=by
 have c:∀(a b:List fG)(f:Int),(∀s∈a,0<=s.1)->mI b f->mI (b++a) (a.foldl (λf s=>if f<0∨s.1<f then s.1 else f) f):=by
  intro a;induction a with
 |nil=>intro b f _ h;simpa using h
 |cons s a d =>
   intro b f h1 h2;have:=d (b++[s]) _ (λt ht=>h1 t (SX _ ht)) (rA h2 s (h1 s SK));simpa using this
 exact c B [] (-1) h (.inl ⟨U,U⟩)
theorem AO {B d:List fG}{e:Int}(c:B.Perm d)(h:mI B f)(g:mI d e):f=e:=by
 rcases h with⟨rfl,rfl⟩|⟨h1,h2,h3⟩
 .rcases g with⟨_,rfl⟩|⟨_,h5,_⟩
  .rfl
  rw[<- c.nil_eq]at h5;simp at h5
 rcases g with⟨rfl,_⟩|⟨h4,h5,i⟩
 .rw[c.eq_nil]at h2;simp at h2
 obtain⟨s,hs,rfl⟩:=SL.1 h2;obtain⟨t,ht,rfl⟩:=SL.1 h5;have a:=h3 t (c.mem_iff.2 ht);have b:=i s (c.mem_iff.1 hs);omega
def jg (B:List fG)(first:Int):Nat->Int->List Int->Option (List Int)
|0,_,out=>some out
|k+1,p,out=>match eh B p with
 |none=>none
 |some q=>if p=first/\out≠[] then none else jg B first k q (out++[p])
theorem sT {B a:List fG}(c:B.Perm a)(d:(B.map (·.1)).Nodup)(b:Int):∀(k:Nat)(p:Int)(out:List Int),jg B b k p out=jg a b k p out
|0,_,_=>rfl
|k+1,p,out=>by
  simp only[jg,yu c d];cases eh a p with
 |none=>rfl
 |some q=>simp only[sT c d b k]
def Ga (ks:List fG):Option (List Int) :=
 if ((ks.filter (jM ks)).map (·.1)).Nodup then jg (ks.filter (jM ks)) (IV (ks.filter (jM ks))) (ks.filter (jM ks)).length (IV (ks.filter (jM ks))) [] else none
def yn (ks:List fG):List Int:=(Ga ks).getD []
theorem E6 {a B:List fG}{s t:fG}(b:(B++[s]).Nodup)(c:∀x∈B++[s],x∈a.filter (jM a))(d:t∈B)(e:t.1=s.1):Ga a=none:=by
 unfold Ga;rw[aF];intro f;have h1:=c s am;have h2:=c t (by simp[d]);have g:t≠s:=by
  rintro rfl;rw[Un]at b;exact b.2.2 t d t am U
 have h3:=fY f (k:=s.1) (v:=s.2) h1;have h4:=fY f (k:=t.1) (v:=t.2) h2;rw[e,h3]at h4;exact g (Prod.ext e (Ue h4).symm)
theorem K8 {a B:List fG}(b:B.Perm (a.filter (jM a)))(c:(B.map (·.1)).Nodup)(d:∀s∈a,0<=s.1)(e:mI B f):Ga a=jg B f B.length f []:=by
 unfold Ga;rw[aL ((b.map (·.1)).nodup_iff.1 c),<- sT b c,<- b.length_eq,<- AO b e (yz λs hs=>d s (Uf.1 hs).1)]
theorem Ez {B:List fG}(h:eh B p=none∨(p=first/\out≠[])):jg B first (k+1) p out=none:=by
 simp only[jg];rcases h with h|h
 .rw[h]
 cases eh B p with
|none=>rfl
|some q=>simp[h]
theorem Ey {B:List fG}(h:eh B p=some q)(a:¬ (p=first/\out≠[])):jg B first (k+1) p out=jg B first k q (out++[p]):=by
 simp only[jg,h];rw[aF a]
def fC (ks:List fG)(seen:List Nat):List fG:=(seen.map λj=>ks.getD j (0,0)).filter (jM ks)
theorem qG {b:Type}{d:b}{a:List b}(c:seen.Nodup)(e:∀j∈seen,j<a.length)(f:∀j,j<a.length->j∈seen):(seen.map λj=>a.getD j d).Perm a:=by
 have hp:seen.Perm (List.range a.length):=(List.perm_ext_iff_of_nodup c List.nodup_range).2 (λj=>by
  rw[S7];exact⟨λh=>e j h,λh=>f j h⟩)
 refine(hp.map _).trans (List.Perm.of_eq ?_);refine List.ext_getElem? (λi=>?_);rw[SI];rcases Th i a.length with h|h
 .rw[Tl h];simp[aj h]
 rw[SR (by simpa using h),SR h];rfl
theorem EP {a:List fG}{j:Nat}{s:fG}(h:a[j]?=some s):fC a (seen++[j])=fC a seen++if jM a s then [s] else []:=by
 unfold fC;rw[Tm,Uc];congr 1;rw[Tq,Ut,al,h,List.filter_cons];rfl
theorem G6 {a:List fG}(c:∀j∈seen,j<a.length):∀x∈fC a seen,x∈a.filter (jM a):=by
 intro x b;rw[fC,Uf]at b;obtain⟨j,d,rfl⟩:=SL.1 b.1;rw[Uf];refine⟨?_,b.2⟩;rw[al,aj (c j d)];exact TC _
theorem Ah {c:List fG}(f:c.Nodup):∀{seen:List Nat},seen.Nodup->(∀j∈seen,j<c.length)->(fC c seen).Nodup:=by
 intro seen g d;unfold fC;refine List.Pairwise.filter _ ?_;rw[List.pairwise_map];refine List.Pairwise.imp_of_mem ?_ g;intro a b h i k e;rw[al,al,aj (d a h),aj (d b i)]at e;exact k ((List.getElem_inj f).1 e)
theorem PtrTo.blockT {e:Nat × Nat}(h:C b=some (.cells ⟨cs⟩ t e))(d n:Nat):PtrTo C (.pointer (some ⟨b,d,none⟩)) ((cs.drop d).take n) :=
 let ⟨a,h1,h2,h3⟩:=PtrTo.block h d
 ⟨a,h1,h2,λj v c=>h3 j v (by
  rw[TA]at c;split at c
  .exact c
  cases c)⟩
theorem bkT {D:Mem}{c:Nat × Nat}(h:C b=some (.cells ⟨cs⟩ t c))(n:Nat){a:Nat}(d:C.le D:=by(repeat (first|exact Mem.le.refl _|assumption|(apply Mem.le.trans;rotate_left;assumption)))):PtrTo D (.pointer (some ⟨b,a,none⟩)) ((cs.drop a).take n):=PtrTo.blockT (Mem.get h d) a n
theorem mE (z:Value)(o:Option Value):mF z true o=.tuple #[o.getD z,.bool o.isSome]:=by cases o <;> rfl
section
variable {F:Fx} {k:List KI} {fr:Fr} {C:Mem} {L:List Ent}
theorem Ys {e:Exit}{v:Value}{t b a:Nat}{d:List Value}(i:Ent.arr v t b a d∈L)(h:∀A c,v=.slice A a c->d.length=a*b->a<=c->c<=maxLen->G F k e fr C L):G F k e fr C L :=
 G.form i λj f=>by
  rcases j with⟨h1,h2⟩|⟨g,c,h1,h2,h3⟩
  .exact h none 0 (by rw[h1,h2]) f om_ (SM _)
  exact h _ c h1 f h2 h3
end
end Go.Jog
namespace Go.Jog
open Go
section
variable {cx:Cx} {n:Nat} {ds:List (Option Nat)} {R:Rg n ds} {its:List It} {fr:Fr} {C:Mem} {L:List Ent} {i k d:Nat} {o:Oper} {g:GL} {v:Value}
theorem YH {t E e F j m:Nat}{x y:Operand}{M N b:TI}{p l:Value}{z:List Value}{g:List (List Value)}(hk:k=3)(hd:o.dst=some d)(hg:gOn ds fr o.guard=true)
  (aq:o.op=.call ⟨.builtin .append,#[x,y],#[t,E]⟩) (ar:cx.T.get E=some N) (Y:N.k=.slice F) (ht:cx.T.get t=some M) (Z:M.k=.slice e) (he:cx.T.get e=some b) (aa:Nat.beq b.size 0=false)
  (hx:ev fr [] x=some l) (hy:ev fr [] y=some p) (hm:L[j]?=some (.arr l e b.size m z)) (au:Sl C b.size p g) (s:g.all (λr=>r.all kS)=true)
  (av:m+g.length<=maxLen) (aw:(m+g.length)*b.bytes<=140737488355328) (hp:∀v,aZ n ds ((d,[],v)::fr) d=true)
  (h:∀A n c,D cx R its ((d,[],.slice A n c)::fr) C (.arr (.slice A n c) e b.size (m+g.length) (z++g.flatten)::L.eraseIdx j)):D cx R ((i,k,o)::its) fr C L:=by
 have B:cx.P.underlying t=some (.slice e):=by
  let⟨kk,s1,b1,z1,g1⟩:=M;simp only at Z;subst Z;exact bW cx.hT ht
 have ay:cx.P.underlying E=some (.slice F):=by
  let⟨kk,s1,b1,z1,g1⟩:=N;simp only at Y;subst Y;exact bW cx.hT ar
 let⟨inf,G,O,az,hz,aN⟩:=(dC cx.hT he).info;have ab:0<b.size:=UH (λe=>by rw[e]at aa;cases aa);let⟨A,c,ac,aO,aP,H,ae⟩:=au
 refine Xc (S:=λf C' L'=>(∃A n c,f=.slice A n c)/\C'=C/\L'=.arr f e b.size (m+g.length) (z++g.flatten)::L.eraseIdx j) (by subst hk;rfl) hd hg hp (λa hs w _ hw=>?_) (λf C' L' _ ⟨⟨A,n',c,e0⟩,Q,F⟩=>by subst e0;subst Q;subst F;exact h A n' c);have af:=St.perm hw (ax hm);have I:w.ownsRow 0 e b.size l m z:=af.sep.e _ (SK ..);have aA:∀u∈g.flatten,u.oneCell'=true:=λu B=>by
  let⟨r,hr,aB⟩:=List.mem_flatten.1 B;exact fW (S3.1 (S3.1 s r hr) u aB)
 have aC:∃f w',(Builtin.append_ #[t,t] o.type #[l,p]).run cx.P w=.ok f w'/\w'.ownsRow 0 e b.size f (m+g.length) (z++g.flatten)/\w.grownBy w' l.ownBlock/\(f.ownBlock=l.ownBlock∨f.ownBlock=some w.heap.size):=by
  cases g with
 |nil =>
   refine⟨l,w, ?_,by simpa using I,⟨U,U,U,SH _,λ_ _ _=>rfl⟩,.inl U⟩;have aD:p=.slice A 0 c:=ac;rw[aD];have ag:∀(W:World),(Builtin.firstCells b.size 0 (.slice A 0 c)).run cx.P W=.ok #[] W:=λW=>by
    cases A <;> simp[Builtin.firstCells,loadCells,loadCellsFrom]
   rcases I.2 with⟨rfl,rfl⟩|⟨g0,ah,ai,rfl,_,_,aE,_⟩
   .simp[Builtin.append_,run_underlying B,sizeOf,typeInfo,G,O,Builtin.lenOf,ag]
   simp[Builtin.append_,run_underlying B,sizeOf,typeInfo,G,O,Builtin.lenOf,ag,aE,storeCells]
 |cons r rs =>
   let⟨ad,hA,aR,_⟩:=ae 0 r am;subst hA;have aF:∀(q:Nat)(u:Value),(r::rs).flatten[q]?=some u->w.cell? (ad.add q)=some u:=λq u hq=>by
    have aG:q<(r::rs).length*b.size:=by rw[<- aQ H];exact(R0.1 hq).1
    have ak:q / b.size<(r::rs).length:=VB (by rw[Tt];exact aG);have al:(r::rs)[q / b.size]?=some (r::rs)[q / b.size]:=aj ak;have aH:q % b.size<((r::rs)[q / b.size]).length:=by rw[H _ (TC ak)];exact Ts _ ab
    have an:=aj aH;have ao:=getElem?_flatten_rows H al an;have ap:q / b.size*b.size+q % b.size=q:=by rw[Tt];exact Vt q b.size
    rw[ap,hq]at ao;let⟨aS,h3,h4,h5⟩:=ae _ _ al;cases h3
    have:=h5 _ _ an;rw[ap]at this;rw[ao];exact this.cell hw.sep
   have aI:b.zv.cells.size=b.size:=(dC cx.hT he).zsize;let⟨f,w',J,K,V,_,X⟩:=run_append_own_at (P:=cx.P) w 0 t o.type e inf b.zv b.size b.bytes B G hz O az aI ab l m z I ad (r::rs).length c (r::rs).flatten (aQ H) aF aA av aw (SM _);exact⟨f,w',by rw[ac];exact J,K,V,X⟩
 let⟨f,w',J,K,V,X⟩:=aC;have aJ:(Builtin.append_ #[t,E] o.type #[l,p]).run cx.P w=(Builtin.append_ #[t,t] o.type #[l,p]).run cx.P w:=by
  rcases I.2 with⟨s,_⟩|⟨g0,ah,ai,s,_⟩ <;> rw[s] <;> simp[Builtin.append_,run_underlying B,run_underlying ay,sizeOf,typeInfo,G]
 have aK:=aJ.trans J;have aL:(execOp a.eval o).run cx.P w=.ok (.value f) w':=by
  have Q:execOp a.eval o=(do let dd <- resolve a.eval ⟨.builtin .append,#[x,y],#[t,E]⟩ o.type;invoke dd.target dd.args:Sem Next):=by unfold execOp;rw[aq]
  rw[Q];simp only[resolve,invoke,builtin,Sem.run_bind,Sem.run_pure,Result.andThen_ok,Us,Tq,Ut,hs _ _ hx,hs _ _ hy,aK]
 unfold Oper.wp;rw[aL];have aM:∃A n c,f=.slice A n c:=by
  rcases K.2 with⟨s,_⟩|⟨g0,ah,ai,s,_⟩
  .exact⟨_,_,_,s⟩
  exact⟨_,_,_,s⟩
 exact⟨f,C,_,U,Mem.le.refl _,λh2=>by omega,St.turn af K V (bX _ J) (X.elim .inl (λh=>.inr (.inl h))),aM,U,U⟩
theorem YL {t c e u j m:Nat}{x y:Operand}{f g a:TI}{p l:Value}{q:List Value}{b:List (List Value)}(w:k=3)(z:o.dst=some d)(A:gOn ds fr o.guard=true)
  (B:o.op=.call ⟨.builtin .append,#[x,y],#[t,c]⟩) (E:cx.T.get c=some g) (F:g.k=.slice u) (G:cx.T.get t=some f) (H:f.k=.slice e) (I:cx.T.get e=some a) (J:Nat.beq a.size 0=false)
  (K:ev fr [] x=some l) (M:ev fr [] y=some p) (N:L[j]?=some (.arr l e a.size m q)) (O:Sl C a.size p b) (P:b.all (λr=>r.all kS)=true)
  (Q:m+b.length<=maxLen) (S:(m+b.length)*a.bytes<=140737488355328) (U:∀v,aZ n ds ((d,[],v)::fr) d=true)
  (h:∀s,D cx R its ((d,[],s)::fr) C (.arr s e a.size (m+b.length) (q++b.flatten)::L.eraseIdx j)):D cx R ((i,k,o)::its) fr C L :=
 YH w z A B E F G H I J K M N O P Q S U (λ_V _W _X=>h _)
end
end Go.Jog
namespace Go.Jog.Lp
variable {N i j:Nat}{os:List Nat}{r s v:Nat}{x:Nat->Rat}
def sumN (g:Nat->Rat):Nat->Rat
|0=>0
|n+1=>sumN g n+g n
theorem sumN_congr {g h:Nat->Rat}:∀{n:Nat},(∀j,j<n->g j=h j)->sumN g n=sumN h n
|0,_=>rfl
|n+1,e=>by rw[sumN,sumN,sumN_congr λj a=>e j om_,e n om_]
theorem sumN_add (g h:Nat->Rat):∀n:Nat,sumN (λj=>g j+h j) n=sumN g n+sumN h n
|0=>by simp only[sumN];grind
|n+1=>by simp only[sumN];rw[sumN_add g h n];grind
theorem sumN_mul (k:Rat)(g:Nat->Rat):∀n:Nat,sumN (λj=>k*g j) n=k*sumN g n
|0=>by simp only[sumN];grind
|n+1=>by simp only[sumN];rw[sumN_mul k g n];grind
theorem sumN_zero:∀{g:Nat->Rat}{n:Nat},(∀j,j<n->g j=0)->sumN g n=0
|_,0,_=>rfl
|g,n+1,e=>by rw[sumN,sumN_zero λj a=>e j om_,e n om_];grind
theorem sumN_at {g:Nat->Rat}{a:Nat}:∀{n:Nat},a<n->sumN g n=g a+sumN (λj=>if j=a then 0 else g j) n
|n+1,h=>by
  rcases Th a n with h1|h1
  .rw[sumN,sumN_at h1,sumN,aF om_];grind
  have e:a=n:=by omega
  subst e;rw[sumN,sumN,aL rfl,sumN_congr (h:=g) λj b=>aF om_];grind
theorem zU:∀{g:Nat->Rat}{n:Nat},(∀j,j<n->g j<=0)->sumN g n<=0
|_,0,_=>by simp only[sumN];grind
|g,n+1,e=>by
  have h1:=zU (g:=g) (n:=n) λj a=>e j om_;have h2:=e n om_;rw[sumN];grind
theorem sumN_ge:∀{g:Nat->Rat}{n:Nat},(∀j,j<n->0<=g j)->0<=sumN g n
|_,0,_=>by simp only[sumN];grind
|g,n+1,e=>by
  have h1:=sumN_ge (g:=g) (n:=n) λj a=>e j om_;have h2:=e n om_;rw[sumN];grind
structure Line where
 c:Rat
 f:List Rat
def Line.g (l:Line)(j:Nat):Rat:=l.f.getD j 0
structure Tab where
 basic:List Nat
 lines:List Line
 others:List Nat
 worth:Line
def Tab.line (t:Tab)(i:Nat):Line:=t.lines.getD i ⟨0,[]⟩
def Tab.bas (t:Tab)(i:Nat):Nat:=t.basic.getD i 0
def Tab.oth (t:Tab)(j:Nat):Nat:=t.others.getD j 0
def lv (l:Line)(os:List Nat)(x:Nat->Rat):Rat:=l.c+sumN (λj=>l.g j*x (os.getD j 0)) os.length
structure Tab.Ok (t:Tab)(N:Nat):Prop where
 ll:t.lines.length=t.basic.length
 fl:∀l∈t.lines,l.f.length=t.others.length
 wl:t.worth.f.length=t.others.length
 nd:(t.basic++t.others).Nodup
 lt:∀v∈t.basic++t.others,v<N
def Tab.Sol (t:Tab)(x:Nat->Rat):Prop:=∀i,i<t.basic.length->x (t.bas i)=lv (t.line i) t.others x
def Tab.W (t:Tab)(x:Nat->Rat):Rat:=lv t.worth t.others x
def putL (l:Line)(s:Nat)(b:Line):Line:=⟨l.c+l.g s*b.c,(List.range l.f.length).map λj=>(if j=s then 0 else l.g j)+l.g s*b.g j⟩
def byL (l:Line)(s:Nat):Line:=⟨-l.c / l.g s,(List.range l.f.length).map λj=>if j=s then 1 / l.g s else -l.g j / l.g s⟩
def Tab.pivot (t:Tab)(r s:Nat):Tab :=
 { basic:=t.basic.set r (t.oth s),others:=t.others.set s (t.bas r),lines:=(List.range t.lines.length).map λi=>if i=r then byL (t.line r) s else putL (t.line i) s (byL (t.line r) s),worth:=putL t.worth s (byL (t.line r) s) }
theorem map_range_getD {f:Nat->Rat}{n:Nat}(h:j<n):((List.range n).map f).getD j 0=f j:=by
 rw[al,SI,Tl h];rfl
theorem Hu {l b:Line}(h:j<l.f.length):(putL l s b).g j=(if j=s then 0 else l.g j)+l.g s*b.g j:=map_range_getD h
theorem byL_g {l:Line}(h:j<l.f.length):(byL l s).g j=if j=s then 1 / l.g s else -l.g j / l.g s:=map_range_getD h
theorem qF {l:List Nat}(h:s<l.length):(l.set s v).getD j 0=if j=s then v else l.getD j 0:=by
 rw[al,al,List.getElem?_set];by_cases e:s=j
 .subst e;rw[aL rfl,aL h,aL rfl];rfl
 rw[aF e,aF (Ne.symm e)]
theorem Fb {l:Line}(a:s<os.length):lv l os x=l.c+(l.g s*x (os.getD s 0)+sumN (λj=>if j=s then 0 else l.g j*x (os.getD j 0)) os.length):=by
 unfold lv;rw[sumN_at a]
theorem H9 {l b:Line}(a:s<os.length)(d:l.f.length=os.length) :
  lv (putL l s b) (os.set s v) x=l.c+(l.g s*lv b (os.set s v) x+sumN (λj=>if j=s then 0 else l.g j*x (os.getD j 0)) os.length):=by
 unfold lv;rw[TB];have e:sumN (λj=>(putL l s b).g j*x ((os.set s v).getD j 0)) os.length=sumN (λj=>l.g s*(b.g j*x ((os.set s v).getD j 0))+(if j=s then 0 else l.g j*x (os.getD j 0))) os.length:=sumN_congr λj i=>by
  rw[Hu om_,qF a];by_cases h:j=s
  .rw[aL h,aL h,aL h];grind
  rw[aF h,aF h,aF h];grind
 rw[e,sumN_add,sumN_mul];show l.c+l.g s*b.c+_=_;grind
theorem Ri {l:Line}(a:s<os.length)(d:l.f.length=os.length)(b:l.g s≠0) :
  (x v=lv l os x ↔ x (os.getD s 0)=lv (byL l s) (os.set s v) x):=by
 have h2:lv (byL l s) (os.set s v) x=-l.c / l.g s+(1 / l.g s*x v + -1 / l.g s*sumN (λj=>if j=s then 0 else l.g j*x (os.getD j 0)) os.length):=by
  rw[Fb (by rw[TB];exact a),TB,byL_g om_,aL rfl,qF a,aL rfl,<- sumN_mul];have e:sumN (λj=>if j=s then 0 else (byL l s).g j*x ((os.set s v).getD j 0)) os.length=sumN (λj=>-1 / l.g s*if j=s then 0 else l.g j*x (os.getD j 0)) os.length:=sumN_congr λj i=>by
   by_cases h:j=s
   .rw[aL h,aL h];grind
   rw[aF h,aF h,byL_g om_,aF h,qF a,aF h];grind
  rw[e];rfl
 rw[h2,Fb a];generalize sumN (λj=>if j=s then 0 else l.g j*x (os.getD j 0)) os.length=S;generalize l.g s=k at b;constructor <;> intro h <;> grind
theorem line_mem {t:Tab}(h:t.Ok N)(a:i<t.basic.length):t.line i∈t.lines:=by
 unfold Tab.line;rw[al,aj (by rw[h.ll];exact a)];exact TC _
theorem pivot_line {t:Tab}(a:i<t.lines.length):(t.pivot r s).line i=if i=r then byL (t.line r) s else putL (t.line i) s (byL (t.line r) s):=by
 unfold Tab.line Tab.pivot;rw[al,SI,Tl a];rfl
theorem yh {t:Tab}(h:t.Ok N)(b:r<t.basic.length)(c:s<t.others.length)(m:(t.line r).g s≠0):(t.pivot r s).Sol x ↔ t.Sol x:=by
 have n:=h.fl _ (line_mem h b);have l:=Ri (x:=x) (v:=t.bas r) c n m;have f:∀i,(t.pivot r s).bas i=if i=r then t.oth s else t.bas i:=λi=>qF b;have j:(t.pivot r s).others=t.others.set s (t.bas r):=rfl;have k:(t.pivot r s).basic.length=t.basic.length:=TB;constructor
 .intro d i a;have h0:=d r (by rw[k];exact b);rw[f,aL rfl,pivot_line (by rw[h.ll];exact b),aL rfl,j]at h0;by_cases e:i=r
  .subst e;exact l.2 h0
  have h1:=d i (by rw[k];exact a);rw[f,aF e,pivot_line (by rw[h.ll];exact a),aF e,j,H9 c (h.fl _ (line_mem h a)),<- h0]at h1;rw[h1,Fb c];rfl
 intro d i a;rw[k]at a;have h0:=l.1 (d r b);rw[f,pivot_line (by rw[h.ll];exact a),j];by_cases e:i=r
 .rw[aL e,aL e];exact h0
 rw[aF e,aF e,H9 c (h.fl _ (line_mem h a)),<- h0,d i a,Fb c]
theorem HC {t:Tab}(h:t.Ok N)(b:r<t.basic.length)(a:s<t.others.length)(c:(t.line r).g s≠0)(d:t.Sol x):(t.pivot r s).W x=t.W x:=by
 have e:=h.fl _ (line_mem h b);have h0:=(Ri (x:=x) (v:=t.bas r) a e c).1 (d r b);show lv (putL t.worth s (byL (t.line r) s)) (t.others.set s (t.bas r)) x=_;rw[H9 a h.wl,<- h0];unfold Tab.W;rw[Fb a]
theorem KD {a b:List Nat}(c:r<a.length)(d:s<b.length):(a.set r (b.getD s 0)++b.set s (a.getD r 0)).Perm (a++b):=by
 have e:∀{l:List Nat}{i:Nat}(_:i<l.length)(v:Nat),(v::l).Perm (l.getD i 0::l.set i v):=by
  intro l;induction l with
 |nil=>intro i h;exact absurd h (Nat.not_lt_zero _)
 |cons y l f =>
   intro i h v;cases i with
  |zero=>exact List.Perm.swap _ _ _
  |succ i =>
    have h1:=f (i:=i) (by simpa using h) v;show(v::y::l).Perm (l.getD i 0::y::l.set i v);exact(List.Perm.swap _ _ _).trans ((h1.cons y).trans (List.Perm.swap _ _ _))
 have h1:=e c (b.getD s 0);have h2:=e d (a.getD r 0);have h3:(b.getD s 0::a.getD r 0::(a++b)).Perm (a.getD r 0::b.getD s 0::(a.set r (b.getD s 0)++b.set s (a.getD r 0))):=by
  have g:(b.getD s 0::a.getD r 0::(a++b)).Perm ((b.getD s 0::a)++(a.getD r 0::b)):=by
   exact List.Perm.cons _<|List.perm_middle.symm
  have j:=h1.append h2;have k:((a.getD r 0::a.set r (b.getD s 0))++(b.getD s 0::b.set s (a.getD r 0))).Perm (a.getD r 0::b.getD s 0::(a.set r (b.getD s 0)++b.set s (a.getD r 0))):=by
   exact List.Perm.cons _<|List.perm_middle
  exact g.trans (j.trans k)
 exact((h3.trans (List.Perm.swap _ _ _)).cons_inv.cons_inv).symm
theorem Dk {t:Tab}(h:t.Ok N)(a:r<t.basic.length)(c:s<t.others.length):(t.pivot r s).Ok N:=by
 have hp:((t.pivot r s).basic++(t.pivot r s).others).Perm (t.basic++t.others):=KD a c;refine⟨?_, ?_, ?_,(List.Perm.nodup_iff hp).2 h.nd,λv d=>h.lt v (hp.mem_iff.1 d)⟩
 .show((List.range t.lines.length).map _).length=(t.basic.set _ _).length;rw[ar,TO,TB,h.ll]
 .intro l e;obtain⟨i,b,rfl⟩:=SL.1 e;rw[S7]at b;show _=(t.others.set _ _).length;rw[TB];split
  .show((List.range _).map _).length=_;rw[ar,TO];exact h.fl _ (line_mem h a)
  show((List.range _).map _).length=_;rw[ar,TO];exact h.fl _ (line_mem h (by rw[<- h.ll];exact b))
 show((List.range _).map _).length=(t.others.set _ _).length;rw[ar,TO,TB,h.wl]
end Go.Jog.Lp
namespace Go.Jog.Lp
theorem df:∀{l:List Nat}{i:Nat},l.Nodup->i<l.length->l.idxOf (l.getD i 0)=i
|x::l,0,_,_=>by simp[]
|x::l,i+1,c,d=>by
  have a:=Wf.1 c;have b:i<l.length:=by simpa using d
  have hm:l.getD i 0∈l:=by
   rw[al,aj b];exact TC _
  show(x::l).idxOf (l.getD i 0)=i+1;rw[List.idxOf_cons];have e:(x == l.getD i 0)=false:=by
   rw[UB];rintro rfl;exact a.1 hm
  rw[e,df a.2 b];rfl
theorem iK {l:List Nat}{i:Nat}(h:i<l.length):l.getD i 0∈l:=by
 rw[al,aj h];exact TC _
theorem dA {l:List Nat}{v:Nat}(h:v∈l):∃i,i<l.length/\l.getD i 0=v:=by
 let⟨i,a,e⟩:=List.getElem_of_mem h;exact⟨i,a,by rw[al,aj a,e];rfl⟩
section
variable {t:Tab} {N:Nat}
theorem Tab.Ok.nb (h:t.Ok N):t.basic.Nodup:=(Un.1 h.nd).1
theorem Tab.Ok.no (h:t.Ok N):t.others.Nodup:=(Un.1 h.nd).2.1
theorem Tab.Ok.dj (h:t.Ok N){v:Nat}(a:v∈t.basic)(b:v∈t.others):False:=(Un.1 h.nd).2.2 v a v b rfl
theorem bas_mem {i:Nat}(h:i<t.basic.length):t.bas i∈t.basic:=iK h
theorem oth_mem {j:Nat}(h:j<t.others.length):t.oth j∈t.others:=iK h
def Tab.ext (t:Tab)(y:Nat->Rat)(v:Nat):Rat:=if v∈t.basic then lv (t.line (t.basic.idxOf v)) t.others y else y v
theorem vL (_b:t.Ok N){y:Nat->Rat}{v:Nat}(a:v ∉ t.basic):t.ext y v=y v:=aF a
theorem vM (h:t.Ok N){y:Nat->Rat}{i:Nat}(a:i<t.basic.length):t.ext y (t.bas i)=lv (t.line i) t.others y:=by
 unfold Tab.ext;rw[aL (bas_mem a)];unfold Tab.bas;rw[df h.nb a]
theorem yw (h:t.Ok N){y:Nat->Rat}(l:Line):lv l t.others (t.ext y)=lv l t.others y:=by
 unfold lv;congr 1;exact sumN_congr λj a=>by rw[show t.ext y (t.others.getD j 0)=y (t.others.getD j 0) from vL h (λb=>h.dj b (oth_mem a))]
theorem oa (h:t.Ok N)(y:Nat->Rat):t.Sol (t.ext y):=λi a=>by rw[vM h a,yw h]
theorem H8 (l:Line)(a:List Nat):lv l a (λ_=>0)=l.c:=by
 unfold lv;rw[sumN_zero λj _=>by grind];grind
def Tab.sol (t:Tab):Nat->Rat:=t.ext λ_=>0
theorem sol_bas (h:t.Ok N){i:Nat}(a:i<t.basic.length):t.sol (t.bas i)=(t.line i).c:=by
 unfold Tab.sol;rw[vM h a,H8]
theorem sol_oth (h:t.Ok N){v:Nat}(a:v ∉ t.basic):t.sol v=0:=by unfold Tab.sol;rw[vL h a]
theorem eY (h:t.Ok N):t.Sol t.sol:=oa h _
theorem EJ (h:t.Ok N):t.W t.sol=t.worth.c:=by
 unfold Tab.W Tab.sol;rw[yw h,H8]
theorem H3 {r s v:Nat}(h:t.Ok N)(d:r<t.basic.length)(_n:s<t.others.length):v∈(t.pivot r s).basic ↔ v=t.oth s∨v∈t.basic/\v≠t.bas r:=by
 have f:∀i,(t.pivot r s).bas i=if i=r then t.oth s else t.bas i:=λi=>qF d;have g:(t.pivot r s).basic.length=t.basic.length:=TB;constructor
 .intro j;let⟨i,b,e⟩:=dA j;rw[g]at b;have a:(t.pivot r s).bas i=v:=e;rw[f]at a;by_cases c:i=r
  .rw[aL c]at a;exact .inl a.symm
  rw[aF c]at a;refine .inr ⟨by rw[<- a];exact bas_mem b,λk=>c ?_⟩;have h1:=df h.nb b;have h2:=df h.nb d;have l:t.basic.getD i 0=t.basic.getD r 0:=by rw[show t.basic.getD i 0=v from a];exact k
  rw[l,h2]at h1;exact h1.symm
 rintro (rfl|⟨j,m⟩)
 .have:=bas_mem (t:=t.pivot r s) (i:=r) (by rw[g];exact d);rw[f,aL rfl]at this;exact this
 let⟨i,b,e⟩:=dA j;have c:i≠r:=by rintro rfl;exact m e.symm
 have:=bas_mem (t:=t.pivot r s) (i:=i) (by rw[g];exact b);rw[f,aF c]at this;rw[<- e];exact this
end
structure Way (F N:Nat)(T:Nat->Tab)(R S:Nat->Nat)(K:Nat):Prop where
 ok:(T 0).Ok N
 st:∀k,k<K->T (k+1)=(T k).pivot (R k) (S k)
 r:∀k,k<K->R k<(T k).basic.length
 s:∀k,k<K->S k<(T k).others.length
 ne:∀k,k<K->((T k).line (R k)).g (S k)≠0
 rs:∀k,k<K->F<=(T k).bas (R k)
 ss:∀k,k<K->F<=(T k).oth (S k)
section
variable {F N K:Nat} {T:Nat->Tab} {R S:Nat->Nat}
theorem Way.oks (h:Way F N T R S K):∀k,k<=K->(T k).Ok N
|0,_=>h.ok
|k+1,a=>by
  rw[h.st k a];exact Dk (h.oks k om_) (h.r k a) (h.s k a)
theorem Way.sol1 (h:Way F N T R S K){x:Nat->Rat}:∀k,k<=K->((T k).Sol x ↔ (T 0).Sol x)
|0,_=>Iff.rfl
|k+1,a=>by
  rw[h.st k a,yh (h.oks k om_) (h.r k a) (h.s k a) (h.ne k a)];exact h.sol1 k om_
theorem Way.sols (h:Way F N T R S K){x:Nat->Rat}{k l:Nat}(a:k<=K)(b:l<=K):(T k).Sol x ↔ (T l).Sol x:=(h.sol1 k a).trans (h.sol1 l b).symm
theorem Way.w1 (h:Way F N T R S K){x:Nat->Rat}(b:(T 0).Sol x):∀k,k<=K->(T k).W x=(T 0).W x
|0,_=>rfl
|k+1,a=>by
  rw[h.st k a,HC (h.oks k om_) (h.r k a) (h.s k a) (h.ne k a) ((h.sol1 k om_).2 b)];exact h.w1 b k om_
theorem Way.ws (h:Way F N T R S K){x:Nat->Rat}{k l:Nat}(a:k<=K)(b:l<=K)(c:(T k).Sol x):(T k).W x=(T l).W x :=
 have h0:=(h.sol1 k a).1 c
 (h.w1 h0 k a).trans (h.w1 h0 l b).symm
def JS (T:Nat->Tab)(R S:Nat->Nat)(a b v:Nat):Prop:=∃k,a<=k/\k<b/\((T k).bas (R k)=v∨(T k).oth (S k)=v)
theorem Way.step (h:Way F N T R S K){k v:Nat}(a:k<K):v∈(T (k+1)).basic ↔ v=(T k).oth (S k)∨v∈(T k).basic/\v≠(T k).bas (R k):=by
 rw[h.st k a];exact H3 (h.oks k om_) (h.r k a) (h.s k a)
theorem Way.still (h:Way F N T R S K){a b v:Nat}(f:b<=K)(c:¬ JS T R S a b v):∀k,a<=k->k<=b->(v∈(T k).basic ↔ v∈(T a).basic):=by
 intro k g;induction k with
|zero=>intro _;rw[show a=0 by omega]
|succ k d =>
  intro i;rcases Th k a with h1|h1
  .rw[show a=k+1 by omega]
  rw[h.step om_,<- d h1 om_];constructor
  .rintro (rfl|⟨h2,_⟩)
   .exact absurd ⟨k,h1,by omega,.inr U⟩ c
   exact h2
  intro h2;exact .inr ⟨h2,λe=>c ⟨k,h1,by omega,.inl e.symm⟩⟩
theorem Way.leaves (h:Way F N T R S K){a b v:Nat}(o:b<=K)(j:v∈(T a).basic ↔ v∈(T b).basic)(m:JS T R S a b v):∃k,a<=k/\k<b/\(T k).bas (R k)=v:=by
 apply Ti;intro f;obtain⟨k,h1,h2,h3|h3⟩:=m
 .exact f ⟨k,h1,h2,h3⟩
 have up:∀l,k+1<=l->l<=b->v∈(T l).basic:=by
  intro l;induction l with
 |zero=>intro h4;omega
 |succ l g =>
   intro h4 h5;rw[h.step om_];rcases Th l (k+1) with c|c
   .rw[show l=k by omega];exact .inl h3.symm
   exact .inr ⟨g c om_,λe=>f ⟨l,by omega,by omega,e.symm⟩⟩
 have d:=j.2 (up b om_ (SH _));have n:∀l,a<=l->l<=k->v∈(T l).basic:=by
  intro l;induction l with
 |zero=>intro h4 _;rw[show a=0 by omega]at d;exact d
 |succ l g =>
   intro h4 h5;rcases Th l a with c|c
   .rw[show a=l+1 by omega]at d;exact d
   rw[h.step om_];exact .inr ⟨g c om_,λe=>f ⟨l,by omega,by omega,e.symm⟩⟩
 have i:=n k h1 (SH _);rw[<- h3]at i;exact(h.oks k om_).dj i (oth_mem (h.s k om_))
theorem Way.enters (h:Way F N T R S K){a b v:Nat}(p:b<=K)(j:v∈(T a).basic ↔ v∈(T b).basic)(m:JS T R S a b v):∃k,a<=k/\k<b/\(T k).oth (S k)=v:=by
 apply Ti;intro f;obtain⟨k,h1,h2,h3|h3⟩:=m
 .have up:∀l,k+1<=l->l<=b->v ∉ (T l).basic:=by
   intro l;induction l with
  |zero=>intro h4;omega
  |succ l g =>
    intro h4 h5 hm;rcases(h.step om_).1 hm with e|⟨e,n⟩
    .exact f ⟨l,by omega,by omega,e.symm⟩
    rcases Th l (k+1) with c|c
    .have:l=k:=by omega
     subst this;exact n h3.symm
    exact g c om_ e
  have d:v ∉ (T a).basic:=λhm=>up b om_ (SH _) (j.1 hm);have o:∀l,a<=l->l<=k->v ∉ (T l).basic:=by
   intro l;induction l with
  |zero=>intro h4 _;rw[show a=0 by omega]at d;exact d
  |succ l g =>
    intro h4 h5 hm;rcases Th l a with c|c
    .rw[show a=l+1 by omega]at d;exact d hm
    rcases(h.step om_).1 hm with e|⟨e,_⟩
    .exact f ⟨l,by omega,by omega,e.symm⟩
    exact g c om_ e
  have i:=o k h1 (SH _);rw[<- h3]at i;exact i (bas_mem (h.r k om_))
 exact f ⟨k,h1,h2,h3⟩
theorem Way.fick_slack (h:Way F N T R S K){a b v:Nat}(d:b<=K)(c:JS T R S a b v):F<=v/\v<N:=by
 obtain⟨k,h1,h2,h3|h3⟩:=c
 .rw[<- h3];exact⟨h.rs k om_,(h.oks k om_).lt _ (Uy _ (bas_mem (h.r k om_)))⟩
 rw[<- h3];exact⟨h.ss k om_,(h.oks k om_).lt _ (UE _ (oth_mem (h.s k om_)))⟩
theorem H6 {p:Nat->Prop}:∀N:Nat,(∀v,p v->v<N)->(∃v,p v)->∃t,p t/\∀u,p u->u<=t
|0,a,⟨v,b⟩=>absurd (a v b) (Nat.not_lt_zero _)
|N+1,a,d=>by
  by_cases c:p N
  .exact⟨N,c,λu e=>by have:=a u e;omega⟩
  exact H6 N (λv b=>by
   have:=a v b;rcases Th v N with h1|h1
   .exact h1
   exact absurd (show p N by rwa [show N=v by omega]) c) d
theorem Way.moved (h:Way F N T R S K){a b k l v:Nat}(c:b<=K)(e:a<=k)(f:k<=b)(g:a<=l)(i:l<=b)(j:v∈(T k).basic)(m:v ∉ (T l).basic):JS T R S a b v:=by
 apply Ti;intro d;exact m (((h.still c d k e f).trans (h.still c d l g i).symm).1 j)
theorem Way.feas (h:Way F N T R S K)
  (q:∀k,k<K->((T k).line (R k)).c<0/\∀i,i<(T k).basic.length->F<=(T k).bas i->((T k).line i).c<0->(T k).bas (R k)<=(T k).bas i)
  (B:∀k,k<K->0<((T k).line (R k)).g (S k)/\∀j,j<(T k).others.length->F<=(T k).oth j->0<((T k).line (R k)).g j->(T k).oth (S k)<=(T k).oth j)
  {a b:Nat} (O:a<b) (d:b<=K):¬ ∀v,v∈(T a).basic ↔ v∈(T b).basic:=by
 intro hs;let⟨t,ht,C⟩:=H6 (p:=JS T R S a b) N (λv P=>(h.fick_slack d P).2) ⟨_,a,SH _,O,.inl rfl⟩;let⟨k,k1,k2,D⟩:=h.leaves d (hs t) ht;let⟨l,l1,l2,w⟩:=h.enters d (hs t) ht;have f:=h.oks k om_;have n:=h.oks l om_;have E:=h.r l om_;have G:=h.s l om_
 have pos:∀u,JS T R S a b u->u≠t->0<=(T k).sol u:=by
  intro u H Q;by_cases m:u∈(T k).basic
  .let⟨i,I,e⟩:=dA m;have y:(T k).bas i=u:=e;rw[<- y,sol_bas f I];apply Ti;intro J;have:=(q k om_).2 i I (by rw[y];exact(h.fick_slack d H).1) (by grind);rw[D,y]at this;exact Q (Nat.le_antisymm (C u H) this)
  rw[sol_oth f m];exact Rat.le_refl
 have J:(T k).sol t<0:=by
  rw[<- D,sol_bas f (h.r k om_)];exact(q k om_).1
 have U:=(h.sols (x:=(T k).sol) om_ om_).1 (eY f) (R l) E;have V:(T l).bas (R l)≠t:=by
  intro e;have:=bas_mem E;rw[e,<- w]at this;exact n.dj this (oth_mem G)
 have L:=pos _ ⟨l,l1,l2,.inl rfl⟩ V;rw[U]at L;have hc:=(q l om_).1;have aa:sumN (λj=>((T l).line (R l)).g j*(T k).sol ((T l).others.getD j 0)) (T l).others.length<=0:=by
  refine zU λj z=>?_;show((T l).line (R l)).g j*(T k).sol ((T l).oth j)<=0;by_cases o:(T l).oth j=t
  .have W:0<((T l).line (R l)).g j:=by
    have e:j=S l:=by
     have M:=df n.no z;have X:=df n.no G;have Y:(T l).others.getD j 0=(T l).others.getD (S l) 0:=o.trans w.symm;rw[Y,X]at M;exact M.symm
    rw[e];exact(B l om_).1
   rw[o];have:=Rat.mul_lt_mul_of_pos_left J W;grind
  by_cases m:(T l).oth j∈(T k).basic
  .have A:=h.moved d k1 om_ l1 om_ m (λhm=>n.dj hm (oth_mem z));have Z:=pos _ A o;have hg:((T l).line (R l)).g j<=0:=by
    apply Ti;intro ab;have:=(B l om_).2 j z (h.fick_slack d A).1 (by grind);rw[w]at this;exact o (Nat.le_antisymm (C _ A) this)
   have:=Rat.mul_nonneg (show 0<=-((T l).line (R l)).g j by grind) Z;grind
  rw[sol_oth f m];grind
 unfold lv at L;grind
end
end Go.Jog.Lp
namespace Go.Jog.Lp
section
variable {t:Tab} {N:Nat}
theorem Ia {l:Line}{a:List Nat}{x:Nat->Rat}(h:∀j,j<a.length->x (a.getD j 0)=0):lv l a x=l.c:=by
 unfold lv;rw[sumN_zero λj b=>by rw[h j b];grind];grind
theorem CI (h:t.Ok N){x:Nat->Rat}(d:t.Sol x)(b:∀v,v ∉ t.basic->x v=0):∀v,x v=t.sol v:=by
 intro v;by_cases a:v∈t.basic
 .let⟨i,c,e⟩:=dA a;have f:t.bas i=v:=e;rw[<- f,sol_bas h c,d i c,Ia λj g=>b _ (λk=>h.dj k (oth_mem g))]
 rw[b v a,sol_oth h a]
theorem RL (h:t.Ok N){x:Nat->Rat}(a:∀v,v ∉ t.basic->x v=0):t.W x=t.worth.c:=Ia λ_e b=>a _ (λd=>h.dj d (oth_mem b))
def dI (s:Nat)(v:Nat):Rat:=if v=s then 1 else 0
theorem rq (h:t.Ok N){l:Line}{s:Nat}(a:s<t.others.length):lv l t.others (dI (t.oth s))=l.c+l.g s:=by
 rw[Fb a,sumN_zero λj b=>?_]
 .show l.c+(l.g s*dI (t.oth s) (t.oth s)+0)=_;unfold dI;rw[aL rfl];grind
 by_cases e:j=s
 .rw[aL e]
 rw[aF e];unfold dI;rw[aF,Rat.mul_zero];intro d;have h1:=df h.no b;rw[show t.others.getD j 0=t.others.getD s 0 from d,df h.no a]at h1;exact e h1.symm
end
section
variable {F N K:Nat} {T:Nat->Tab} {R S:Nat->Nat}
theorem Way.mini (h:Way F N T R S K)
  (y:∀k,k<K->(T k).worth.g (S k)<0/\∀j,j<(T k).others.length->F<=(T k).oth j->(T k).worth.g j<0->(T k).oth (S k)<=(T k).oth j)
  (G:∀k,k<K->((T k).line (R k)).g (S k)<0/\∀i,i<(T k).basic.length->F<=(T k).bas i->((T k).line i).g (S k)<0->((T k).line (R k)).c=0->((T k).line i).c=0->(T k).bas (R k)<=(T k).bas i)
  (h3:∀k,k<K->∀i,i<(T k).basic.length->F<=(T k).bas i->0<=((T k).line i).c)
  {a b:Nat} (ae:a<b) (n:b<=K):¬ ∀v,v∈(T a).basic ↔ v∈(T b).basic:=by
 intro hs
 have P:∀k,k<K->(T (k+1)).worth.c=(T k).worth.c+(T k).worth.g (S k)*(-((T k).line (R k)).c / ((T k).line (R k)).g (S k)):=λk f=>by
  rw[h.st k f];rfl
 have Q:∀k,k<K->0<=-((T k).line (R k)).c / ((T k).line (R k)).g (S k)/\(-((T k).line (R k)).c / ((T k).line (R k)).g (S k)=0->((T k).line (R k)).c=0):=λk f=>by
  have U:=h3 k f (R k) (h.r k f) (h.rs k f);have hg:=(G k f).1;generalize ((T k).line (R k)).c=c at U;generalize ((T k).line (R k)).g (S k)=g at hg;have e:-c / g=c*(-g)⁻¹:=by grind
  have hp:0<(-g)⁻¹:=Rat.inv_pos.2 (by grind);refine⟨by rw[e];exact Rat.mul_nonneg U (by grind),λh0=>?_⟩;grind
 have V:∀k,k<K->(T (k+1)).worth.c<=(T k).worth.c:=λk f=>by
  rw[P k f];have:=Rat.mul_nonneg (show 0<=-(T k).worth.g (S k) by have:=(y k f).1;grind) (Q k f).1;grind
 have X:∀d k,k+d<=K->(T (k+d)).worth.c<=(T k).worth.c:=by
  intro d;induction d with
 |zero=>intro k _;exact Rat.le_refl
 |succ d H =>
   intro k f;exact Rat.le_trans (V (k+d) om_) (H k om_)
 have I:=h.oks a om_;have af:=h.oks b n;have au:(T a).worth.c=(T b).worth.c:=by
  rw[<- EJ I,h.ws om_ n (eY I)];exact RL af λv z=>sol_oth I (λhm=>z ((hs v).1 hm))
 have Y:∀k,a<=k->k<b->((T k).line (R k)).c=0:=by
  intro k k1 k2;have o:=X (k-a) a om_;rw[show a+(k-a)=k by omega]at o;have q:=X (b-(k+1)) (k+1) om_;rw[show k+1+(b-(k+1))=b by omega]at q;have e3:=P k om_;have e4:=V k om_;have e5:(T k).worth.g (S k)*(-((T k).line (R k)).c / ((T k).line (R k)).g (S k))=0:=by grind
  refine(Q k om_).2 ?_;rcases Rat.mul_eq_zero.1 e5 with J|J
  .have:=(y k om_).1;rw[J]at this;exact absurd this dc_
  exact J
 have Z:∀k,a<=k->k<=b->∀v,(T k).sol v=(T a).sol v:=by
  intro k;induction k with
 |zero=>intro k1 _ v;rw[show a=0 by omega]
 |succ k H =>
   intro k1 k2 v;rcases Th k a with h5|h5
   .rw[show a=k+1 by omega]
   rw[<- H h5 om_ v];symm;refine CI (h.oks (k+1) om_) ((h.sols om_ om_).1 (eY (h.oks k om_))) (λw A=>?_) v;by_cases aa:w∈(T k).basic
   .have e:w=(T k).bas (R k):=by
     apply Ti;intro L;exact A ((h.step om_).2 (.inr ⟨aa,L⟩))
    rw[e,sol_bas (h.oks k om_) (h.r k om_),Y k h5 om_]
   exact sol_oth (h.oks k om_) aa
 have ag:∀v,JS T R S a b v->∀k,a<=k->k<=b->(T k).sol v=0:=by
  intro v z k k1 k2;let⟨l,l1,l2,e⟩:=h.enters n (hs v) z;rw[Z k k1 k2 v,<- Z l l1 om_ v];exact sol_oth (h.oks l om_) (λhm=>(h.oks l om_).dj hm (by rw[<- e];exact oth_mem (h.s l om_)))
 let⟨t,ht,ab⟩:=H6 (p:=JS T R S a b) N (λv z=>(h.fick_slack n z).2) ⟨_,a,SH _,ae,.inl rfl⟩;let⟨k,k1,k2,f⟩:=h.leaves n (hs t) ht;let⟨l,l1,l2,hl⟩:=h.enters n (hs t) ht;have m:=h.oks k om_;have M:=h.oks l om_;have ac:=h.r k om_;have O:=h.s k om_;have ah:=h.s l om_;have ai:=oa m (dI ((T k).oth (S k)));have w1:=h.ws (k:=k) (l:=l) om_ om_ ai;have w0:=h.ws (k:=k) (l:=l) om_ om_ (eY m);rw[EJ m]at w0;have aj:(T k).W ((T k).ext (dI ((T k).oth (S k))))=(T k).worth.c+(T k).worth.g (S k):=by
  unfold Tab.W;rw[yw m,rq m O]
 rw[aj]at w1;have av:=(y k om_).1;have ak:JS T R S a b ((T k).oth (S k)):=⟨k,k1,k2,.inr rfl⟩;have al:(T k).oth (S k)≠t:=by
  intro e;have h4:=bas_mem ac;rw[f,<- e]at h4;exact m.dj h4 (oth_mem O)
 have ad:∀j,j<(T l).others.length->JS T R S a b ((T l).oth j)->(T l).oth j≠t->0<=(T l).worth.g j:=by
  intro j x u L;apply Ti;intro am;have:=(y l om_).2 j x (h.fick_slack n u).1 (by grind);rw[hl]at this;exact L (Nat.le_antisymm (ab _ u) this)
 have an:0<=sumN (λj=>(T l).worth.g j*((T k).ext (dI ((T k).oth (S k))) ((T l).oth j)-(T k).sol ((T l).oth j))) (T l).others.length:=by
  refine sumN_ge λj x=>?_;by_cases D:(T l).oth j∈(T k).basic
  .have u:=h.moved n k1 om_ l1 om_ D (λhm=>M.dj hm (oth_mem x));let⟨i,B,e⟩:=dA D;have C:(T k).bas i=(T l).oth j:=e;have ao:((T k).line i).c=0:=by rw[<- sol_bas m B,C];exact ag _ u k k1 om_
   rw[<- C,vM m B,sol_bas m B,rq m O];have ez:((T k).line i).c+((T k).line i).g (S k)-((T k).line i).c=((T k).line i).g (S k):=by grind
   rw[ez];by_cases E:(T l).oth j=t
   .have ap:j=S l:=by
     have o:=df M.no x;rw[show(T l).others.getD j 0=(T l).others.getD (S l) 0 from E.trans hl.symm,df M.no ah]at o;exact o.symm
    have aq:i=R k:=by
     have o:=df m.nb B;rw[show(T k).basic.getD i 0=(T k).basic.getD (R k) 0 from(C.trans E).trans f.symm,df m.nb ac]at o;exact o.symm
    have g1:=(y l om_).1;have g2:=(G k om_).1;rw[<- ap]at g1;rw[<- aq]at g2;have:=Rat.mul_nonneg (show 0<=-(T l).worth.g j by grind) (show 0<=-((T k).line i).g (S k) by grind);grind
   have A:=ad j x u E;refine Rat.mul_nonneg A ?_;apply Ti;intro am;have:=(G k om_).2 i B (by rw[C];exact(h.fick_slack n u).1) (by grind) (Y k k1 k2) ao;rw[f,C]at this;exact E (Nat.le_antisymm (ab _ u) this)
  rw[vL m D,sol_oth m D];unfold dI;split
  .rename_i e;have A:=ad j x (by rw[e];exact ak) (by rw[e];exact al);have q:(1:Rat)-0=1:=by grind
   rw[q,Rat.mul_one];exact A
  have q:(0:Rat)-0=0:=by grind
  rw[q,Rat.mul_zero];exact Rat.le_refl
 have ar:(T l).W ((T k).ext (dI ((T k).oth (S k))))-(T l).W (T k).sol=sumN (λj=>(T l).worth.g j*((T k).ext (dI ((T k).oth (S k))) ((T l).oth j)-(T k).sol ((T l).oth j))) (T l).others.length:=by
  have e:=sumN_add (λj=>(T l).worth.g j*((T k).ext (dI ((T k).oth (S k))) ((T l).oth j)-(T k).sol ((T l).oth j))) (λj=>(T l).worth.g j*(T k).sol ((T l).oth j)) (T l).others.length;have q:sumN (λj=>(T l).worth.g j*((T k).ext (dI ((T k).oth (S k))) ((T l).oth j)-(T k).sol ((T l).oth j))+(T l).worth.g j*(T k).sol ((T l).oth j)) (T l).others.length=sumN (λj=>(T l).worth.g j*(T k).ext (dI ((T k).oth (S k))) ((T l).others.getD j 0)) (T l).others.length:=sumN_congr λj _=>by
   show _=(T l).worth.g j*(T k).ext (dI ((T k).oth (S k))) ((T l).oth j);grind
  rw[q]at e;unfold Tab.W lv;rw[e];show _-((T l).worth.c+sumN (λj=>(T l).worth.g j*(T k).sol ((T l).oth j)) (T l).others.length)=_;grind
 rw[<- ar,<- w1,<- w0]at an;grind
end
end Go.Jog.Lp
namespace Go.Jog.Lp
variable {F K N:Nat}{P:Tab->Nat->Nat->Prop}{r s:Nat}{t:Tab}
def cdN (p:Nat->Bool):Nat->Nat
|0=>0
|n+1=>cdN p n+(if p n then 2 ^ n else 0)
theorem Ea (p:Nat->Bool):∀n,cdN p n<2 ^ n
|0=>Nat.one_pos
|n+1=>by
  have:=Ea p n;have e:2 ^ (n+1)=2 ^ n+2 ^ n:=by rw[T3];omega
  simp only[cdN];split <;> omega
theorem Bw {p q:Nat->Bool}:∀{n:Nat},cdN p n=cdN q n->∀v,v<n->p v=q v
|n+1,h,v,c=>by
  have h1:=Ea p n;have h2:=Ea q n;simp only[cdN]at h;have a:p n=q n:=by
   cases hp:p n <;> cases b:q n <;> simp[hp,b]at h⊢ <;> omega
  rw[a]at h;rcases Th v n with h3|h3
  .exact Bw om_ v h3
  rw[show v=n by omega];exact a
theorem Way.len {T:Nat->Tab}{R S:Nat->Nat}(h:Way F N T R S K)(g:∀a b,a<b->b<=K->¬ ∀v,v∈(T a).basic ↔ v∈(T b).basic):K+1<=2 ^ N:=by
 have i:((List.range (K+1)).map λk=>cdN (λv=>decide (v∈(T k).basic)) N).Nodup:=by
  unfold List.Nodup;rw[List.pairwise_map];refine List.Pairwise.imp_of_mem ?_ List.pairwise_lt_range;intro a b _ d j e;refine g a b j (by rw[S7]at d;omega) λv=>?_;have f:∀k,k<=K->v∈(T k).basic->v<N:=λk l c=>(h.oks k l).lt v (Uy _ c);rw[S7]at d;constructor
  .intro c;have:=Bw e v (f a om_ c);rw[S4 c]at this;exact aT this.symm
  intro c;have:=Bw e v (f b om_ c);rw[S4 c]at this;exact aT this
 have:=List.Nodup.length_le_of_subset (l₂:=List.range (2 ^ N)) i (λx m=>by
  obtain⟨k,_,rfl⟩:=SL.1 m;exact S7.2 (Ea _ N))
 simpa using this
def Reach (P:Tab->Nat->Nat->Prop)(t:Tab)(K:Nat):Prop:=∃(T:Nat->Tab)(R S:Nat->Nat),T 0=t/\∀k,k<K->P (T k) (R k) (S k)/\T (k+1)=(T k).pivot (R k) (S k)
theorem Reach.cons (h:P t r s)(a:Reach P (t.pivot r s) K):Reach P t (K+1):=by
 let⟨T,R,S,h0,h1⟩:=a;refine⟨λk=>match k with|0=>t|k+1=>T k,λk=>match k with|0=>r|k+1=>R k,λk=>match k with|0=>s|k+1=>S k,U,λk a=>?_⟩;cases k with
|zero=>exact⟨h,h0⟩
|succ k=>exact h1 k om_
theorem Reach.one (h:P t r s):Reach P t 1:=Reach.cons h ⟨λ_=>t.pivot r s,λ_=>0,λ_=>0,rfl,λ_b a=>absurd a (Nat.not_lt_zero _)⟩
theorem Reach.fall {m:Nat}(h:P t r s)(a:∀K,Reach P t K->K<=m):0<m/\∀K,Reach P (t.pivot r s) K->K<=m-1:=by
 have h1:=a 1 (Reach.one h);exact⟨by omega,λK b=>by have:=a _ (Reach.cons h b);omega⟩
structure FeasP (F:Nat)(t:Tab)(r s:Nat):Prop where
 hr:r<t.basic.length
 hs:s<t.others.length
 rs:F<=t.bas r
 ss:F<=t.oth s
 c:(t.line r).c<0
 rl:∀i,i<t.basic.length->F<=t.bas i->(t.line i).c<0->t.bas r<=t.bas i
 g:0<(t.line r).g s
 sl:∀j,j<t.others.length->F<=t.oth j->0<(t.line r).g j->t.oth s<=t.oth j
def Tab.Feas (F:Nat)(t:Tab):Prop:=∀i,i<t.basic.length->F<=t.bas i->0<=(t.line i).c
structure MinP (F:Nat)(t:Tab)(r s:Nat):Prop where
 hr:r<t.basic.length
 hs:s<t.others.length
 rs:F<=t.bas r
 ss:F<=t.oth s
 w:t.worth.g s<0
 sl:∀j,j<t.others.length->F<=t.oth j->t.worth.g j<0->t.oth s<=t.oth j
 g:(t.line r).g s<0
 rl:∀i,i<t.basic.length->F<=t.bas i->(t.line i).g s<0->(t.line r).c / -(t.line r).g s<(t.line i).c / -(t.line i).g s∨(t.line r).c / -(t.line r).g s=(t.line i).c / -(t.line i).g s/\t.bas r<=t.bas i
 feas:t.Feas F
theorem feas_len (h:t.Ok N)(f:Reach (FeasP F) t K):K<=2 ^ N:=by
 let⟨T,R,S,h0,h1⟩:=f;have e:Way F N T R S K:=⟨by rw[h0];exact h,λk d=>(h1 k d).2,λk d=>(h1 k d).1.hr,λk d=>(h1 k d).1.hs,λk d=>by have:=(h1 k d).1.g;grind,λk d=>(h1 k d).1.rs,λk d=>(h1 k d).1.ss⟩;have:=e.len λa b i j=>e.feas (λk d=>⟨(h1 k d).1.c,(h1 k d).1.rl⟩) (λk d=>⟨(h1 k d).1.g,(h1 k d).1.sl⟩) i j;omega
theorem min_len (h:t.Ok N)(f:Reach (MinP F) t K):K<=2 ^ N:=by
 let⟨T,R,S,h0,h1⟩:=f;have d:Way F N T R S K:=⟨by rw[h0];exact h,λk c=>(h1 k c).2,λk c=>(h1 k c).1.hr,λk c=>(h1 k c).1.hs,λk c=>by have:=(h1 k c).1.g;grind,λk c=>(h1 k c).1.rs,λk c=>(h1 k c).1.ss⟩;have:=d.len λa b j l=>d.mini (λk c=>⟨(h1 k c).1.w,(h1 k c).1.sl⟩) (λk c=>⟨(h1 k c).1.g,λi m n o p q=>by
  rcases(h1 k c).1.rl i m n o with h3|h3
  .rw[p,q]at h3;have e:∀x:Rat,0 / x=0:=λx=>by grind
   rw[e,e]at h3;exact absurd h3 dc_
  exact h3.2⟩) (λk c=>(h1 k c).1.feas) j l
 omega
theorem yi (a:r<t.basic.length)(i:Nat):(t.pivot r s).bas i=if i=r then t.oth s else t.bas i:=qF a
theorem qT (a:s<t.others.length)(j:Nat):(t.pivot r s).oth j=if j=s then t.bas r else t.oth j:=qF a
theorem min_feas (h:t.Ok N)(a:MinP F t r s):(t.pivot r s).Feas F:=by
 intro i b d;have l:(t.pivot r s).basic.length=t.basic.length:=TB;rw[l]at b;rw[yi a.hr]at d;rw[pivot_line (by rw[h.ll];exact b)];have m:=a.feas r a.hr a.rs;have p:=a.g;have f:0<=(t.line r).c / -(t.line r).g s:=by
  have a:0<(-(t.line r).g s)⁻¹:=Rat.inv_pos.2 (by grind);have e:(t.line r).c / -(t.line r).g s=(t.line r).c*(-(t.line r).g s)⁻¹:=by grind
  rw[e];exact Rat.mul_nonneg m (by grind)
 have j:-(t.line r).c / (t.line r).g s=(t.line r).c / -(t.line r).g s:=by grind
 by_cases e:i=r
 .rw[aL e];show 0<=-(t.line r).c / (t.line r).g s;rw[j];exact f
 rw[aF e]at d⊢;show 0<=(t.line i).c+(t.line i).g s*(-(t.line r).c / (t.line r).g s);rw[j];have q:=a.feas i b d;by_cases n:(t.line i).g s<0
 .have k:(t.line r).c / -(t.line r).g s<=(t.line i).c / -(t.line i).g s:=by
   rcases a.rl i b d n with h3|h3
   .exact Rat.le_of_lt h3
   rw[h3.1];exact Rat.le_refl
  generalize (t.line r).c / -(t.line r).g s=th at k f;have o:(t.line i).c=-(t.line i).g s*((t.line i).c / -(t.line i).g s):=by grind
  have:=Vj k (show 0<=-(t.line i).g s by grind);rw[<- o]at this;grind
 have:=Rat.mul_nonneg (show 0<=(t.line i).g s by grind) f;grind
end Go.Jog.Lp
namespace Go.Jog.Lp
variable {i n:Nat}
abbrev Col:=Nat->Rat
def detN:Nat->Nat->List Col->Rat
|0,_,_=>1
|n+1,r,l=>sumN (λi=>(-1) ^ i*((l.getD i λ_=>0) r*detN n (r+1) (l.eraseIdx i))) (n+1)
def det (r:Nat)(l:List Col):Rat:=detN l.length r l
theorem iP {r:Nat}{l:List Col}(h:l.length=n+1):det r l=sumN (λi=>(-1) ^ i*((l.getD i λ_=>0) r*det (r+1) (l.eraseIdx i))) (n+1):=by
 unfold det;rw[h];show sumN _ (n+1)=_;refine sumN_congr λi a=>?_;rw[List.length_eraseIdx,aL om_,h];rfl
theorem jv (i:Nat):(-1:Rat) ^ (i+1)=-(-1) ^ i:=by rw[Rat.pow_succ];grind
theorem ku {a:Col}{b c:List Col}{d:Col}:(b++a::c).getD b.length d=a:=by
 rw[al,Tj (SH _),VG];rfl
theorem yF {a b:Col}{c e:List Col}{d:Col}:(c++a::b::e).getD (c.length+1) d=b:=by
 rw[al,Tj om_,Ud];rfl
theorem DJ {a b:Col}{c f:List Col}{d:Col}(h:i≠c.length):(c++a::f).getD i d=(c++b::f).getD i d:=by
 rw[al,al];rcases Th i c.length with h1|h1
 .rw[Tz h1,Tz h1]
 rw[Tj h1,Tj h1];cases e:i-c.length with
|zero=>omega
|succ k=>rfl
theorem ig {a:Col}{b c:List Col}:(b++a::c).eraseIdx b.length=b++c:=by
 rw[List.eraseIdx_append_of_length_le (SH _),VG];rfl
theorem tZ {a b:Col}{c d:List Col}:(c++a::b::d).eraseIdx (c.length+1)=c++a::d:=by
 rw[List.eraseIdx_append_of_length_le om_,Ud];rfl
theorem IY {l1 l2:List Col}(h:i≠l1.length)(e:i<l1.length+1+l2.length):∃b c:List Col,b.length+1+c.length+1=l1.length+1+l2.length/\∀a:Col,(l1++a::l2).eraseIdx i=b++a::c:=by
 rcases Th i l1.length with h1|h1
 .refine⟨l1.eraseIdx i,l2, ?_,λa=>List.eraseIdx_append_of_lt_length h1 _⟩;rw[List.length_eraseIdx,aL h1];omega
 let⟨k,d⟩:∃k,i-l1.length=k+1:=⟨i-l1.length-1,by omega⟩;refine⟨l1,l2.eraseIdx k, ?_,λa=>?_⟩
 .rw[List.length_eraseIdx,aL om_];omega
 rw[List.eraseIdx_append_of_length_le h1,d];rfl
theorem vS {p q:Rat}{a b:Col}:∀(n r:Nat)(l1 l2:List Col),l1.length+1+l2.length=n->det r (l1++(λk=>p*a k+q*b k)::l2)=p*det r (l1++a::l2)+q*det r (l1++b::l2)
|0,r,l1,l2,h=>by omega
|n+1,r,l1,l2,h=>by
  rw[iP (n:=n) ap,iP (l:=l1++a::l2) (n:=n) ap,iP (l:=l1++b::l2) (n:=n) ap,<- sumN_mul,<- sumN_mul,<- sumN_add];refine sumN_congr λi g=>?_;by_cases e:i=l1.length
  .subst e;rw[ku,ku,ku,ig,ig,ig];grind
  rw[DJ (b:=a) e,DJ (a:=b) (b:=a) e];let⟨d,f,hm,c⟩:=IY (l1:=l1) (l2:=l2) e om_;rw[c,c,c,vS n (r+1) d f om_];grind
theorem IL {a b:Col}{c e:List Col}{d:Col}(h:i≠c.length)(g:i≠c.length+1):(c++a::b::e).getD i d=(c++b::a::e).getD i d:=by
 rw[al,al];rcases Th i c.length with h1|h1
 .rw[Tz h1,Tz h1]
 rw[Tj h1,Tj h1];let⟨k,f⟩:∃k,i-c.length=k+2:=⟨i-c.length-2,by omega⟩;rw[f];rfl
theorem FC {l1 l2:List Col}(h:i≠l1.length)(f:i≠l1.length+1)(g:i<l1.length+2+l2.length):∃c d:List Col,c.length+2+d.length+1=l1.length+2+l2.length/\∀a b:Col,(l1++a::b::l2).eraseIdx i=c++a::b::d:=by
 rcases Th i l1.length with h1|h1
 .refine⟨l1.eraseIdx i,l2, ?_,λa b=>List.eraseIdx_append_of_lt_length h1 _⟩;rw[List.length_eraseIdx,aL h1];omega
 let⟨k,e⟩:∃k,i-l1.length=k+2:=⟨i-l1.length-2,by omega⟩;refine⟨l1,l2.eraseIdx k, ?_,λa b=>?_⟩
 .rw[List.length_eraseIdx,aL om_];omega
 rw[List.eraseIdx_append_of_length_le h1,e];rfl
theorem CD (g:Nat->Rat):∀n,sumN (λj=>-g j) n=-sumN g n
|0=>by simp only[sumN];grind
|n+1=>by simp only[sumN];rw[CD g n];grind
theorem CC {g:Nat->Rat}{a:Nat}(h:a+1<n):sumN g n=g a+g (a+1)+sumN (λj=>if j=a∨j=a+1 then 0 else g j) n:=by
 rw[sumN_at (a:=a) om_,sumN_at (g:=λj=>if j=a then 0 else g j) (a:=a+1) h,aF om_];have e:sumN (λj=>if j=a+1 then 0 else if j=a then 0 else g j) n=sumN (λj=>if j=a∨j=a+1 then 0 else g j) n:=sumN_congr λj _=>by
  by_cases h1:j=a
  .rw[aL (show j=a∨j=a+1 from .inl h1),aF om_,aL h1]
  by_cases h2:j=a+1
  .rw[aL h2,aL (show j=a∨j=a+1 from .inr h2)]
  rw[aF h2,aF h1,aF om_]
 rw[e];grind
theorem vR {a b:Col}:∀(n r:Nat)(l1 l2:List Col),l1.length+2+l2.length=n->det r (l1++a::b::l2)=-det r (l1++b::a::l2)
|0,r,l1,l2,h=>by omega
|n+1,r,l1,l2,h=>by
  rw[iP (n:=n) ap,iP (l:=l1++b::a::l2) (n:=n) ap,CC (g:=λi=>(-1) ^ i*((l1++a::b::l2).getD i (λ_=>0) r*det (r+1) ((l1++a::b::l2).eraseIdx i))) (a:=l1.length) om_,
   CC (g:=λi=>(-1) ^ i*((l1++b::a::l2).getD i (λ_=>0) r*det (r+1) ((l1++b::a::l2).eraseIdx i))) (a:=l1.length) om_]
  rw[ku,yF,ku,yF,ig,tZ,ig,tZ,jv];have e:sumN (λj=>if j=l1.length∨j=l1.length+1 then 0 else (-1) ^ j*((l1++a::b::l2).getD j (λ_=>0) r*det (r+1) ((l1++a::b::l2).eraseIdx j))) (n+1) =
    -sumN (λj=>if j=l1.length∨j=l1.length+1 then 0 else (-1) ^ j*((l1++b::a::l2).getD j (λ_=>0) r*det (r+1) ((l1++b::a::l2).eraseIdx j))) (n+1):=by
   rw[<- CD];refine sumN_congr λj k=>?_;by_cases h1:j=l1.length∨j=l1.length+1
   .rw[aL h1,aL h1];grind
   rw[aF h1,aF h1,IL om_ om_];let⟨d,f,hm,c⟩:=FC (l1:=l1) (l2:=l2) (i:=j) om_ om_ om_;rw[c,c,vR n (r+1) d f om_];grind
  rw[e];grind
theorem mW {a:Col}:∀(l2:List Col)(r:Nat)(l1 c:List Col),det r (l1++a::(l2++a::c))=0
|[],r,l1,c=>by
  have h:=vR (a:=a) (b:=a) _ r l1 c rfl;show det r (l1++a::a::c)=0;grind
|b::l2,r,l1,c=>by
  have h:=vR (a:=a) (b:=b) _ r l1 (l2++a::c) rfl;have d:=mW (a:=a) l2 r (l1++[b]) c;rw[Tn]at d;show det r (l1++a::b::(l2++a::c))=0;rw[h,show l1++b::a::(l2++a::c)=l1++([b]++a::(l2++a::c)) from rfl,d];grind
theorem PF {l:List Col}{j:Nat}(g:i<l.length)(k:j<l.length)(n:i≠j)(r:Nat):det r (l.set i (l.getD j λ_=>0))=0:=by
 have t:l[j]?=some (l.getD j λ_=>0):=by rw[al,aj k];rfl
 have o:∀{a b:Nat}{m:List Col}{x:Col},a<b->b<m.length->m[a]?=some x->m[b]?=some x->∃c d f,m=c++x::(d++x::f):=by
  intro a b m x u p q s;refine⟨m.take a,(m.drop (a+1)).take (b-a-1),m.drop (b+1), ?_⟩;have h1:m=m.take a++x::m.drop (a+1):=by
   have:=TE a m;rw[Tg om_]at this;rw[aj om_]at q;rw[Ue q]at this;exact this.symm
  have h2:m.drop (a+1)=(m.drop (a+1)).take (b-a-1)++x::m.drop (b+1):=by
   have:=TE (b-a-1) (m.drop (a+1));rw[List.drop_drop,show a+1+(b-a-1)=b by omega,Tg p]at this;rw[aj p]at s;rw[Ue s]at this;exact this.symm
  rw[<- h2];exact h1
 have h1:(l.set i (l.getD j λ_=>0))[i]?=some (l.getD j λ_=>0):=by rw[Vq g]
 have h2:(l.set i (l.getD j λ_=>0))[j]?=some (l.getD j λ_=>0):=by rw[VC n];exact t
 rcases Nat.lt_or_gt_of_ne n with h|h
 .let⟨c,d,f,e⟩:=o h (by rw[TB];exact k) h1 h2;rw[e];exact mW d r c f
 let⟨c,d,f,e⟩:=o h (by rw[TB];exact g) h2 h1;rw[e];exact mW d r c f
theorem lY {l:List Col}{x:Col}(h:i<l.length):l.set i x=l.take i++x::l.drop (i+1):=List.set_eq_take_append_cons_drop.trans (aL h)
def Mj (l:List Col)(x:Nat->Rat)(n:Nat):Col:=λk=>sumN (λj=>x j*(l.getD j λ_=>0) k) n
theorem DW {l:List Col}{i:Nat}(c:i<l.length)(x:Nat->Rat)(r:Nat):∀n,n<=l.length->det r (l.set i (Mj l x n))=sumN (λj=>x j*det r (l.set i (l.getD j λ_=>0))) n
|0,_=>by
  have h:=vS (p:=0) (q:=0) (a:=λ_=>0) (b:=λ_=>0) _ r (l.take i) (l.drop (i+1)) rfl;rw[lY c];have e:Mj l x 0=λk=>(0:Rat)*(λ_=>0:Col) k+0*(λ_=>0:Col) k:=by
   funext k;show(0:Rat)=_;grind
  rw[e,h];simp only[sumN];grind
|n+1,h=>by
  have d:=DW c x r n om_;have e:Mj l x (n+1)=λk=>1*Mj l x n k+x n*(l.getD n λ_=>0) k:=by
   funext k;show sumN _ n+_=1*sumN _ n+_;grind
  rw[lY c,e,vS _ r _ _ rfl,<- lY c,<- lY c,d];simp only[sumN];grind
theorem RB {l:List Col}(a:i<l.length)(x:Nat->Rat)(r:Nat):det r (l.set i (Mj l x l.length))=x i*det r l:=by
 rw[DW a x r _ (SH _),sumN_at a];have e:l.set i (l.getD i λ_=>0)=l:=by
  rw[al,aj a];exact List.set_getElem_self a
 rw[e,sumN_zero λj b=>?_]
 .grind
 by_cases h:j=i
 .rw[aL h]
 rw[aF h,PF a b (Ne.symm h)];grind
end Go.Jog.Lp
namespace Go.Jog.Lp
variable {a:Col}{f:Col->Rat}{l l1 l2:List Col}{r:Nat}{ys:List Rat}
def nD:List Rat->List Col->Col
|y::ys,c::l,k=>y*c k+nD ys l k
|_,_,_=>0
theorem DD {y1 y2:List Rat}(h:y1.length=l1.length)(k:Nat):nD (y1++y2) (l1++l2) k=nD y1 l1 k+nD y2 l2 k:=by
 induction l1 generalizing y1 with
|nil =>
  have:y1=[]:=Ty h;subst this;show nD y2 l2 k=0+_;grind
|cons c l1 a =>
  cases y1 with
 |nil=>cases h
 |cons y y1 =>
   have:=a (y1:=y1) (by simpa using h);show y*c k+nD (y1++y2) (l1++l2) k=y*c k+nD y1 l1 k+_;rw[this];grind
theorem Ls (h:ys.length=l.length)(k:Nat):nD ys (l.map λc=>λk=>c k-f c*a k) k=nD ys l k-(nD ys (l.map λc=>λ_=>f c) k)*a k:=by
 induction l generalizing ys with
|nil =>
  have:ys=[]:=Ty h;subst this;show(0:Rat)=0-0*a k;grind
|cons c l b =>
  cases ys with
 |nil=>cases h
 |cons y ys =>
   have:=b (ys:=ys) (by simpa using h);show y*(c k-f c*a k)+nD ys _ k=y*c k+nD ys l k-(y*f c+nD ys _ k)*a k;rw[this];grind
theorem Fc (k a:Nat):nD ys (l.map λc=>λ_=>f c) k=nD ys (l.map λc=>λ_=>f c) a:=by
 induction l generalizing ys with
|nil=>cases ys <;> rfl
|cons c l b =>
  cases ys with
 |nil=>rfl
 |cons y ys =>
   show y*f c+nD ys _ k=y*f c+nD ys _ a;rw[b]
theorem rt {k:Nat}(h:∀c∈l,c k=0):nD ys l k=0:=by
 induction l generalizing ys with
|nil=>cases ys <;> rfl
|cons c l a =>
  cases ys with
 |nil=>rfl
 |cons y ys =>
   show y*c k+nD ys l k=0;rw[h c SK,a λd hd=>h d (SX _ hd)];grind
def P5 (r m:Nat)(l:List Col):Prop:=∃ys:List Rat,ys.length=l.length/\(∃y∈ys,y≠0)/\∀k,r<=k->k<r+m->nD ys l k=0
theorem CW {m:Nat}(q:a r≠0)(h:P5 (r+1) m ((l1++l2).map λc=>λk=>c k-c r / a r*a k)):P5 r (m+1) (l1++a::l2):=by
 let⟨ys,g,⟨y,hy,i⟩,j⟩:=h;rw[ar,SP]at g;have b:ys=ys.take l1.length++ys.drop l1.length:=(TE _ _).symm;have e:(ys.take l1.length).length=l1.length:=by rw[S2];omega
 have s:(ys.drop l1.length).length=l2.length:=by rw[UI];omega
 have l:ys.length=(l1++l2).length:=by rw[SP];omega
 let⟨t,ht⟩:∃t:Rat,∀k,nD ys ((l1++l2).map λc=>λ_=>c r / a r) k=t:=⟨_,λk=>Fc (f:=λc=>c r / a r) k 0⟩;have n:∀k,nD ys ((l1++l2).map λc=>λk=>c k-c r / a r*a k) k=nD ys (l1++l2) k-t*a k:=λk=>by
  rw[Ls (f:=λc=>c r / a r) l k,ht]
 have o:∀k,nD (ys.take l1.length++-t::ys.drop l1.length) (l1++a::l2) k=nD ys (l1++l2) k-t*a k:=λk=>by
  rw[DD e];show _+(-t*a k+nD (ys.drop l1.length) l2 k)=_;have:=DD (y2:=ys.drop l1.length) (l2:=l2) e k;rw[<- b]at this;rw[this];grind
 refine⟨ys.take l1.length++-t::ys.drop l1.length,by simp;omega,⟨y, ?_,i⟩,λk h1 h2=>?_⟩
 .rw[b]at hy;rcases SZ.1 hy with h|h
  .exact Uy _ h
  exact UE _ (SX _ h)
 rw[o k,<- n k];rcases Th r k with h3|h3
 .exact j k om_ om_
 have:k=r:=by omega
 subst this;refine rt λc p=>?_;obtain⟨d,_,rfl⟩:=SL.1 p;show d k-d k / a k*a k=0;grind
theorem CG {p:Col->Prop}(h:∃c∈l,p c):∃l1 a l2,l=l1++a::l2/\p a:=by
 let⟨c,b,hp⟩:=h;let⟨l1,l2,e⟩:=List.append_of_mem b;exact⟨l1,c,l2,e,hp⟩
theorem uS:∀(m r:Nat)(l:List Col),m<l.length->P5 r m l
|0,r,l,h=>⟨List.replicate l.length 1,Tf,⟨1,by rw[List.mem_replicate];exact⟨by omega,rfl⟩,by decide⟩,λk h1 h2=>by omega⟩
|m+1,r,l,h=>by
  by_cases b:∃c∈l,c r≠0
  .let⟨l1,a,l2,e,d⟩:=CG b;subst e;exact CW d (uS m (r+1) _ (by simp at h⊢;omega))
  let⟨ys,h1,h2,h3⟩:=uS m (r+1) l om_;refine⟨ys,h1,h2,λk h4 h5=>?_⟩;rcases Th r k with f|f
  .exact h3 k om_ om_
  have:k=r:=by omega
  subst this;exact rt λc g=>Ti λi=>b ⟨c,g,i⟩
theorem Jd {t:Rat}{c:Col}{m1 m2:List Col}(h:a∈m1∨a∈m2):det r (m1++(λk=>c k-t*a k)::m2)=det r (m1++c::m2):=by
 have e:(λk=>c k-t*a k)=λk=>1*c k + -t*a k:=by funext k;grind
 have h0:det r (m1++a::m2)=0:=by
  rcases h with h|h
  .let⟨b,d,e⟩:=List.append_of_mem h;rw[e,Tn];exact mW d r b m2
  let⟨b,d,e⟩:=List.append_of_mem h;rw[e];exact mW b r m1 d
 rw[e,vS _ r m1 m2 rfl,h0];grind
theorem ud {r:Nat}{f:Col->Rat}{a:Col}{q:List Col}:∀(l p:List Col),a∈q->det r (p++(l++q))=det r (p++(l.map (λc=>λk=>c k-f c*a k)++q))
|[],p,h=>rfl
|c::l,p,h=>by
  have h1:=ud (r:=r) (f:=f) l (p++[c]) h;rw[Tn,Tn]at h1;have h2:=Jd (r:=r) (t:=f c) (c:=c) (a:=a) (m1:=p) (m2:=l.map (λc=>λk=>c k-f c*a k)++q) (.inr (UE _ h));show det r (p++c::(l++q))=det r (p++(λk=>c k-f c*a k)::(l.map (λc=>λk=>c k-f c*a k)++q));rw[h2];exact h1
theorem uc {r:Nat}{f:Col->Rat}{a:Col}:∀(l p:List Col),a∈p->det r (p++l)=det r (p++l.map (λc=>λk=>c k-f c*a k))
|[],p,h=>rfl
|c::l,p,h=>by
  have h1:=uc (r:=r) (f:=f) l (p++[c]) (Uy _ h);rw[Tn,Tn]at h1;have h2:=Jd (r:=r) (t:=f c) (c:=c) (a:=a) (m1:=p) (m2:=l.map (λc=>λk=>c k-f c*a k)) (.inl h);show det r (p++c::l)=det r (p++(λk=>c k-f c*a k)::l.map (λc=>λk=>c k-f c*a k));rw[h2];exact h1
theorem Je (t:a r≠0):det r (l1++a::l2)=(-1) ^ l1.length*(a r*det (r+1) ((l1++l2).map λc=>λk=>c k-c r / a r*a k)):=by
 have h1:=ud (r:=r) (f:=λc=>c r / a r) (a:=a) (q:=a::l2) l1 [] SK;have h2:=uc (r:=r) (f:=λc=>c r / a r) (a:=a) l2 (l1.map (λc=>λk=>c k-c r / a r*a k)++[a]) (UE _ SK);rw[Tn,Tn]at h2;rw[UM,UM]at h1;rw[h1];show det r (_++([a]++l2))=_;rw[h2];show det r (l1.map (λc=>λk=>c k-c r / a r*a k)++a::l2.map (λc=>λk=>c k-c r / a r*a k))=_;have i:(l1.map (λc=>λk=>c k-c r / a r*a k)).length=l1.length:=ar _;generalize l:l1.map (λc=>λk=>c k-c r / a r*a k)=b at i;generalize m:l2.map (λc=>λk=>c k-c r / a r*a k)=h;have o:∀c,c∈b∨c∈h->c r=0:=λc g=>by
  rcases g with g|g
  .rw[<- l]at g;obtain⟨d,_,rfl⟩:=SL.1 g;show d r-d r / a r*a r=0;grind
  rw[<- m]at g;obtain⟨d,_,rfl⟩:=SL.1 g;show d r-d r / a r*a r=0;grind
 rw[iP (n:=b.length+h.length) ap,sumN_at (a:=b.length) om_,ku,ig,i,Tm,l,m,sumN_zero λj u=>?_]
 .grind
 by_cases e:j=l1.length
 .rw[aL e]
 rw[aF e];have h0:(b++a::h).getD j (λ_=>0) r=0:=by
  rw[al];rcases Th j b.length with h3|h3
  .rw[Tz h3,aj h3];exact o _ (.inl (TC _))
  rw[Tj h3];let⟨k,p⟩:∃k,j-b.length=k+1:=⟨j-b.length-1,by omega⟩;rw[p,Uw];cases s:h[k]? with
 |none=>rfl
 |some c=>exact o c (.inr (aK s))
 rw[h0];grind
theorem tr:∀(n r:Nat)(l:List Col),l.length=n->det r l=0->P5 r n l
|0,r,l,b,h=>by
  have:l=[]:=Ty b;subst this;exact absurd (show(1:Rat)=0 from h) dc_
|n+1,r,l,b,h=>by
  by_cases f:∃c∈l,c r≠0
  .let⟨l1,a,l2,e,d⟩:=CG f;subst e;rw[Je d]at h;have h1:det (r+1) ((l1++l2).map λc=>λk=>c k-c r / a r*a k)=0:=by
    rcases Rat.mul_eq_zero.1 h with h2|h2
    .have hp:∀i:Nat,(-1:Rat) ^ i≠0:=λi=>by
      induction i with
     |zero=>decide
     |succ i o=>rw[jv];grind
     exact absurd h2 (hp _)
    rcases Rat.mul_eq_zero.1 h2 with h3|h3
    .exact absurd h3 d
    exact h3
   exact CW d (tr n (r+1) _ (by simp at b⊢;omega) h1)
  let⟨ys,h1,h2,h3⟩:=uS n (r+1) l om_;refine⟨ys,h1,h2,λk h4 h5=>?_⟩;rcases Th r k with g|g
  .exact h3 k om_ om_
  have:k=r:=by omega
  subst this;exact rt λc j=>Ti λm=>f ⟨c,j,m⟩
def fctM (M:Nat):Nat->Nat
|0=>1
|n+1=>(n+1)*(M*fctM M n)
theorem Bg {M:Nat}:∀(n r:Nat)(l:List Col),l.length=n->(∀c∈l,∀k,r<=k->k<r+n->∃z:Int,c k=z/\z.natAbs<=M)->∃z:Int,det r l=z/\z.natAbs<=fctM M n
|0,r,l,b,_=>by
  have:l=[]:=Ty b;subst this;exact⟨1,U,SH 1⟩
|n+1,r,l,b,h=>by
  rw[iP b];have t:∀m,m<=n+1->∃z:Int,sumN (λi=>(-1) ^ i*((l.getD i λ_=>0) r*det (r+1) (l.eraseIdx i))) m=z/\z.natAbs<=m*(M*fctM M n):=by
   intro m;induction m with
  |zero=>intro _;exact⟨0,rfl,by simp⟩
  |succ m a =>
    intro hm;let⟨z,e,d⟩:=a om_;have f:m<l.length:=by omega
    have g:l.getD m (λ_=>0)∈l:=by rw[al,aj f];exact TC _
    let⟨u,j,o⟩:=h _ g r (SH _) om_;let⟨w,p,q⟩:=Bg (M:=M) n (r+1) (l.eraseIdx m) (by rw[List.length_eraseIdx,aL f];omega) (λc v k h1 h2=>h c (List.mem_of_mem_eraseIdx v) k om_ om_);have hs:∃s:Int,((-1:Rat) ^ m=s)/\s.natAbs=1:=by
     clear a e d hm f g j o p q;induction m with
    |zero=>exact⟨1,rfl,rfl⟩
    |succ m a =>
      let⟨s,h1,h2⟩:=a;exact⟨-s,by rw[jv,h1,Rat.intCast_neg],by omega⟩
    let⟨s,es,hs⟩:=hs;refine⟨z+s*(u*w), ?_, ?_⟩
    .simp only[sumN];rw[e,j,p,es,VS,TF,TF]
    have h1:=Vh z (s*(u*w));have h2:(s*(u*w)).natAbs=u.natAbs*w.natAbs:=by rw[T8,T8,hs,UU]
    have h3:u.natAbs*w.natAbs<=M*fctM M n:=T2 o q;rw[Nat.succ_mul];omega
  let⟨z,e,d⟩:=t (n+1) (SH _);exact⟨z,e,d⟩
end Go.Jog.Lp
namespace Go.Jog.Lp
theorem qm (h:Nat->Rat):∀n,sumN h (n+1)=h 0+sumN (λp=>h (p+1)) n
|0=>by simp only[sumN];grind
|n+1=>by
  have a:=qm h n;have e:sumN h (n+1+1)=sumN h (n+1)+h (n+1):=rfl;rw[e,a];simp only[sumN];grind
theorem zV {g:Nat->Rat}{n:Nat}:∀{l:List Nat},l.Nodup->(∀v∈l,v<n)->sumN (λj=>if j∈l then g j else 0) n=sumN (λp=>g (l.getD p 0)) l.length
|[],_,_=>sumN_zero λj _=>aF TQ
|v::l,c,a=>by
  have b:=Wf.1 c;rw[S5,qm,sumN_at (a v SK),aL SK];have d:=zV (g:=g) (n:=n) b.2 λu e=>a u (SX _ e);show g v+_=g v+sumN (λp=>g (l.getD p 0)) l.length;rw[<- d];congr 1;refine sumN_congr λj _=>?_;by_cases h1:j=v
  .subst h1;rw[aL rfl,aF b.1]
  rw[aF h1];by_cases h2:j∈l
  .rw[aL (SX _ h2),aL h2]
  rw[aF h2,aF (λh=>(SY.1 h).elim h1 h2)]
theorem DC:∀{ys:List Rat}{l:List Col}(k:Nat),ys.length=l.length->nD ys l k=sumN (λj=>ys.getD j 0*(l.getD j λ_=>0) k) l.length
|[],[],k,_=>rfl
|y::ys,c::l,k,h=>by
  have a:=DC (ys:=ys) (l:=l) k (by simpa using h);rw[S5,qm];show y*c k+nD ys l k=y*c k+sumN (λp=>ys.getD p 0*(l.getD p λ_=>0) k) l.length;rw[a]
|[],_::_,_,h=>by cases h
|_::_,[],_,h=>by cases h
structure Sys where
 n:Nat
 m:Nat
 a:Nat->Nat->Rat
 b:Nat->Rat
def Sys.Sol (p:Sys)(x:Nat->Rat):Prop:=∀r,r<p.m->x (p.n+r)=p.b r-sumN (λj=>p.a r j*x j) p.n
structure Sys.Wh (p:Sys)(D:Nat->Int)(M:Nat):Prop where
 d:∀r,r<p.m->D r≠0/\(D r).natAbs<=M
 a:∀r j,r<p.m->j<p.n->∃z:Int,D r*p.a r j=z/\z.natAbs<=M
 b:∀r,r<p.m->∃z:Int,D r*p.b r=z/\z.natAbs<=M
structure TabOf (p:Sys)(t:Tab):Prop where
 ok:t.Ok (p.n+p.m)
 lb:t.basic.length=p.m
 lo:t.others.length=p.n
 sol:∀x,t.Sol x ↔ p.Sol x
def Quo (K:Nat)(q:Rat):Prop:=∃z w:Int,w≠0/\q*w=z/\z.natAbs<=K/\w.natAbs<=K
section
variable {p:Sys} {t:Tab}
theorem TabOf.all (h:TabOf p t){v:Nat}(c:v<p.n+p.m):v∈t.basic∨v∈t.others:=by
 apply Ti;intro b;have d:(v::(t.basic++t.others)).Nodup:=Wf.2 ⟨λhm=>by rcases SZ.1 hm with h1|h1;exact b (.inl h1);exact b (.inr h1),h.ok.nd⟩;have:=List.Nodup.length_le_of_subset (l₂:=List.range (p.n+p.m)) d (λu a=>by
  rcases SY.1 a with rfl|a
  .exact S7.2 c
  exact S7.2 (h.ok.lt u a))
 simp only[S5,SP,TO,h.lb,h.lo]at this;omega
def FB (p:Sys)(t:Tab):List Nat:=t.basic.filter λv=>decide (v<p.n)
def SO (p:Sys)(t:Tab):List Nat:=t.others.filter λv=>decide (p.n<=v)
theorem tW {q:Nat->Bool}:∀l:List Nat,(l.filter q).length+(l.filter λv=>!q v).length=l.length
|[]=>rfl
|x::l=>by
  have:=tW (q:=q) l;cases h:q x <;> simp[h] <;> omega
theorem TabOf.len (h:TabOf p t):(FB p t).length=(SO p t).length:=by
 have hp:(t.basic++t.others).Perm (List.range (p.n+p.m)):=by
  refine(List.perm_ext_iff_of_nodup h.ok.nd List.nodup_range).2 λv=>?_;rw[S7,SZ];exact⟨λa=>h.ok.lt v (SZ.2 a),h.all⟩
 have h1:=(hp.filter λv=>decide (v<p.n)).length_eq;rw[Uc,SP]at h1;have h2:((List.range (p.n+p.m)).filter λv=>decide (v<p.n)).length=p.n:=by
  have e:∀k,((List.range (p.n+k)).filter λv=>decide (v<p.n))=List.range p.n:=λk=>by
   induction k with
  |zero=>exact List.filter_eq_self.2 λv a=>by rw[S7]at a;exact S4 a
  |succ k b=>rw[<- UQ,T1,Uc,b,List.filter_cons,aF am];simp
  rw[e,TO]
 have h3:=tW (q:=λv=>decide (v<p.n)) t.others;have h4:(t.others.filter λv=>!decide (v<p.n))=SO p t:=by
  unfold SO;congr 1;funext v;by_cases a:v<p.n
  .rw[S4 a,Te om_];rfl
  rw[Te a,S4 om_];rfl
 rw[h4,h.lo]at h3;unfold FB;omega
theorem mS {v:Nat}:v∈FB p t ↔ v∈t.basic/\v<p.n:=by unfold FB;rw[Uf,SS]
theorem MU {v:Nat}:v∈SO p t ↔ v∈t.others/\p.n<=v:=by unfold SO;rw[Uf,SS]
theorem LV (h:TabOf p t):(FB p t).Nodup:=h.ok.nb.filter _
def iU (p:Sys)(t:Tab)(D:Nat->Int):List Col:=(FB p t).map λv=>λk=>(D ((SO p t).getD k 0-p.n):Rat)*p.a ((SO p t).getD k 0-p.n) v
theorem vZ {D:Nat->Int}{i:Nat}(b:i<(FB p t).length)(k:Nat):((iU p t D).getD i λ_=>0) k=(D ((SO p t).getD k 0-p.n):Rat)*p.a ((SO p t).getD k 0-p.n) ((FB p t).getD i 0):=by
 unfold iU;have e:(FB p t)[i]?=some ((FB p t).getD i 0):=by rw[al,aj b];rfl
 rw[al,SI,e];rfl
theorem QH (h:TabOf p t){k:Nat}(a:k<(FB p t).length):(SO p t).getD k 0∈t.others/\p.n<=(SO p t).getD k 0/\(SO p t).getD k 0-p.n<p.m:=by
 have h1:=iK (l:=SO p t) (i:=k) (by rw[<- h.len];exact a);let⟨h2,h3⟩:=MU.1 h1;have h4:=h.ok.lt _ (UE _ h2);exact⟨h2,h3,by omega⟩
theorem Ns (h:TabOf p t)(g:Nat->Rat):sumN (λj=>if j∈FB p t then g j else 0) p.n=sumN (λi=>g ((FB p t).getD i 0)) (FB p t).length:=zV (LV h) λ_ a=>(mS.1 a).2
theorem PG (h:TabOf p t){D:Nat->Int}{M:Nat}(x:p.Wh D M):det 0 (iU p t D)≠0:=by
 intro h0;have f:(iU p t D).length=(FB p t).length:=ar _;let⟨ys,s,⟨y,hy,z⟩,A⟩:=tr _ 0 _ rfl h0
 let w:Nat->Rat:=λv=>if v∈FB p t then ys.getD ((FB p t).idxOf v) 0 else 0
 let u:Nat->Rat:=λv=>if v<p.n then w v else if v<p.n+p.m then -sumN (λj=>p.a (v-p.n) j*w j) p.n else 0
 have g:∀j,j<p.n->u j=w j:=λj b=>aL b;have B:p.Sol λv=>t.sol v+u v:=by
  intro r hr;have h1:=(h.sol _).1 (eY h.ok) r hr;have h2:u (p.n+r)=-sumN (λj=>p.a r j*w j) p.n:=by
   show(if p.n+r<p.n then w (p.n+r) else if p.n+r<p.n+p.m then -sumN (λj=>p.a (p.n+r-p.n) j*w j) p.n else 0)=_;rw[aF om_,aL om_,Ud]
  show t.sol (p.n+r)+u (p.n+r)=_;have h3:sumN (λj=>p.a r j*(t.sol j+u j)) p.n=sumN (λj=>p.a r j*t.sol j) p.n+sumN (λj=>p.a r j*w j) p.n:=by
   rw[<- sumN_add];exact sumN_congr λj b=>by rw[g j b];grind
  rw[h1,h2,h3];grind
 have C:∀v,v ∉ t.basic->t.sol v+u v=0:=by
  intro v l;rw[sol_oth h.ok l];have E:u v=0:=by
   by_cases h1:v<p.n
   .rw[g v h1];exact aF λhm=>l (mS.1 hm).1
   by_cases h2:v<p.n+p.m
   .have F:v∈t.others:=(h.all h2).resolve_left l;let⟨k,G,e⟩:=dA ((MU (p:=p) (t:=t)).2 ⟨F,by omega⟩);rw[<- h.len]at G;have o:=A k (SM _) (by rw[f];omega);rw[DC k s,f]at o;have H:sumN (λj=>ys.getD j 0*((iU p t D).getD j λ_=>0) k) (FB p t).length=(D (v-p.n):Rat)*sumN (λi=>p.a (v-p.n) ((FB p t).getD i 0)*w ((FB p t).getD i 0)) (FB p t).length:=by
     rw[<- sumN_mul];refine sumN_congr λi c=>?_;rw[vZ c,e];have I:w ((FB p t).getD i 0)=ys.getD i 0:=by
      show(if (FB p t).getD i 0∈FB p t then ys.getD ((FB p t).idxOf ((FB p t).getD i 0)) 0 else 0)=_;rw[aL (iK c),df (LV h) c]
     rw[I];grind
    rw[H]at o;have J:(D (v-p.n):Rat)≠0:=by
     have:=(x.d (v-p.n) om_).1;simpa using this
    have hs:sumN (λi=>p.a (v-p.n) ((FB p t).getD i 0)*w ((FB p t).getD i 0)) (FB p t).length=0:=by
     rcases Rat.mul_eq_zero.1 o with h3|h3
     .exact absurd h3 J
     exact h3
    have h4:sumN (λj=>p.a (v-p.n) j*w j) p.n=0:=by
     rw[<- hs,<- Ns h λj=>p.a (v-p.n) j*w j];refine sumN_congr λj _=>?_;by_cases b:j∈FB p t
     .rw[aL b]
     rw[aF b,show w j=0 from aF b];grind
    show(if v<p.n then w v else if v<p.n+p.m then -sumN (λj=>p.a (v-p.n) j*w j) p.n else 0)=0;rw[aF h1,aL h2,h4];grind
   show(if v<p.n then w v else if v<p.n+p.m then -sumN (λj=>p.a (v-p.n) j*w j) p.n else 0)=0;rw[aF h1,aF h2]
  rw[E];grind
 have K:=CI h.ok ((h.sol _).2 B) C;let⟨i,c,e⟩:=List.getElem_of_mem hy;have q:i<(FB p t).length:=by rw[<- f,<- s];exact c
 have h5:=K ((FB p t).getD i 0);have L:u ((FB p t).getD i 0)=y:=by
  rw[g _ (mS.1 (iK q)).2];show(if (FB p t).getD i 0∈FB p t then ys.getD ((FB p t).idxOf ((FB p t).getD i 0)) 0 else 0)=_;rw[aL (iK q),df (LV h) q,al,aj c,e];rfl
 exact z (by rw[<- L];grind)
end
end Go.Jog.Lp
namespace Go.Jog.Lp
theorem Nr {M:Nat}(a:0<M):∀{k n:Nat},k<=n->fctM M k<=fctM M n:=by
 intro k n h;induction h with
|refl=>exact SH _
|@step m _ b =>
  refine SV b ?_;show fctM M m<=(m+1)*(M*fctM M m);have:1*(1*fctM M m)<=(m+1)*(M*fctM M m):=T2 (Nat.le_add_left 1 _) (T2 a (SH _));rw[UU,UU]at this;exact this
theorem sumN_int {g:Nat->Rat}{B:Nat}:∀{n:Nat},(∀j,j<n->∃z:Int,g j=z/\z.natAbs<=B)->∃z:Int,sumN g n=z/\z.natAbs<=n*B
|0,_=>⟨0,rfl,by simp⟩
|n+1,h=>by
  let⟨z,e,b⟩:=sumN_int (g:=g) (n:=n) λj c=>h j om_;let⟨w,a,d⟩:=h n om_;refine⟨z+w,by rw[sumN,e,a,VS], ?_⟩;have:=Vh z w;rw[Nat.succ_mul];omega
section
variable {p:Sys} {t:Tab} {D:Nat->Int} {M:Nat}
def bdT (p:Sys)(M:Nat):Nat:=fctM (2*M) p.n
theorem Rt (h:TabOf p t):(FB p t).length<=p.n:=by
 have:=List.Nodup.length_le_of_subset (l₂:=List.range p.n) (LV h) λv a=>S7.2 (mS.1 a).2
 rwa [TO]at this
theorem D4 (h:TabOf p t)(c:p.Wh D M){i k:Nat}(b:i<(FB p t).length)(d:k<(FB p t).length):∃z:Int,((iU p t D).getD i λ_=>0) k=z/\z.natAbs<=2*M:=by
 rw[vZ b];let⟨z,e,f⟩:=c.a _ _ (QH h d).2.2 (mS.1 (iK b)).2;exact⟨z,e,by omega⟩
theorem vT (h:TabOf p t)(f:p.Wh D M)(j:0<M):∃d:Int,det 0 (iU p t D)=d/\d≠0/\d.natAbs<=bdT p M:=by
 have a:(iU p t D).length=(FB p t).length:=ar _;let⟨d,e,hd⟩:=Bg (M:=2*M) (FB p t).length 0 (iU p t D) a λc g k _ l=>by
  let⟨i,b,e⟩:=List.getElem_of_mem g;rw[a]at b;have:=D4 h f b (show k<(FB p t).length by omega);rw[al,aj (by rw[a];exact b),e]at this;exact this
 refine⟨d,e, ?_,SV hd (Nr om_ (Rt h))⟩;rintro rfl;exact PG h f (by rw[e];rfl)
theorem Hn (h:TabOf p t)(s:p.Wh D M)(N:0<M){x g:Nat->Rat}(B:∀r,r<p.m->x (p.n+r)=g r-sumN (λj=>p.a r j*if j∈FB p t then x j else 0) p.n)
  (C:∀r,r<p.m->∃z:Int,D r*g r=z/\z.natAbs<=M) (E:∀v,v∈t.others->p.n<=v->∃z:Int,x v=z/\z.natAbs<=1) {i:Nat} (F:i<(FB p t).length) :
  ∃z:Int,x ((FB p t).getD i 0)*det 0 (iU p t D)=z/\z.natAbs<=bdT p M:=by
 have b:(iU p t D).length=(FB p t).length:=ar _;have q:=RB (l:=iU p t D) (i:=i) (by rw[b];exact F) (λj=>x ((FB p t).getD j 0)) 0;rw[<- q];have G:∀k,k<(FB p t).length->∃z:Int,Mj (iU p t D) (λj=>x ((FB p t).getD j 0)) (iU p t D).length k=z/\z.natAbs<=2*M:=by
  intro k u;let⟨H,I,o⟩:=QH h u;let⟨r,hr⟩:∃r,(SO p t).getD k 0-p.n=r:=⟨_,rfl⟩;rw[hr]at o;have J:(SO p t).getD k 0=p.n+r:=by omega
  have e:Mj (iU p t D) (λj=>x ((FB p t).getD j 0)) (iU p t D).length k=(D r:Rat)*(g r-x (p.n+r)):=by
   have h4:=B r o;have h5:sumN (λj=>p.a r j*if j∈FB p t then x j else 0) p.n=sumN (λj=>if j∈FB p t then p.a r j*x j else 0) p.n:=sumN_congr λj _=>by
    split
    .rfl
    grind
   rw[h5,Ns h]at h4;have K:g r-x (p.n+r)=sumN (λi=>p.a r ((FB p t).getD i 0)*x ((FB p t).getD i 0)) (FB p t).length:=by rw[h4];grind
   rw[K,<- sumN_mul];unfold Mj;rw[b];refine sumN_congr λj f=>?_;rw[vZ f,hr];grind
  let⟨z,ez,y⟩:=C r o;let⟨w,A,L⟩:=E _ H I;rw[J]at A;refine⟨z-D r*w, ?_, ?_⟩
  .rw[e,A,Vc,TF,<- ez];grind
  have h5:=(s.d r o).2;have O:(D r*w).natAbs<=M*1:=by rw[T8];exact T2 h5 L
  omega
 let⟨z,ez,y⟩:=Bg (M:=2*M) (FB p t).length 0 ((iU p t D).set i (Mj (iU p t D) (λj=>x ((FB p t).getD j 0)) (iU p t D).length)) (by rw[TB,b]) λc q k _ u=>by
  rcases T5 q with hm|rfl
  .let⟨j,f,e⟩:=List.getElem_of_mem hm;rw[b]at f;have:=D4 h s f (show k<(FB p t).length by omega);rw[al,aj (by rw[b];exact f),e]at this;exact this
  exact G k om_
 exact⟨z,ez,SV y (Nr om_ (Rt h))⟩
theorem Am (h:TabOf p t)(f:p.Wh D M)(g:0<M){x k:Nat->Rat}(q:∀r,r<p.m->x (p.n+r)=k r-sumN (λj=>p.a r j*if j∈FB p t then x j else 0) p.n)
  (s:∀r,r<p.m->∃z:Int,D r*k r=z/\z.natAbs<=M) (u:∀v,v∈t.others->p.n<=v->∃z:Int,x v=z/\z.natAbs<=1)
  {a0:Nat->Rat} {b0:Rat} {b:Int} {c:Nat} (l:b≠0/\b.natAbs<=c) (w:∀j,j<p.n->∃z:Int,b*a0 j=z/\z.natAbs<=c) (y:∃z:Int,b*b0=z/\z.natAbs<=c) :
  Quo ((p.n+1)*(c*bdT p M)) (b0-sumN (λj=>a0 j*if j∈FB p t then x j else 0) p.n):=by
 let⟨d,A,B,hd⟩:=vT h f g;let⟨o,C,E⟩:=y;have hs:∃z:Int,sumN (λj=>(b*a0 j)*((if j∈FB p t then x j else 0)*d)) p.n=z/\z.natAbs<=p.n*(c*bdT p M):=sumN_int λj F=>by
  let⟨G,H,I⟩:=w j F;by_cases hm:j∈FB p t
  .let⟨i,J,e⟩:=dA hm;let⟨z,ez,K⟩:=Hn h f g q s u J;rw[e,A]at ez;refine⟨G*z, ?_, ?_⟩
   .rw[aL hm,H,ez,TF]
   rw[T8];exact T2 I K
  refine⟨0, ?_,SM _⟩;rw[aF hm];show _=(0:Rat);grind
 let⟨L,es,N⟩:=hs;refine⟨o*d-L,b*d,Int.mul_ne_zero l.1 B, ?_, ?_, ?_⟩
 .rw[Vc,TF,TF,<- es,<- C];have e:sumN (λj=>(b*a0 j)*((if j∈FB p t then x j else 0)*d)) p.n=(b*d:Rat)*sumN (λj=>a0 j*if j∈FB p t then x j else 0) p.n:=by
   rw[<- sumN_mul];exact sumN_congr λj _=>by grind
  rw[e];grind
 .have h4:(o*d).natAbs<=c*bdT p M:=by rw[T8];exact T2 E hd
  rw[Nat.succ_mul];omega
 have h4:(b*d).natAbs<=c*bdT p M:=by rw[T8];exact T2 l.2 hd
 rw[Nat.succ_mul];omega
end
end Go.Jog.Lp
namespace Go.Jog.Lp
section
variable {p:Sys} {t:Tab} {D:Nat->Int} {M:Nat}
theorem TabOf.pivot (h:TabOf p t){r s:Nat}(a:r<t.basic.length)(b:s<t.others.length)(c:(t.line r).g s≠0):TabOf p (t.pivot r s) :=
 ⟨Dk h.ok a b,List.length_set.trans h.lb,List.length_set.trans h.lo,λx=>(yh h.ok a b c).trans (h.sol x)⟩
def ObjOf (p:Sys)(t:Tab)(w0:Rat)(cc:Nat->Rat):Prop:=∀x,p.Sol x->t.W x=w0+sumN (λj=>cc j*x j) p.n
theorem ObjOf.pivot {a:Rat}{b:Nat->Rat}(d:ObjOf p t a b)(h:TabOf p t){r s:Nat}(e:r<t.basic.length)(f:s<t.others.length)(i:(t.line r).g s≠0):ObjOf p (t.pivot r s) a b :=
 λx c=>(HC h.ok e f i ((h.sol x).2 c)).trans (d x c)
def bdQ (p:Sys)(M:Nat):Nat:=(p.n+1)*(M*bdT p M)
theorem JD (a:0<M):bdT p M<=bdQ p M:=by
 have:1*(1*bdT p M)<=(p.n+1)*(M*bdT p M):=T2 (Nat.le_add_left 1 _) (T2 a (SH _))
 rwa [UU,UU]at this
def bdW (p:Sys)(M M0:Nat):Nat:=(p.n+1)*(M0*bdT p M)
theorem Hp (h:TabOf p t)(b:p.Wh D M)(c:0<M){x o:Nat->Rat}(g:∀r,r<p.m->x (p.n+r)=o r-sumN (λj=>p.a r j*if j∈FB p t then x j else 0) p.n)
  (l:∀r,r<p.m->∃z:Int,D r*o r=z/\z.natAbs<=M) (q:∀v,v∈t.others->p.n<=v->∃z:Int,x v=z/\z.natAbs<=1) {i:Nat} (s:i<t.basic.length):Quo (bdQ p M) (x (t.bas i)):=by
 by_cases u:t.bas i<p.n
 .let⟨k,w,e⟩:=dA (mS.2 ⟨bas_mem s,u⟩:t.bas i∈FB p t);let⟨z,ez,y⟩:=Hn h b c g l q w;let⟨d,A,B,hd⟩:=vT h b c;rw[e,A]at ez;exact⟨z,d,B,ez,SV y (JD c),SV hd (JD c)⟩
 have F:=h.ok.lt _ (SZ.2 (.inl (bas_mem s)));let⟨r,hr⟩:∃r,t.bas i-p.n=r:=⟨_,rfl⟩;have C:t.bas i=p.n+r:=by omega
 have f:r<p.m:=by omega
 rw[C,g r f];exact Am h b c g l q (b.d r f) (λj E=>b.a r j f E) (l r f)
theorem GP (h:TabOf p t){j:Nat}(a:j<p.n):t.sol j=if j∈FB p t then t.sol j else 0:=by
 split
 .rfl
 next b=>exact sol_oth h.ok λc=>b (mS.2 ⟨c,a⟩)
theorem zX (h:TabOf p t)(r:Nat)(c:r<p.m):t.sol (p.n+r)=p.b r-sumN (λj=>p.a r j*if j∈FB p t then t.sol j else 0) p.n:=by
 rw[(h.sol _).1 (eY h.ok) r c];congr 1;exact sumN_congr λj d=>by rw[<- GP h d]
theorem GO (h:TabOf p t)(v:Nat)(a:v∈t.others):∃z:Int,t.sol v=z/\z.natAbs<=1:=⟨0,by rw[sol_oth h.ok λb=>h.ok.dj b a];rfl,by decide⟩
theorem PL (h:TabOf p t)(a:p.Wh D M)(e:0<M){i:Nat}(d:i<t.basic.length):Quo (bdQ p M) (t.line i).c:=by
 rw[<- sol_bas h.ok d];exact Hp h a e (zX h) a.b (λv f _=>GO h v f) d
def Tab.dir (t:Tab)(s v:Nat):Rat:=t.ext (dI (t.oth s)) v-t.sol v
theorem dir_bas (h:TabOf p t){s i:Nat}(b:s<t.others.length)(a:i<t.basic.length):t.dir s (t.bas i)=(t.line i).g s:=by
 unfold Tab.dir;rw[vM h.ok a,rq h.ok b,sol_bas h.ok a];grind
theorem dir_oth (h:TabOf p t){s v:Nat}(a:v ∉ t.basic):t.dir s v=if v=t.oth s then 1 else 0:=by
 unfold Tab.dir;rw[vL h.ok a,sol_oth h.ok a];unfold dI;split <;> grind
theorem I9 (h:TabOf p t){s:Nat}(d:s<t.others.length)(g:Nat->Rat) :
  sumN (λj=>g j*t.dir s j) p.n=(if t.oth s<p.n then g (t.oth s) else 0)+sumN (λj=>g j*if j∈FB p t then t.dir s j else 0) p.n:=by
 have f:t.oth s ∉ t.basic:=λa=>h.ok.dj a (oth_mem d);have e:∀j,j<p.n->g j*t.dir s j=(if j=t.oth s then g j else 0)+g j*(if j∈FB p t then t.dir s j else 0):=by
  intro j b;by_cases a:j∈FB p t
  .rw[aL a,aF (λe:j=t.oth s=>f (e ▸ (mS.1 a).1))];grind
  rw[aF a,dir_oth h λi=>a (mS.2 ⟨i,b⟩)];split <;> grind
 rw[sumN_congr e,sumN_add];congr 1;split
 .next c =>
  rw[sumN_at c,aL rfl,sumN_zero λj _=>?_]
  .grind
  split <;> rfl
 next c=>exact sumN_zero λj b=>aF λe:j=t.oth s=>c (e ▸ b)
def hhD (p:Sys)(t:Tab)(s r:Nat):Rat:=if t.oth s<p.n then -p.a r (t.oth s) else 0
theorem Ja (h:TabOf p t){s:Nat}(d:s<t.others.length)(r:Nat)(c:r<p.m):t.dir s (p.n+r)=hhD p t s r-sumN (λj=>p.a r j*if j∈FB p t then t.dir s j else 0) p.n:=by
 have h1:=(h.sol _).1 (oa h.ok (dI (t.oth s))) r c;have h2:=(h.sol _).1 (eY h.ok) r c;have h3:=I9 h d (p.a r);have h4:sumN (λj=>p.a r j*t.dir s j) p.n=sumN (λj=>p.a r j*t.ext (dI (t.oth s)) j) p.n-sumN (λj=>p.a r j*t.sol j) p.n:=by
  have h5:=sumN_add (λj=>p.a r j*t.dir s j) (λj=>p.a r j*t.sol j) p.n;rw[show sumN (λj=>p.a r j*t.dir s j+p.a r j*t.sol j) p.n=sumN (λj=>p.a r j*t.ext (dI (t.oth s)) j) p.n from sumN_congr λj _=>by unfold Tab.dir;grind]at h5;grind
 have e:t.dir s (p.n+r)=t.ext (dI (t.oth s)) (p.n+r)-t.sol (p.n+r):=rfl;unfold hhD;rw[e,h1,h2];split at h3
 .next b=>rw[aL b];grind
 next b=>rw[aF b];grind
theorem IF (b:p.Wh D M)(s:Nat)(r:Nat)(c:r<p.m):∃z:Int,D r*hhD p t s r=z/\z.natAbs<=M:=by
 unfold hhD;split
 .next d =>
  let⟨z,e,f⟩:=b.a r _ c d;exact⟨-z,by rw[Rat.intCast_neg,<- e];grind,by omega⟩
 exact⟨0,by show _=(0:Rat);grind,SM _⟩
theorem Nv (h:TabOf p t){s:Nat}(v:Nat)(a:v∈t.others):∃z:Int,t.dir s v=z/\z.natAbs<=1:=by
 rw[dir_oth h λb=>h.ok.dj b a];split
 .exact⟨1,U,by decide⟩
 exact⟨0,U,by decide⟩
theorem Pw (h:TabOf p t)(a:p.Wh D M)(d:0<M){i s:Nat}(b:i<t.basic.length)(c:s<t.others.length):Quo (bdQ p M) ((t.line i).g s):=by
 rw[<- dir_bas h c b];exact Hp h a d (Ja h c) (IF a s) (λv e _=>Nv h v e) b
variable {w0:Rat} {cc:Nat->Rat}
theorem J8 (h:TabOf p t)(g:p.Wh D M)(i:0<M)(k:ObjOf p t w0 cc){a:Int}{d:Nat}(l:a≠0/\a.natAbs<=d)(m:∀j,j<p.n->∃z:Int,a*cc j=z/\z.natAbs<=d)(o:∃z:Int,a*w0=z/\z.natAbs<=d):Quo (bdW p M d) t.worth.c:=by
 rw[<- EJ h.ok,k _ ((h.sol _).1 (eY h.ok))];have:=Am h g i (zX h) g.b (λv q _=>GO h v q) (a0:=λj=>-cc j) (b0:=w0) l (λj f=>by let⟨z,e,r⟩:=m j f;exact⟨-z,by rw[Rat.intCast_neg,<- e];grind,by omega⟩) o;rw[show w0+sumN (λj=>cc j*t.sol j) p.n=w0-sumN (λj=>-cc j*if j∈FB p t then t.sol j else 0) p.n from ?_]
 .exact this
 have e:sumN (λj=>-cc j*if j∈FB p t then t.sol j else 0) p.n=-1*sumN (λj=>cc j*t.sol j) p.n:=by
  rw[<- sumN_mul];exact sumN_congr λj f=>by rw[<- GP h f];grind
 rw[e];grind
theorem J5 (h:TabOf p t)(f:p.Wh D M)(m:0<M)(i:ObjOf p t w0 cc){a:Int}{b:Nat}(o:a≠0/\a.natAbs<=b)(k:∀j,j<p.n->∃z:Int,a*cc j=z/\z.natAbs<=b){s:Nat}(d:s<t.others.length):Quo (bdW p M b) (t.worth.g s):=by
 have h1:=i _ ((h.sol _).1 (oa h.ok (dI (t.oth s))));have h2:=i _ ((h.sol _).1 (eY h.ok));rw[EJ h.ok]at h2;have h3:t.W (t.ext (dI (t.oth s)))=t.worth.c+t.worth.g s:=by
  unfold Tab.W;rw[yw h.ok,rq h.ok d]
 have h4:sumN (λj=>cc j*t.dir s j) p.n=sumN (λj=>cc j*t.ext (dI (t.oth s)) j) p.n-sumN (λj=>cc j*t.sol j) p.n:=by
  have h5:=sumN_add (λj=>cc j*t.dir s j) (λj=>cc j*t.sol j) p.n;rw[show sumN (λj=>cc j*t.dir s j+cc j*t.sol j) p.n=sumN (λj=>cc j*t.ext (dI (t.oth s)) j) p.n from sumN_congr λj _=>by unfold Tab.dir;grind]at h5;grind
 have h5:t.worth.g s=(if t.oth s<p.n then cc (t.oth s) else 0)-sumN (λj=>-cc j*if j∈FB p t then t.dir s j else 0) p.n:=by
  have e:sumN (λj=>-cc j*if j∈FB p t then t.dir s j else 0) p.n=-1*sumN (λj=>cc j*if j∈FB p t then t.dir s j else 0) p.n:=by
   rw[<- sumN_mul];exact sumN_congr λj l=>by grind
  have u:=I9 h d cc;rw[e];grind
 rw[h5];exact Am h f m (Ja h d) (IF f s) (λv q _=>Nv h v q) o (λj l=>by let⟨z,e,w⟩:=k j l;exact⟨-z,by rw[Rat.intCast_neg,<- e];grind,by omega⟩) (by
  split
  .next r=>exact k _ r
  exact⟨0,by show _=(0:Rat);grind,SM _⟩)
end
end Go.Jog.Lp
namespace Go.Jog.Lp
theorem sumN_split (g:Nat->Rat)(n:Nat):∀m,sumN g (n+m)=sumN g n+sumN (λr=>g (n+r)) m
|0=>by show sumN g n=sumN g n+0;grind
|m+1=>by
  show sumN g (n+m+1)=_;rw[sumN,sumN,sumN_split g n m];grind
theorem qi {g:Nat->Rat}{k n:Nat}(a:k<n):sumN (λj=>g j*dI k j) n=g k:=by
 rw[sumN_at a,sumN_zero λj _=>?_]
 .unfold dI;rw[aL rfl];grind
 unfold dI;split
 .rfl
 grind
section
variable {p:Sys} {t:Tab}
def Sys.full (p:Sys)(y:Nat->Rat)(v:Nat):Rat:=if v<p.n then y v else p.b (v-p.n)-sumN (λj=>p.a (v-p.n) j*y j) p.n
theorem yI {y:Nat->Rat}{v:Nat}(h:v<p.n):p.full y v=y v:=aL h
theorem tR {y:Nat->Rat}(r:Nat):p.full y (p.n+r)=p.b r-sumN (λj=>p.a r j*y j) p.n:=by
 unfold Sys.full;rw[aF om_,Ud]
theorem LM (y:Nat->Rat):p.Sol (p.full y):=by
 intro r hr;rw[tR];congr 1;exact sumN_congr λj a=>by rw[yI a]
def dualV (p:Sys)(t:Tab)(l:Line)(r:Nat):Rat:=if p.n+r∈t.others then l.g (t.others.idxOf (p.n+r)) else 0
theorem dualV_at (h:TabOf p t){l:Line}{s:Nat}(a:s<t.others.length)(b:p.n<=t.oth s):dualV p t l (t.oth s-p.n)=l.g s:=by
 unfold dualV;rw[show p.n+(t.oth s-p.n)=t.oth s by omega,aL (oth_mem a)];congr 1;exact df h.ok.no a
theorem dualV_none {l:Line}{r:Nat}(h:p.n+r ∉ t.others):dualV p t l r=0:=aF h
theorem iO (h:TabOf p t)(l:Line)(r:Nat):dualV p t l r=0∨∃s,s<t.others.length/\t.oth s=p.n+r/\dualV p t l r=l.g s:=by
 by_cases hm:p.n+r∈t.others
 .let⟨s,hs,e⟩:=dA hm;have a:t.oth s=p.n+r:=e;refine .inr ⟨s,hs,a, ?_⟩;have:=dualV_at h (l:=l) hs om_
  rwa [a,Ud]at this
 exact .inl (dualV_none hm)
theorem Ib (h:TabOf p t){l:Line}(b:∀s,s<t.others.length->t.oth s<p.n->l.g s=0)(x:Nat->Rat):lv l t.others x=l.c+sumN (λr=>dualV p t l r*x (p.n+r)) p.m:=by
 have h1:=zV (g:=λv=>l.g (t.others.idxOf v)*x v) (n:=p.n+p.m) h.ok.no λv a=>h.ok.lt v (SZ.2 (.inr a));have h2:sumN (λj=>l.g j*x (t.others.getD j 0)) t.others.length=sumN (λq=>(λv=>l.g (t.others.idxOf v)*x v) (t.others.getD q 0)) t.others.length:=sumN_congr λj d=>by
  show _=l.g (t.others.idxOf (t.others.getD j 0))*_;rw[df h.ok.no d]
 unfold lv;rw[h2,<- h1,sumN_split,sumN_zero λv a=>?_]
 .congr 1;rw[show(0:Rat)+sumN (λr=>if p.n+r∈t.others then l.g (t.others.idxOf (p.n+r))*x (p.n+r) else 0) p.m=sumN (λr=>if p.n+r∈t.others then l.g (t.others.idxOf (p.n+r))*x (p.n+r) else 0) p.m from by grind];refine sumN_congr λr _=>?_;unfold dualV;split <;> grind
 split
 .next hm =>
  let⟨s,hs,e⟩:=dA hm;have f:t.oth s=v:=e;rw[<- e,df h.ok.no hs,b s hs om_];grind
 rfl
theorem cert {y:Nat->Rat}{q0 e0:Rat}{ee:Nat->Rat}(h:∀x,p.Sol x->q0+sumN (λr=>y r*x (p.n+r)) p.m=e0+sumN (λj=>ee j*x j) p.n) :
  q0+sumN (λr=>y r*p.b r) p.m=e0/\∀j,j<p.n->sumN (λr=>y r*p.a r j) p.m=-ee j:=by
 have d:∀u:Nat->Rat,q0+sumN (λr=>y r*(p.b r-sumN (λj=>p.a r j*u j) p.n)) p.m=e0+sumN (λj=>ee j*u j) p.n:=by
  intro u;have:=h _ (LM (p:=p) u);rw[sumN_congr (g:=λr=>y r*p.full u (p.n+r)) (h:=λr=>y r*(p.b r-sumN (λj=>p.a r j*u j) p.n)) λr _=>by rw[tR],sumN_congr (g:=λj=>ee j*p.full u j) (h:=λj=>ee j*u j) λj c=>by rw[yI c]]at this;exact this
 have h0:q0+sumN (λr=>y r*p.b r) p.m=e0:=by
  have:=d λ_=>0;rw[sumN_zero (g:=λj=>ee j*(0:Rat)) λj _=>by grind,sumN_congr (h:=λr=>y r*p.b r) λr _=>by rw[sumN_zero λj _=>by grind];grind]at this;grind
 refine⟨h0,λj c=>?_⟩;have h1:=d (dI j);rw[qi c,sumN_congr (h:=λr=>y r*p.b r + -1*(y r*p.a r j)) λr _=>by rw[qi c];grind,sumN_add,sumN_mul]at h1;grind
def Rel (F:Nat)(t:Tab)(k:Nat):Prop:=∀s,s<k->s<t.others.length->t.oth s<F->∀i,i<t.basic.length->F<=t.bas i->(t.line i).g s=0
theorem rel_pivot {F N k r s:Nat}(h:t.Ok N)(n:Rel F t k)(d:r<t.basic.length)(q:s<t.others.length)(u:F<=t.bas r):Rel F (t.pivot r s) k:=by
 intro b o j a i c l;have v:(t.pivot r s).basic.length=t.basic.length:=TB;have w:(t.pivot r s).others.length=t.others.length:=TB;rw[w]at j;rw[v]at c;rw[qT q]at a;rw[yi d]at l;have m:b≠s:=by
  intro e;rw[aL e]at a;omega
 rw[aF m]at a;have x:=n b o j a r d u;have z:(t.line r).f.length=t.others.length:=h.fl _ (line_mem h d);have A:(t.line i).f.length=t.others.length:=h.fl _ (line_mem h c);have p:(byL (t.line r) s).g b=0:=by
  rw[byL_g om_,aF m,x];grind
 rw[pivot_line (by rw[h.ll];exact c)];split
 .exact p
 next y =>
 rw[aF y]at l;rw[Hu om_,aF m,n b o j a i c l,p];grind
theorem rel_next {F N r s:Nat}(h:t.Ok N)(d:Rel F t s)(f:r<t.basic.length)(a:s<t.others.length)(g:F<=t.bas r):Rel F (t.pivot r s) (s+1):=by
 intro b m j c i k l;by_cases e:b=s
 .rw[e,qT a,aL rfl]at c;omega
 exact rel_pivot h d f a g b om_ j c i k l
theorem rel_none {F s:Nat}(d:Rel F t s)(f:∀i,i<t.basic.length->F<=t.bas i->(t.line i).g s=0):Rel F t (s+1):=by
 intro a k h j i b c;by_cases e:a=s
 .rw[e];exact f i b c
 exact d a om_ h j i b c
theorem Ko (h:TabOf p t)(r:Nat)(c:r<p.m):t.sol (p.n+r)=p.b r-sumN (λj=>p.a r j*t.sol j) p.n:=(h.sol _).1 (eY h.ok) r c
theorem tY (h:TabOf p t)(f:t.Feas p.n)(r:Nat)(g:r<p.m):sumN (λj=>p.a r j*t.sol j) p.n<=p.b r:=by
 have h1:=Ko h r g;have h2:0<=t.sol (p.n+r):=by
  by_cases c:p.n+r∈t.basic
  .let⟨i,d,e⟩:=dA c;have k:t.bas i=p.n+r:=e;rw[<- k,sol_bas h.ok d];exact f i d om_
  rw[sol_oth h.ok c];exact Rat.le_refl
 grind
def refV (p:Sys)(t:Tab)(i r:Nat):Rat:=if r=t.bas i-p.n then 1 else -dualV p t (t.line i) r
theorem Q0 (h:TabOf p t)(k:Rel p.n t p.n){i:Nat}(d:i<t.basic.length)(l:p.n<=t.bas i)(o:∀s,s<t.others.length->p.n<=t.oth s->(t.line i).g s<=0) :
  (∀r,0<=refV p t i r)/\sumN (λr=>refV p t i r*p.b r) p.m=(t.line i).c/\∀j,j<p.n->sumN (λr=>refV p t i r*p.a r j) p.m=0:=by
 have B:=h.ok.lt _ (SZ.2 (.inl (bas_mem d)));have q:∀s,s<t.others.length->t.oth s<p.n->(t.line i).g s=0:=λs hs f=>k s (by rw[<- h.lo];exact hs) hs f i d l;have u:dualV p t (t.line i) (t.bas i-p.n)=0:=dualV_none (by rw[show p.n+(t.bas i-p.n)=t.bas i by omega];exact λf=>h.ok.dj (bas_mem d) f);have v:∀r,dualV p t (t.line i) r<=0:=λr=>by
  rcases iO h (t.line i) r with e|⟨s,hs,C,w⟩
  .rw[e];exact Rat.le_refl
  rw[w];exact o s hs om_
 have y:∀x,p.Sol x->-(t.line i).c+sumN (λr=>refV p t i r*x (p.n+r)) p.m=0+sumN (λj=>(0:Rat)*x j) p.n:=by
  intro x z;have h1:=(h.sol x).2 z i d;rw[Ib h q]at h1;have h2:∀r,r<p.m->refV p t i r*x (p.n+r)=x (p.n+r)*dI (t.bas i-p.n) r + -1*(dualV p t (t.line i) r*x (p.n+r)):=by
   intro r _;unfold refV dI;split
   .next e=>rw[e,u];grind
   grind
  rw[sumN_congr h2,sumN_add,sumN_mul,qi (g:=λr=>x (p.n+r)) (show t.bas i-p.n<p.m by omega),sumN_zero (g:=λj=>(0:Rat)*x j) λj _=>by grind];rw[show p.n+(t.bas i-p.n)=t.bas i by omega,h1];grind
 let⟨D,c2⟩:=cert y;refine⟨λr=>?_,by grind,λj A=>by rw[c2 j A];decide⟩;unfold refV;split
 .decide
 have:=v r;grind
theorem LZ (h:TabOf p t){d:Rat}{f:Nat->Rat}(i:ObjOf p t d f)(k:∀s,s<t.others.length->t.oth s<p.n->t.worth.g s=0)(l:∀s,s<t.others.length->p.n<=t.oth s->0<=t.worth.g s) :
  (∀r,0<=dualV p t t.worth r)/\t.worth.c+sumN (λr=>dualV p t t.worth r*p.b r) p.m=d/\(∀j,j<p.n->sumN (λr=>dualV p t t.worth r*p.a r j) p.m=-f j)/\d+sumN (λj=>f j*t.sol j) p.n=t.worth.c:=by
 let⟨o,c2⟩:=cert (p:=p) (y:=dualV p t t.worth) (q0:=t.worth.c) (e0:=d) (ee:=f) λx q=>by rw[<- i x q,<- Ib h k];rfl
 refine⟨λr=>?_,o,c2, ?_⟩
 .rcases iO h t.worth r with e|⟨s,hs,v,u⟩
  .rw[e];exact Rat.le_refl
  rw[u];exact l s hs om_
 rw[<- i _ ((h.sol _).1 (eY h.ok)),EJ h.ok]
end
end Go.Jog.Lp
namespace Go.Jog.Lp
section
variable {p:Sys} {t:Tab}
theorem PC (h:TabOf p t)(s:Nat){r:Nat}(b:r<p.m):sumN (λj=>p.a r j*t.dir s j) p.n=-t.dir s (p.n+r):=by
 have h1:=(h.sol _).1 (oa h.ok (dI (t.oth s))) r b;have h2:=(h.sol _).1 (eY h.ok) r b;have h5:=sumN_add (λj=>p.a r j*t.dir s j) (λj=>p.a r j*t.sol j) p.n;rw[show sumN (λj=>p.a r j*t.dir s j+p.a r j*t.sol j) p.n=sumN (λj=>p.a r j*t.ext (dI (t.oth s)) j) p.n from sumN_congr λj _=>by unfold Tab.dir;grind]at h5;have c:t.dir s (p.n+r)=t.ext (dI (t.oth s)) (p.n+r)-t.sol (p.n+r):=rfl;rw[c,h1,h2];grind
theorem I8 (h:TabOf p t){d:Rat}{a:Nat->Rat}(b:ObjOf p t d a){s:Nat}(e:s<t.others.length):sumN (λj=>a j*t.dir s j) p.n=t.worth.g s:=by
 have h1:=b _ ((h.sol _).1 (oa h.ok (dI (t.oth s))));have h2:=b _ ((h.sol _).1 (eY h.ok));rw[EJ h.ok]at h2;have h3:t.W (t.ext (dI (t.oth s)))=t.worth.c+t.worth.g s:=by
  unfold Tab.W;rw[yw h.ok,rq h.ok e]
 have h5:=sumN_add (λj=>a j*t.dir s j) (λj=>a j*t.sol j) p.n;rw[show sumN (λj=>a j*t.dir s j+a j*t.sol j) p.n=sumN (λj=>a j*t.ext (dI (t.oth s)) j) p.n from sumN_congr λj _=>by unfold Tab.dir;grind]at h5;grind
theorem Q1 (h:TabOf p t){o:Rat}{b:Nat->Rat}(q:ObjOf p t o b){s:Nat}(c:s<t.others.length){k:Rat}(u:k*t.worth.g s<0)
  (v:∀i,i<t.basic.length->p.n<=t.bas i->0<=k*(t.line i).g s) (w:p.n<=t.oth s->0<=k) :
  (∀r,r<p.m->sumN (λj=>p.a r j*(k*t.dir s j)) p.n<=0)/\sumN (λj=>b j*(k*t.dir s j)) p.n<0:=by
 have e:∀f:Nat->Rat,sumN (λj=>f j*(k*t.dir s j)) p.n=k*sumN (λj=>f j*t.dir s j) p.n:=λf=>by
  rw[<- sumN_mul];exact sumN_congr λj _=>by grind
 refine⟨λr hr=>?_,by rw[e,I8 h q c];exact u⟩;rw[e,PC h s hr];have h2:0<=k*t.dir s (p.n+r):=by
  by_cases d:p.n+r∈t.basic
  .let⟨i,l,e⟩:=dA d;have x:t.bas i=p.n+r:=e;rw[<- x,dir_bas h c l];exact v i l om_
  rw[dir_oth h d];split
  .next e=>have:=w om_;grind
  have:k*0=0:=Rat.mul_zero k;rw[this];exact Rat.le_refl
 grind
def RelW (F:Nat)(t:Tab):Prop:=∀s,s<t.others.length->t.oth s<F->t.worth.g s=0
theorem relw_pivot {F N r s:Nat}(h:t.Ok N)(k:∀s,s<t.others.length->t.oth s<F->∀i,i<t.basic.length->F<=t.bas i->(t.line i).g s=0)(l:RelW F t)(j:r<t.basic.length)(m:s<t.others.length)(n:F<=t.bas r):RelW F (t.pivot r s):=by
 intro a c b;have o:(t.pivot r s).others.length=t.others.length:=TB;rw[o]at c;rw[qT m]at b;have d:a≠s:=by
  intro e;rw[aL e]at b;omega
 rw[aF d]at b;have p:=k a c b r j n;have u:(t.line r).f.length=t.others.length:=h.fl _ (line_mem h j);have q:(byL (t.line r) s).g a=0:=by
  rw[byL_g om_,aF d,p];grind
 show(putL t.worth s (byL (t.line r) s)).g a=0;rw[Hu (by rw[h.wl];exact c),aF d,l a c b,q];grind
inductive LeastR (vs:List Nat) (q:Nat->Prop) (n:Nat):Int->Prop where
|none:(∀i,i<n->¬ q i)->LeastR vs q n (-1)
|some (i:Nat):i<n->q i->(∀j,j<n->q j->vs.getD i 0<=vs.getD j 0)->LeastR vs q n i
theorem LeastR.no {b:List Nat}{q:Nat->Prop}{n:Nat}{o:Int}(h:LeastR b q n o)(c:¬ q n):LeastR b q (n+1) o:=by
 cases h with
|none h=>exact .none λi d a=>by rcases Nat.lt_or_eq_of_le (Nat.le_of_lt_succ d) with h1|h1;exact h i h1 a;exact c (h1 ▸ a)
|some i d a hm=>exact .some i om_ a λj f e=>by rcases Nat.lt_or_eq_of_le (Nat.le_of_lt_succ f) with h1|h1;exact hm j h1 e;exact absurd (h1 ▸ e) c
theorem LeastR.first {a:List Nat}{q:Nat->Prop}{n:Nat}(h:LeastR a q n (-1))(b:q n):LeastR a q (n+1) n:=by
 have h1:∀i,i<n->¬ q i:=by
  generalize e:(-1:Int)=o at h;cases h with
 |none h=>exact h
 |some i=>omega
 exact .some n om_ b λj c d=>by rcases Nat.lt_or_eq_of_le (Nat.le_of_lt_succ c) with h2|h2;exact absurd d (h1 j h2);rw[h2];exact SH _
theorem LeastR.less {a:List Nat}{q:Nat->Prop}{n i:Nat}(h:LeastR a q n i)(c:q n)(e:a.getD n 0<a.getD i 0):LeastR a q (n+1) n:=by
 generalize f:(i:Int)=o at h;cases h with
|none h=>omega
|some k g b hm =>
  obtain rfl:i=k:=by omega
  exact .some n om_ c λj d b=>by rcases Nat.lt_or_eq_of_le (Nat.le_of_lt_succ d) with h2|h2;have:=hm j h2 b;omega;rw[h2];exact SH _
theorem LeastR.keep {a:List Nat}{q:Nat->Prop}{n i:Nat}(h:LeastR a q n i)(d:¬ a.getD n 0<a.getD i 0):LeastR a q (n+1) i:=by
 generalize e:(i:Int)=o at h;cases h with
|none h=>omega
|some k f b hm =>
  obtain rfl:i=k:=by omega
  exact .some i om_ b λj c b=>by rcases Nat.lt_or_eq_of_le (Nat.le_of_lt_succ c) with h2|h2;exact hm j h2 b;rw[h2];omega
inductive LeaveR (F:Nat) (t:Tab) (s n:Nat):Int->Prop where
|none:(∀i,i<n->F<=t.bas i->0<=(t.line i).g s)->LeaveR F t s n (-1)
|some (r:Nat):r<n->F<=t.bas r->(t.line r).g s<0 ->
   (∀i,i<n->F<=t.bas i->(t.line i).g s<0->(t.line r).c / -(t.line r).g s<(t.line i).c / -(t.line i).g s∨(t.line r).c / -(t.line r).g s=(t.line i).c / -(t.line i).g s/\t.bas r<=t.bas i)->LeaveR F t s n r
theorem LeaveR.no {F s n:Nat}{o:Int}(h:LeaveR F t s n o)(c:F<=t.bas n->0<=(t.line n).g s):LeaveR F t s (n+1) o:=by
 cases h with
|none h=>exact .none λi e a=>by rcases Nat.lt_or_eq_of_le (Nat.le_of_lt_succ e) with h1|h1;exact h i h1 a;rw[h1]at a⊢;exact c a
|some r hr a f hm =>
  refine .some r om_ a f λj k b d=>?_;rcases Nat.lt_or_eq_of_le (Nat.le_of_lt_succ k) with h1|h1
  .exact hm j h1 b d
  rw[h1]at b d;have:=c b;grind
theorem LeaveR.first {F s n:Nat}(h:LeaveR F t s n (-1))(a:F<=t.bas n)(b:(t.line n).g s<0):LeaveR F t s (n+1) n:=by
 have h1:∀i,i<n->F<=t.bas i->0<=(t.line i).g s:=by
  generalize e:(-1:Int)=o at h;cases h with
 |none h=>exact h
 |some i=>omega
 refine .some n om_ a b λj c d f=>?_;rcases Nat.lt_or_eq_of_le (Nat.le_of_lt_succ c) with h2|h2
 .have:=h1 j h2 d;grind
 rw[h2];exact .inr ⟨rfl,SH _⟩
theorem LeaveR.less {F s n r:Nat}(h:LeaveR F t s n r)(a:F<=t.bas n)(b:(t.line n).g s<0)
  (d:(t.line n).c / -(t.line n).g s<(t.line r).c / -(t.line r).g s∨(t.line n).c / -(t.line n).g s=(t.line r).c / -(t.line r).g s/\t.bas n<=t.bas r):LeaveR F t s (n+1) n:=by
 generalize p:(r:Int)=o at h;cases h with
|none h=>omega
|some k q u v hm =>
  obtain rfl:r=k:=by omega
  refine .some n om_ a b λj e f i=>?_;rcases Nat.lt_or_eq_of_le (Nat.le_of_lt_succ e) with h2|h2
  .rcases d with h3|⟨h3,l⟩ <;> rcases hm j h2 f i with h4|⟨h4,m⟩
   .exact .inl (by grind)
   .exact .inl (by grind)
   .exact .inl (by grind)
   exact .inr ⟨h3.trans h4,SV l m⟩
  rw[h2];exact .inr ⟨rfl,SH _⟩
theorem LeaveR.keep {F s n r:Nat}(h:LeaveR F t s n r)
  (a:(t.line r).c / -(t.line r).g s<(t.line n).c / -(t.line n).g s∨(t.line r).c / -(t.line r).g s=(t.line n).c / -(t.line n).g s/\t.bas r<=t.bas n):LeaveR F t s (n+1) r:=by
 generalize l:(r:Int)=o at h;cases h with
|none h=>omega
|some k m b d hm =>
  obtain rfl:r=k:=by omega
  refine .some r om_ b d λj e f i=>?_;rcases Nat.lt_or_eq_of_le (Nat.le_of_lt_succ e) with h2|h2
  .exact hm j h2 f i
  rw[h2];exact a
end
end Go.Jog.Lp
namespace Go.Jog.Lp
theorem Quo.qb {K k:Nat}{q:Rat}(h:Quo K q)(g:K<B9 ^ k):QB k q:=by
 let⟨z,w,h1,h2,h3,h4⟩:=h;have a:∀(z:Int)(d:Nat),d≠0->q*(d:Int)=z->z.natAbs<=K->d<=K->QB k q:=by
  intro z d hd e i j;have b:q=mkRat z d:=by
   rw[Rat.mkRat_eq_div,<- e];have:(d:Rat)≠0:=λc=>hd (by exact_mod_cast c);rw[Rat.intCast_natCast];grind
  rw[b];exact gA hd om_ om_
 rcases Int.lt_or_gt_of_ne h1 with f|f
 .refine a (-z) w.natAbs om_ ?_ om_ om_;rw[show((w.natAbs:Nat):Int)=-w by omega,Rat.intCast_neg,Rat.intCast_neg,<- h2];grind
 refine a z w.natAbs om_ ?_ om_ om_;rw[show((w.natAbs:Nat):Int)=w by omega];exact h2
structure Lim (p:Sys)(cc:Nat->Rat)(k:Nat):Prop where
 ex:∃(D:Nat->Int)(M M0:Nat)(D0:Int),0<M/\p.Wh D M/\(D0≠0/\D0.natAbs<=M0)/\(∀j,j<p.n->∃z:Int,D0*cc j=z/\z.natAbs<=M0)/\bdQ p M<B9 ^ k/\bdW p M M0<B9 ^ k
structure Inv (p:Sys)(cc:Nat->Rat)(t:Tab):Prop where
 tab:TabOf p t
 obj:ObjOf p t 0 cc
section
variable {p:Sys} {cc:Nat->Rat} {t:Tab} {k:Nat}
theorem Inv.con (h:Inv p cc t)(a:Lim p cc k){i:Nat}(b:i<t.basic.length):QB k (t.line i).c:=by
 let⟨D,M,d,e,h1,h2,h3,h4,h5,f⟩:=a.ex;exact(PL h.tab h2 h1 b).qb h5
theorem Inv.fac (h:Inv p cc t)(a:Lim p cc k){i s:Nat}(b:i<t.basic.length)(c:s<t.others.length):QB k ((t.line i).g s):=by
 let⟨D,M,d,e,h1,h2,h3,h4,h5,f⟩:=a.ex;exact(Pw h.tab h2 h1 b c).qb h5
theorem Inv.wcon (h:Inv p cc t)(a:Lim p cc k):QB k t.worth.c:=by
 let⟨D,M,d,e,h1,h2,h3,h4,h5,b⟩:=a.ex;exact(J8 h.tab h2 h1 h.obj h3 h4 ⟨0,by show _=(0:Rat);grind,SM _⟩).qb b
theorem Inv.wfac (h:Inv p cc t)(a:Lim p cc k){s:Nat}(b:s<t.others.length):QB k (t.worth.g s):=by
 let⟨D,M,d,e,h1,h2,h3,h4,h5,c⟩:=a.ex;exact(J5 h.tab h2 h1 h.obj h3 h4 b).qb c
theorem Inv.pivot (h:Inv p cc t){r s:Nat}(a:r<t.basic.length)(b:s<t.others.length)(c:(t.line r).g s≠0):Inv p cc (t.pivot r s):=⟨h.tab.pivot a b c,h.obj.pivot h.tab a b c⟩
theorem Mv (a:1<=k):1<B9 ^ k:=TL (show 1<B9 ^ 1 from by decide) (Tb dc_ a)
theorem qb_zero (a:1<=k):QB k 0:=⟨UP Nat.one_pos (Mv a),Mv a⟩
theorem M6 (a:1<=k):QB k 1:=⟨Mv a,Mv a⟩
theorem qb_neg {q:Rat}(h:QB k q):QB k (-q):=⟨by rw[V2];have:=h.1;omega,h.2⟩
theorem Inv.sol (h:Inv p cc t)(c:Lim p cc k)(d:1<=k)(v:Nat):QB k (t.sol v):=by
 by_cases a:v∈t.basic
 .let⟨i,b,e⟩:=dA a;have f:t.bas i=v:=e;rw[<- f,sol_bas h.tab.ok b];exact h.con c b
 rw[sol_oth h.tab.ok a];exact qb_zero d
theorem Inv.dir (h:Inv p cc t)(f:Lim p cc k)(a:1<=k){s:Nat}(b:s<t.others.length)(v:Nat):QB k (t.dir s v):=by
 by_cases c:v∈t.basic
 .let⟨i,d,e⟩:=dA c;have g:t.bas i=v:=e;rw[<- g,dir_bas h.tab b d];exact h.fac f d b
 rw[dir_oth h.tab c];split
 .exact M6 a
 exact qb_zero a
theorem Inv.dualQ (h:Inv p cc t)(a:Lim p cc k)(b:1<=k){i:Nat}(c:i<t.basic.length)(r:Nat):QB k (dualV p t (t.line i) r):=by
 rcases iO h.tab (t.line i) r with e|⟨s,hs,_,d⟩
 .rw[e];exact qb_zero b
 rw[d];exact h.fac a c hs
theorem Inv.dualW (h:Inv p cc t)(a:Lim p cc k)(b:1<=k)(r:Nat):QB k (dualV p t t.worth r):=by
 rcases iO h.tab t.worth r with e|⟨s,hs,_,c⟩
 .rw[e];exact qb_zero b
 rw[c];exact h.wfac a hs
theorem Inv.refQ (h:Inv p cc t)(b:Lim p cc k)(a:1<=k){i:Nat}(c:i<t.basic.length)(r:Nat):QB k (refV p t i r):=by
 unfold refV;split
 .exact M6 a
 exact qb_neg (h.dualQ b a c r)
def CmD (n k:Nat)(pt:Nat->Rat):Prop:=∃d:Int,d≠0/\d.natAbs<B9 ^ k/\∀j,j<n->∃z:Int,pt j*(d:Rat)=z/\z.natAbs<B9 ^ k
theorem Inv.cmd (h:Inv p cc t)(a:Lim p cc k):CmD p.n k t.sol:=by
 let⟨D,M,o,q,h1,h2,h3,h4,h5,r⟩:=a.ex;let⟨d,c,f,hd⟩:=vT h.tab h2 h1;have s:=JD (p:=p) h1;refine⟨d,f,by omega,λj g=>?_⟩;by_cases hm:j∈FB p t
 .let⟨i,l,e⟩:=dA hm;let⟨z,ez,u⟩:=Hn h.tab h2 h1 (zX h.tab) h2.b (λv m _=>GO h.tab v m) l;rw[e,c]at ez;exact⟨z,ez,by omega⟩
 rw[GP h.tab g,aF hm];exact⟨0,by rw[Rat.zero_mul];rfl,by rw[Int.natAbs_zero];omega⟩
structure OptR (p:Sys)(cc:Nat->Rat)(k:Nat)(val:Rat)(pt du:Nat->Rat):Prop where
 row:∀r,r<p.m->sumN (λj=>p.a r j*pt j) p.n<=p.b r
 wor:sumN (λj=>cc j*pt j) p.n=val
 pos:∀r,0<=du r
 fac:∀j,j<p.n->sumN (λr=>du r*p.a r j) p.m=-cc j
 bnd:sumN (λr=>du r*p.b r) p.m=-val
 qv:QB k val
 qp:∀j,QB k (pt j)
 qd:∀r,QB k (du r)
 cd:CmD p.n k pt
structure InfR (p:Sys)(k:Nat)(du:Nat->Rat):Prop where
 pos:∀r,0<=du r
 fac:∀j,j<p.n->sumN (λr=>du r*p.a r j) p.m=0
 bnd:sumN (λr=>du r*p.b r) p.m<0
 qd:∀r,QB k (du r)
structure UnbR (p:Sys)(cc:Nat->Rat)(k:Nat)(pt ra:Nat->Rat):Prop where
 row:∀r,r<p.m->sumN (λj=>p.a r j*pt j) p.n<=p.b r
 ray:∀r,r<p.m->sumN (λj=>p.a r j*ra j) p.n<=0
 fall:sumN (λj=>cc j*ra j) p.n<0
 qp:∀j,QB k (pt j)
 qr:∀j,QB k (ra j)
 cd:CmD p.n k pt
theorem Inv.opt (h:Inv p cc t)(a:Lim p cc k)(b:1<=k)(d:t.Feas p.n)(e:RelW p.n t)(f:∀s,s<t.others.length->p.n<=t.oth s->0<=t.worth.g s):OptR p cc k t.worth.c t.sol (dualV p t t.worth):=by
 let⟨h1,h2,h3,h4⟩:=LZ h.tab h.obj e f;exact⟨λr hr=>tY h.tab d r hr,by grind,h1,h3,by grind,h.wcon a,h.sol a b,h.dualW a b,h.cmd a⟩
theorem Inv.inf (h:Inv p cc t)(b:Lim p cc k)(d:1<=k)(e:Rel p.n t p.n){i:Nat}(a:i<t.basic.length)(f:p.n<=t.bas i)(j:(t.line i).c<0)(l:∀s,s<t.others.length->p.n<=t.oth s->(t.line i).g s<=0):InfR p k (refV p t i):=by
 let⟨h1,h2,h3⟩:=Q0 h.tab e a f l;exact⟨h1,h3,by rw[h2];exact j,h.refQ b d a⟩
theorem Inv.unb (h:Inv p cc t)(a:Lim p cc k)(b:1<=k)(d:t.Feas p.n){s:Nat}(c:s<t.others.length){u:Rat}(e:u=1∨u=-1)(f:u*t.worth.g s<0)
  (l:∀i,i<t.basic.length->p.n<=t.bas i->0<=u*(t.line i).g s) (m:p.n<=t.oth s->0<=u):UnbR p cc k t.sol λj=>u*t.dir s j:=by
 let⟨h1,h2⟩:=Q1 h.tab h.obj c f l m;refine⟨λr hr=>tY h.tab d r hr,h1,h2,h.sol a b,λj=>?_,h.cmd a⟩;rcases e with rfl|rfl
 .rw[Rat.one_mul];exact h.dir a b c j
 rw[show(-1:Rat)*t.dir s j=-t.dir s j from by grind];exact qb_neg (h.dir a b c j)
end
def openT (p:Sys)(cc:Nat->Rat):Tab :=
 ⟨(List.range p.m).map λr=>p.n+r,(List.range p.m).map λr=>⟨p.b r,(List.range p.n).map λj=>-p.a r j⟩,List.range p.n,⟨0,(List.range p.n).map cc⟩⟩
section
variable {p:Sys} {cc:Nat->Rat}
theorem CY {n j:Nat}(h:j<n):(List.range n).getD j 0=j:=by
 rw[al,Tl h];rfl
theorem HO {r:Nat}(h:r<p.m):(openT p cc).bas r=p.n+r:=by
 show((List.range p.m).map λr=>p.n+r).getD r 0=_;rw[al,SI,Tl h];rfl
theorem openT_line {r:Nat}(h:r<p.m):(openT p cc).line r=⟨p.b r,(List.range p.n).map λj=>-p.a r j⟩:=by
 show((List.range p.m).map _).getD r _=_;rw[al,SI,Tl h];rfl
theorem openT_lb:(openT p cc).basic.length=p.m:=by show((List.range p.m).map _).length=_;rw[ar,TO]
theorem openT_lo:(openT p cc).others.length=p.n:=TO
theorem openT_inv:Inv p cc (openT p cc):=by
 have f:∀x,(openT p cc).Sol x ↔ p.Sol x:=by
  intro x;unfold Tab.Sol Sys.Sol;rw[openT_lb];refine forall_congr' λr=>imp_congr_right λhr=>?_;have e:lv ((openT p cc).line r) (openT p cc).others x=p.b r-sumN (λj=>p.a r j*x j) p.n:=by
   rw[openT_line hr];unfold lv;rw[openT_lo];have:sumN (λj=>(-1:Rat)*(p.a r j*x j)) p.n=sumN (λj=>(⟨p.b r,(List.range p.n).map λj=>-p.a r j⟩:Line).g j*x ((openT p cc).others.getD j 0)) p.n:=sumN_congr λj c=>by
    show _=((List.range p.n).map λj=>-p.a r j).getD j 0*x ((List.range p.n).getD j 0);rw[map_range_getD c,CY c];grind
   rw[<- this,sumN_mul];show p.b r+_=_;grind
  rw[e,HO hr]
 refine⟨⟨⟨?_, ?_, ?_, ?_, ?_⟩,openT_lb,openT_lo,f⟩,λx _=>?_⟩
 .show((List.range p.m).map _).length=((List.range p.m).map _).length;rw[ar,ar]
 .intro l i;obtain⟨r,_,rfl⟩:=SL.1 i;show((List.range p.n).map _).length=(List.range p.n).length;rw[ar]
 .show((List.range p.n).map _).length=(List.range p.n).length;rw[ar]
 .refine Un.2 ⟨?_,List.nodup_range,λa k b o=>?_⟩
  .show((List.range p.m).map λr=>p.n+r).Nodup;rw[List.Nodup,List.pairwise_map];exact(List.nodup_range (n:=p.m)).imp λh e=>h om_
  obtain⟨r,_,rfl⟩:=SL.1 k;have:=S7.1 o;omega
 .intro v d;rcases SZ.1 d with d|d
  .obtain⟨r,hr,rfl⟩:=SL.1 d;have:=S7.1 hr;omega
  have:=S7.1 d;omega
 show lv ⟨0,(List.range p.n).map cc⟩ (List.range p.n) x=_;unfold lv;rw[TO];congr 1;refine sumN_congr λj c=>?_;show((List.range p.n).map cc).getD j 0*x ((List.range p.n).getD j 0)=_;rw[map_range_getD c,CY c]
end
end Go.Jog.Lp
namespace Go.Jog
open Go
section
variable {P:Program} {f:FuncId} {args:List Value} {C:Mem} {L:List Ent}
theorem YU {b:Nat}{c:Obj}{post:Value->List Ent->Prop}(g:Enters P f=true)(h:∀d,C.le d->d b=some c->Fn P f args d L λu _ a=>post u a) :
  Fn P f args C (.obj b c::L) λu _ i=>∃a,i=.obj b c::a/\post u a:=by
 refine⟨g,λw j=>?_⟩;have e:=St.start j;have k:C b=none:=e.sep.n b ⟨_,SK ..,rfl⟩;have l:=e.aside;refine((h _ (Mem.le_set k) (Mem.set_self C b c)).2 w l.sep).mono λex w' ⟨v,d,a,k1,k2,m⟩=>?_;exact⟨v,_,_,k1,St.back e k2,a,U,m⟩
theorem YT {a g e s m:Nat}{b:List (List Value)}{o:Value->List Ent->Prop}(p:Enters P f=true)(q:∀r∈b,r.length=s)(t:b.length=m)
  (h:∀i,C.le i->Sl i s (s_ a m g) b->Fn P f args i L λu _ d=>o u d) :
  Fn P f args C (.arr (s_ a m g) e s m b.flatten::L) λu _ x=>∃d,x=.arr (s_ a m g) e s m b.flatten::d/\o u d:=by
 subst t;refine⟨p,λw y=>?_⟩;let⟨cs,h1,h2,h3,h4,l⟩:=(St.start y).arrObj;have z:C a=none:=l.sep.n a ⟨_,SK ..,rfl⟩;have A:=l.aside;have B:Sl (C.set a (.cells ⟨cs⟩ e (0,0))) s (s_ a b.length g) b :=
  Sl.ofBlock (c:=g) (Mem.set_self C a (.cells ⟨cs⟩ e (0,0))) q (λj v k=>by
   rw[<- h2,TA]at k;split at k
   .simpa using k
   cases k) h3 h4
 refine((h _ (Mem.le_set z) B).2 w A.sep).mono λex w' ⟨v,i,d,k1,k2,D⟩=>?_;exact⟨v,_,_,k1,(St.back l k2).objArr h2 h1 h3 h4,d,U,D⟩
theorem XS {v:Value}{e s m:Nat}{rows:List (List Value)}{post:Value->List Ent->Prop}(d:Enters P f=true)(i:∀r∈rows,r.length=s)(j:rows.length=m)
  (h:∀b,C.le b->Sl b s v rows->Fn P f args b L λu _ a=>post u a) :
  Fn P f args C (.arr v e s m rows.flatten::L) λu _ k=>∃a,k=.arr v e s m rows.flatten::a/\post u a:=by
 refine⟨d,λw c=>?_⟩;have l:w.ownsRow 0 e s v m rows.flatten:=c.e _ (SK ..);rcases l.2 with⟨h1,h2⟩|⟨g,p,q,h1,_,_,h3,h4,_⟩
 .have h0:rows=[]:=Ty om_;have n:=h C (Mem.le.refl C) (by rw[h1,h0];exact Sl.nil C s);have hs:=St.perm (St.start c) (TR (l₁:=[Ent.arr v e s m rows.flatten]) (l₂:=L));refine(n.callAt hs).mono λex w' ⟨u,b,a,k1,_,k2,o⟩=>?_;exact⟨u,b,_,k1,St.perm k2 (TR (l₁:=a) (l₂:=[Ent.arr v e s m rows.flatten])),a,U,o⟩
 subst h1;exact(YT (e:=e) d i j h).2 w c
end
inductive Lent where
|obj (b:Nat) (cs:List Value) (t:TypeId)
|arr (v:Value) (m s:Nat) (e:TypeId) (rows:List (List Value))
def Lent.ent:Lent->Ent
|.obj b cs t=>.obj b (.cells ⟨cs⟩ t (0,0))
|.arr v m s e rows=>.arr v e s m rows.flatten
def Lent.wf:Lent->Prop
|.obj ..=>True
|.arr _ m s _ rows=>rows.length=m/\∀r∈rows,r.length=s
def Lent.seen (C:Mem):Lent->Prop
|.obj b cs t=>C b=some (.cells ⟨cs⟩ t (0,0))
|.arr v _ s _ rows=>Sl C s v rows
theorem XR {P:Program}{f:FuncId}{args:List Value}{L:List Ent}{post:Value->List Ent->Prop}(i:Enters P f=true):∀(ls:List Lent){C:Mem},(∀x∈ls,x.wf) ->
  (∀d,C.le d->(∀x∈ls,x.seen d)->Fn P f args d L λu _ a=>post u a)->Fn P f args C (ls.map Lent.ent++L) λu _ g=>∃a,g=ls.map Lent.ent++a/\post u a
|[],C,_,h=>(h C (Mem.le.refl C) λx c=>by cases c).mono λv d a _ hp=>⟨a,rfl,hp⟩
|.obj b cs t::ls,C,j,h=>by
  refine(YU (post:=λu g=>∃a,g=ls.map Lent.ent++a/\post u a) i λr h1 k=>?_).mono λv d a _ ⟨w,l,n,o,hp⟩=>⟨n,by rw[l,o];rfl,hp⟩;refine XR i ls (λx c=>j x (SX _ c)) λp h2 hs=>h p (h1.trans h2) λx c=>?_;rcases SY.1 c with rfl|c
  .exact h2 _ _ k
  exact hs x c
|.arr v m s e rows::ls,C,j,h=>by
  have q:=j _ SK;refine(XS (e:=e) (post:=λu g=>∃a,g=ls.map Lent.ent++a/\post u a) i q.2 q.1 λr h1 k=>?_).mono λv d a _ ⟨w,l,n,o,hp⟩=>⟨n,by rw[l,o];rfl,hp⟩;refine XR i ls (λx c=>j x (SX _ c)) λp h2 hs=>h p (h1.trans h2) λx c=>?_;rcases SY.1 c with rfl|c
  .exact Sl.mono k h2
  exact hs x c
end Go.Jog
namespace Go.Jog
open Go
variable {C:Mem}{F:Fx}{L:List Ent}{P:Program}{args:List Value}{f:FuncId}{fr:Fr}{m s t:Nat}{v:Value}{xs:List Value}
theorem Fn.form {a:Value->Mem->List Ent->Prop}{e:Nat}(d:Enters P f=true)(k:0<m)
  (h:∀g c,v=s_ g m c->Fn P f args C (.arr v e s m xs::L) a):Fn P f args C (.arr v e s m xs::L) a:=by
 refine⟨d,λw b=>?_⟩;have i:w.ownsRow 0 e s v m xs:=b.e _ (SK ..);rcases i.2 with⟨h1,_⟩|⟨g,j,l,h1,_⟩
 .omega
 exact(h g j h1).2 w b
theorem Fn.perm {P:Program}{f:FuncId}{a:List Value}{C:Mem}{L L2:List Ent}{post:Value->Mem->List Ent->Prop}(b:L.Perm L2)(h:Fn P f a C L2 post):Fn P f a C L post:=by
 refine⟨h.1,λw c=>?_⟩;have hs:St w C L C (L2++[]) w:=by rw[S8];exact(St.start c).perm b
 refine(h.callAt hs).mono λex w' ⟨u,d,L',k1,_,k2,e⟩=>?_;rw[S8]at k2;exact⟨u,d,L',k1,k2,e⟩
theorem XB {q:Value->Prop}(d:Enters P f=true)(b:List Lent)(e:∀x∈b,x.wf)(h:∀a,C.le a->(∀x∈b,x.seen a)->Pur P f args a λu _=>q u) :
  Fn P f args C (b.map Lent.ent) λu _ c=>q u/\c=b.map Lent.ent:=by
 have h1:=XR (L:=[]) (post:=λu c=>c=[]/\q u) d b e λa g hs=>h a g hs;rw[S8]at h1;refine h1.mono ?_;rintro u a c _ ⟨j,rfl,rfl,i⟩;exact⟨i,S8 _⟩
theorem X8 {k:List KI}{e:Exit}(j:Nat)(a:L[j]?=some (.arr v t s m xs))(b:0<m)(h:∀g c,v=s_ g m c->G F k e fr C L):G F k e fr C L:=by
 cases m with
|zero=>exact absurd b (Nat.lt_irrefl _)
|succ m=>exact Yw j a h
theorem Yr (j:Nat){r b:Nat}{c:List Value}{k:TypeId}{l:Nat × Nat}{d:TI}{u:Value}(m:L[j]?=some (.obj b (.cells ⟨c⟩ k l)))(q:F.fn.results=#[.cell r t,.tmp s])(x:ev fr [] (.tmp r)=some (p_ b))(y:ev fr [] (.tmp s)=some u)
  (z:F.cx.T.get t=some d) (A:cJ d (c.take d.size)=some v) (h:F.post (.tuple #[v,u]) C (L.eraseIdx j)) (n:F.ends:=by exact⟨λ_ _ _ h=>h,rfl⟩):G F [] .ret fr C L:=λ_ a w f o=>by
 refine n.kq ?_;have g:=bP f (λp hp=>by cases hp) x;have i:=bP f (λp hp=>by cases hp) y;simp only[Act.eval]at g i;have hm:Ent.obj b (.cells ⟨c⟩ k l)∈L:=aK m;refine bodyPost_ret (v:=.tuple #[v,u]) ?_ (f.defers.trans n.2) ⟨_,C,_,U,St.drop (St.perm o (ax m)),h⟩;have B:=fD (F:=F) z (o.sep.e _ hm) A;simp only[TM]at g i;simp[results,q,g,i,asAddr,B]
theorem mC {b:Type}{l:List Nat}(c:l.Nodup){i:Nat}(h:i∈l)(f g:Nat->b)(d:∀j,j∈l->j≠i->f j=g j):(l.map f).Perm (f i::(l.erase i).map g):=by
 refine((List.perm_cons_erase h).map f).trans ?_;rw[Tq];refine List.Perm.cons _ (List.Perm.of_eq (List.map_congr_left λj a=>?_));rw[c.mem_erase_iff]at a;exact d j a.2 a.1
end Go.Jog
namespace Go.Jog
open Go
theorem Yq {F:Fx}{k:List KI}{d:Fr}{C:Mem}{L:List Ent}{e:Exit}(j:Nat){v:Value}{t s m:Nat}{f:List Value}(l:L[j]?=some (.arr v t s m f))
  (h:∀A c,v=.slice A m c->(0<m->A=some ⟨(A.getD ⟨0,0,none⟩).block,0,none⟩)->m<=c->c<=maxLen->G F k e d C L):G F k e d C L:=λh0 a w i b=>by
 have n:=St.perm b (ax l);have o:w.ownsRow 0 t s v m f:=n.sep.e _ (SK ..);rcases o.2 with⟨h1,h2⟩|⟨g,p,q,h1,_,_,h3,h4,_⟩
 .subst h2;exact h _ _ h1 (λh=>absurd h om_) om_ (SM _) h0 a w i b
 exact h _ _ h1 fl_ h3 h4 h0 a w i b
theorem XJ {F:Fx}{k:List KI}{i:Fr}{e:Exit}:∀(ls:List Lent){C:Mem}{L2:List Ent},(∀x∈ls,x.wf)->(∀d,C.le d->(∀x∈ls,x.seen d)->G F k e i d L2)->G F k e i C (ls.map Lent.ent++L2)
|[],C,_,_,h=>h C (Mem.le.refl C) λx a=>by cases a
|.obj b cs t::ls,C,L2,c,h=>by
  refine G.freeze 0 U λl h1 f=>XJ ls (λx a=>c x (SX _ a)) λg h2 hs=>h g (h1.trans h2) λx a=>?_;rcases SY.1 a with rfl|a
  .exact h2 _ _ f
  exact hs x a
|.arr v m s t rows::ls,C,L2,c,h=>by
  have j:=c _ SK;refine G.freezeArr 0 rows U U j.2 j.1 λl h1 f=>XJ ls (λx a=>c x (SX _ a)) λg h2 hs=>h g (h1.trans h2) λx a=>?_;rcases SY.1 a with rfl|a
  .exact Sl.mono f h2
  exact hs x a
section
variable {cx:Cx} {n:Nat} {ds:List (Option Nat)} {R:Rg n ds} {its:List It} {fr:Fr} {C:Mem} {L:List Ent} {i k d:Nat} {o:Oper} {g:GL} {v:Value}
theorem YK (b c:Nat){t e j r l:Nat}{A:Option Addr}{x y:Operand}{s:IntKind}{m:Int}{f p:TI}(u:Nat.ble k 1=true)(v:o.dst=some d)(z:o.op=.indexAddr t x y)
  (B:gOf ds fr o.guard=some g) (E:ev fr g x=some (.slice A j r)) (F:ev fr g y=some (.int s m)) (G:cx.T.get t=some f) (q:f.k=.slice e) (H:cx.T.get e=some p) (I:p.size=l)
  (J:GT ds fr g->A=some ⟨b,0,none⟩/\0<=m/\m<j/\c=m.toNat*l) (K:aZ n ds ((d,g,.pointer (some ⟨b,c,none⟩))::fr) d=true) (M:wfG ds fr g=true)
  (h:D cx R its ((d,g,.pointer (some ⟨b,c,none⟩))::fr) C L):D cx R ((i,k,o)::its) fr C L:=by
 have N:cx.P.underlying t=some (.slice e):=by
  let⟨V,W,X,Y,Z⟩:=f;simp only at q;subst q;exact bW cx.hT G
 refine D.run _ u v B (λO a hs w=>?_) K M h;obtain⟨rfl,Q,S,rfl⟩:=J O;have U:execOp a.eval o=(do Pure.pure (.value (<- Instr.indexAt t (a.eval x) (a.eval y))):Sem Next):=by unfold execOp;rw[z]
 rw[U,hs _ _ E,hs _ _ F];have h2:=eD cx.hT H w;rw[I]at h2;simp[Instr.indexAt,asIntOf,run_underlying N,h2,Q,S,Addr.add_lit]
theorem YF {t c f e q r m s:Nat}{A:Option Addr}{x:Operand}{l:List Value}{p:TI}(z:Ent.arr (.slice A m s) e q r l∈L)(y:k=1)(B:o.dst=some d)(E:o.op=.load t x)(F:gOf ds fr o.guard=some g)(G:ev fr g x=some (.pointer (some ⟨c,f,none⟩)))
  (H:cx.T.get t=some p) (I:GT ds fr g->A=some ⟨c,0,none⟩/\cJ p ((l.drop f).take p.size)=some v) (J:aZ n ds ((d,g,v)::fr) d=true) (K:wfG ds fr g=true)
  (h:D cx R its ((d,g,v)::fr) C L):D cx R ((i,k,o)::its) fr C L :=
 Xe (by subst y;rfl) B F J K (λM a hs aa N w O=>by
  let⟨Q,S⟩:=I M;subst Q;have V:w.ownsRow 0 e q (s_ c m s) r l:=O.sep.e _ ((N y).2 _ z);let⟨_,_,_,ab,W,_,X⟩:=cP V;have Y:∀j u,((l.drop f).take p.size)[j]?=some u->w.cell? ((⟨c,f,none⟩:Addr).add j)=some u:=λj u b=>by
   rw[Addr.add_lit,cell_of_row w c (f+j) _ e (0,0) W];rw[TA]at b;split at b
   .rw[List.getElem?_drop,<- X,TA]at b;split at b
    .simpa using b
    cases b
   cases b
  have Z:(execOp a.eval o).run cx.P w=.ok (.value v) w:=by
   have e1:execOp a.eval o=(do Pure.pure (.value (<- Instr.loadAt t (a.eval x))):Sem Next):=by unfold execOp;rw[E]
   rw[e1,hs _ _ G];simp only[Instr.loadAt,Instr.sureAddr,Sem.run_bind,Sem.run_pure,Result.andThen_ok];rw[eZ cx.hT H Y S];rfl
  unfold Oper.quietAt;rw[Z];exact⟨U,U⟩) h
theorem X3 {f:Operand}{e:Array Operand}{t:Array TypeId}{j:FuncId}{l m:Array Value}{p q:List Value}{x:Ent}(z:x∈L)(c:GT ds fr g->Fn cx.P j q C [x] λu _ A=>u=v/\A=[x])(B:Z9 k 1 o.dst (some d) (gOf ds fr o.guard) (some g) o.op (.call ⟨.value f,e,t⟩) (ev fr g f) (some (.func (.func j) l m)) (ly (ev fr g) e.toList) (some p) (l.toList++p++m.toList) q (aZ n ds ((d,g,v)::fr) d) true (wfG ds fr g) true)(h:D cx R its ((d,g,v)::fr) C L):D cx R ((i,k,o)::its) fr C L :=
 have ⟨b,hd,E,F,G,H,I,hp,J⟩:=B;Xe (by subst b;rfl) hd E hp J (λr a hs M s w K=>by
  unfold Oper.quietAt;rw[pf F (hs _ _ G) (fh (λx y=>hs x y) H) I (c r).1 w];exact⟨U,(c r).quiet1 (s b).1 ((s b).2 _ z) K⟩) h
end
end Go.Jog
namespace Go.Jog
open Go
section
variable {cx:Cx} {n:Nat} {ds:List (Option Nat)} {R:Rg n ds} {its:List It} {fr:Fr} {C:Mem} {L:List Ent} {i k d:Nat} {o:Oper}
theorem XK {t e h b:Nat}{A:Option Addr}{x:Operand}{g:GL}{c:TI}(j:Z9 (Nat.ble k 1) true o.dst (some d) o.op (.call ⟨.builtin .cap,#[x],#[t]⟩) (gOf ds fr o.guard) (some g) (ev fr g x) (some (.slice A h b)) (cx.T.get t) (some c) c.k (.slice e) (aZ n ds ((d,g,i_ b)::fr) d) true (wfG ds fr g) true)(l:D cx R its ((d,g,i_ b)::fr) C L):D cx R ((i,k,o)::its) fr C L:=by
 have ⟨m,hd,p,q,r,ht,f,hp,s⟩:=j;have u:cx.P.underlying t=some (.slice e):=by
  let⟨y,z,B,E,F⟩:=c;simp only at f;subst f;exact bW cx.hT ht
 refine D.run _ m hd q (λG a hs w=>?_) hp s l;have v:execOp a.eval o=(do let dd <- resolve a.eval ⟨.builtin .cap,#[x],#[t]⟩ o.type;invoke dd.target dd.args:Sem Next):=by unfold execOp;rw[p]
 rw[v];simp[resolve,invoke,builtin,Sem.run_bind,hs _ _ r,Builtin.cap_,run_underlying u,goInt]
theorem Yc {t g e m:Nat}{x y:Operand}{s j:IntKind}{l p f:TI}(N:Z12 k 3 o.dst (some d) (gOn ds fr o.guard) true o.op (.call ⟨.builtin .append,#[x,y],#[t,g]⟩) (cx.T.get t) (some l) l.k (.slice e) (cx.T.get e) (some f) (Nat.beq f.size 0) false (cx.T.get g) (some p) p.k (.int j) (ev fr [] x) (some (.slice none 0 0)) (ev fr [] y) (some (.int s (m:Nat))))(O:0<m)(Q:m*f.bytes<=281474976710656)(V:m<=maxLen)(W:∀v,aZ n ds ((d,[],v)::fr) d=true)(h:∀b c,m<=c->D cx R its ((d,[],s_ b m c)::fr) C (.arr (s_ b m c) e f.size m (fK (f.zero.map Zv.val) m)::L)):D cx R ((i,k,o)::its) fr C L:=by
 have ⟨X,hd,Y,Z,ht,u,z,A,aa,B,hx,hy⟩:=N;have hu:cx.P.underlying t=some (.slice e):=by
  let⟨kk,s1,b1,z1,g1⟩:=l;simp only at u;subst u;exact bW cx.hT ht
 have ab:cx.P.underlying g=some (.int j):=by
  let⟨kk,s1,b1,z1,g1⟩:=p;simp only at B;subst B;exact pV cx.hT aa
 let⟨inf,hi,ac,ad,hz,E⟩:=(dC cx.hT z).info;have ae:0<f.size:=UH (λe=>by rw[e]at A;cases A);have ai:=mx_
 refine Xc (S:=λF G H=>G=C/\∃b c,m<=c/\F=s_ b m c/\H=.arr (s_ b m c) e f.size m (fK (f.zero.map Zv.val) m)::L) (by subst X;rfl) hd Y W (λa hs w _ hw=>?_) (λF G H _ ⟨e0,b,c,hc,r,e2⟩=>by subst e0;subst r;subst e2;exact h b c hc);have hr:=Lib.run_append_nil_zeros (P:=cx.P) w t g o.type e inf f.zv s j hu ab hi hz m O (by rw[ac];exact ae) om_ (by rw[ad];exact Q);have af:(execOp a.eval o).run cx.P w=.ok (.value (.slice (some ⟨w.heap.size,0,none⟩) m (grownCap w m 0 e))) (w.drew.alloc (.cells (Builtin.zeroCells f.zv.cells m++Builtin.zeroCells f.zv.cells (grownCap w m 0 e-m)) e)):=by
  have r:execOp a.eval o=(do let dd <- resolve a.eval ⟨.builtin .append,#[x,y],#[t,g]⟩ o.type;invoke dd.target dd.args:Sem Next):=by unfold execOp;rw[Z]
  rw[r];simp only[resolve,invoke,builtin,Sem.run_bind,Sem.run_pure,Result.andThen_ok,Us,Tq,Ut,hs _ _ hx,hs _ _ hy,hr]
 unfold Oper.wp;rw[af];have I:=grownCap_ge w m 0 e;have ag:=grownCap_le_maxLen w m 0 e V;have J:=St.alloc (St.drew hw) (.cells (Builtin.zeroCells f.zv.cells m++Builtin.zeroCells f.zv.cells (grownCap w m 0 e-m)) e);have K:(f.zero.map Zv.val).length=f.size:=by
  have:=(dC cx.hT z).zsize;rw[E]at this;simpa using this
 have M:∀q,Builtin.zeroCells f.zv.cells q=⟨fK (f.zero.map Zv.val) q⟩:=λq=>by
  rw[<- AI,E];rfl
 have ah:(⟨fK (f.zero.map Zv.val) m⟩++⟨fK (f.zero.map Zv.val) (grownCap w m 0 e-m)⟩:Array Value)=⟨fK (f.zero.map Zv.val) m++fK (f.zero.map Zv.val) (grownCap w m 0 e-m)⟩:=by simp
 rw[M,M,ah]at J⊢;refine⟨_,C,.arr (.slice (some ⟨w.heap.size,0,none⟩) m (grownCap w m 0 e)) e f.size m (fK (f.zero.map Zv.val) m)::L,U,Mem.le.refl _,λh2=>by omega,St.objArr J (List.take_left' (by rw[cH,K])) ?_ I ag,U,_,_,I,U,U⟩;rw[SP,cH,cH,K,<- Ug];congr 1;omega
end
end Go.Jog
namespace Go.Jog.Lp
def Sys.Hold (p:Sys):Prop:=∃y:Nat->Rat,∀r,r<p.m->sumN (λj=>p.a r j*y j) p.n<=p.b r
theorem qj (g:Nat->Nat->Rat)(n:Nat):∀m,sumN (λr=>sumN (λj=>g r j) n) m=sumN (λj=>sumN (λr=>g r j) m) n
|0=>(sumN_zero λ_ _=>rfl).symm
|m+1=>by
  show sumN (λr=>sumN (λj=>g r j) n) m+sumN (λj=>g m j) n=_;rw[qj g n m,<- sumN_add];rfl
theorem sumN_mono {g h:Nat->Rat}{n:Nat}(e:∀j,j<n->g j<=h j):sumN g n<=sumN h n:=by
 have h1:sumN (λj=>g j + -1*h j) n<=0:=zU λj a=>by have:=e j a;grind
 rw[sumN_add,sumN_mul]at h1;grind
section
variable {p:Sys} {cc:Nat->Rat} {k:Nat} {du pt ra:Nat->Rat} {val:Rat}
theorem InfR.not (h:InfR p k du):¬ p.Hold:=by
 rintro ⟨y,hy⟩;have h1:sumN (λr=>du r*sumN (λj=>p.a r j*y j) p.n) p.m<=sumN (λr=>du r*p.b r) p.m:=sumN_mono λr hr=>Vj (hy r hr) (h.pos r);have h2:sumN (λr=>du r*sumN (λj=>p.a r j*y j) p.n) p.m=0:=by
  have c:sumN (λr=>du r*sumN (λj=>p.a r j*y j) p.n) p.m=sumN (λr=>sumN (λj=>du r*(p.a r j*y j)) p.n) p.m:=sumN_congr λr _=>(sumN_mul _ _ _).symm;rw[c,qj];refine sumN_zero λj d=>?_;have e:sumN (λr=>du r*(p.a r j*y j)) p.m=y j*sumN (λr=>du r*p.a r j) p.m:=by
   rw[<- sumN_mul];exact sumN_congr λr _=>by grind
  rw[e,h.fac j d];grind
 have h3:=h.bnd;grind
end
end Go.Jog.Lp
namespace Go.Jog
open Go
theorem XX {F:Fx}{c:Fr}{C:Mem}{L:List Ent}{p q r s b t:Nat}{l:List Value}{o:TypeId}{z:Nat × Nat}{f:TI}{x y u v:Value}(A:Ent.obj b (.cells ⟨l⟩ o z)∈L)(B:Z7 F.fn.results (#[.tmp p,.cell r t,.tmp q,.tmp s]) (ev c [] (.tmp p)) (some x) (ev c [] (.tmp q)) (some y) (ev c [] (.tmp r)) (some (p_ b)) (ev c [] (.tmp s)) (some u) (F.cx.T.get t) (some f) (cJ f (l.take f.size)) (some v))(h:F.post (.tuple #[x,v,y,u]) C [])(m:F.ends:=by exact⟨λ_ _ _ h=>h,rfl⟩):G F [] .ret c C L:=have ⟨D,hp,E,hr,hs,ht,H⟩:=B;λ_ a w d n=>by
 refine m.kq ?_;have g:=bP d (λp hp=>by cases hp) hp;have i:=bP d (λp hp=>by cases hp) E;have j:=bP d (λp hp=>by cases hp) hr;have k:=bP d (λp hp=>by cases hp) hs;simp only[Act.eval]at g i j k;refine bodyPost_ret (v:=.tuple #[x,v,y,u]) ?_ (d.defers.trans m.2) ⟨_,C,[],U,St.dropAll n,h⟩;have I:=fD (F:=F) ht (n.sep.e _ A) H;simp only[TM]at g i j k;simp[results,D,g,i,j,k,asAddr,I]
end Go.Jog
namespace Go.Jog.Lp
section
variable {p:Sys} {cc:Nat->Rat} {k:Nat} {du pt ra:Nat->Rat} {vv:Rat}
def Sys.At (p:Sys)(y:Nat->Rat):Prop:=∀r,r<p.m->sumN (λj=>p.a r j*y j) p.n<=p.b r
theorem OptR.least (h:OptR p cc k vv pt du){y:Nat->Rat}(c:p.At y):vv<=sumN (λj=>cc j*y j) p.n:=by
 have h1:sumN (λr=>du r*sumN (λj=>p.a r j*y j) p.n) p.m<=sumN (λr=>du r*p.b r) p.m:=sumN_mono λr hr=>Vj (c r hr) (h.pos r);have h2:sumN (λr=>du r*sumN (λj=>p.a r j*y j) p.n) p.m=-1*sumN (λj=>cc j*y j) p.n:=by
  have d:sumN (λr=>du r*sumN (λj=>p.a r j*y j) p.n) p.m=sumN (λr=>sumN (λj=>du r*(p.a r j*y j)) p.n) p.m:=sumN_congr λr _=>(sumN_mul _ _ _).symm;rw[d,qj,<- sumN_mul];refine sumN_congr λj e=>?_;have f:sumN (λr=>du r*(p.a r j*y j)) p.m=y j*sumN (λr=>du r*p.a r j) p.m:=by
   rw[<- sumN_mul];exact sumN_congr λr _=>by grind
  rw[f,h.fac j e];grind
 have h3:=h.bnd;grind
theorem UnbR.hold (h:UnbR p cc k pt ra):p.Hold:=⟨pt,h.row⟩
theorem UnbR.below (h:UnbR p cc k pt ra)(M:Rat):∃y,p.At y/\sumN (λj=>cc j*y j) p.n<M:=by
 let⟨f,b⟩:∃f,sumN (λj=>cc j*ra j) p.n=f:=⟨_,rfl⟩;let⟨v,d⟩:∃v,sumN (λj=>cc j*pt j) p.n=v:=⟨_,rfl⟩;have g:=h.fall;rw[b]at g;have c:∀t:Rat,0<=t->v+t*f<M->∃y,p.At y/\sumN (λj=>cc j*y j) p.n<M:=λt ht hm=>by
  refine⟨λj=>pt j+t*ra j,λr hr=>?_, ?_⟩
  .have e:sumN (λj=>p.a r j*(pt j+t*ra j)) p.n=sumN (λj=>p.a r j*pt j) p.n+t*sumN (λj=>p.a r j*ra j) p.n:=by
    rw[<- sumN_mul,<- sumN_add];exact sumN_congr λj _=>by grind
   have h1:=h.row r hr;have h2:=Vj (h.ray r hr) ht;show sumN (λj=>p.a r j*(pt j+t*ra j)) p.n<=_;rw[e];grind
  have e:sumN (λj=>cc j*(pt j+t*ra j)) p.n=v+t*f:=by
   rw[<- b,<- d,<- sumN_mul,<- sumN_add];exact sumN_congr λj _=>by grind
  show sumN (λj=>cc j*(pt j+t*ra j)) p.n<M;rw[e];exact hm
 by_cases i:v<M
 .exact c 0 dc_ (by grind)
 refine c ((v-M+1) / (-f)) ?_ ?_
 .have h1:0<=v-M+1:=by grind
  have h2:0<=(-f)⁻¹:=by
   have:0<(-f)⁻¹:=Rat.inv_pos.2 (by grind);grind
  rw[Rat.div_def];exact Rat.mul_nonneg h1 h2
 have l:f≠0:=by grind
 have:(v-M+1) / (-f)*f=-(v-M+1):=by grind
 rw[this];grind
def Val (p:Sys)(cc:Nat->Rat)(kd:Int)(v:Rat):Prop :=
 (kd=1/\(∃y,p.At y/\sumN (λj=>cc j*y j) p.n=v)/\∀y,p.At y->v<=sumN (λj=>cc j*y j) p.n)∨(kd=2/\¬ p.Hold)∨(kd=3/\p.Hold/\∀M,∃y,p.At y/\sumN (λj=>cc j*y j) p.n<M)
theorem OptR.val (h:OptR p cc k vv pt du):Val p cc 1 vv:=.inl ⟨rfl,⟨pt,h.row,h.wor⟩,λ_ hy=>h.least hy⟩
theorem InfR.val (h:InfR p k du)(v:Rat):Val p cc 2 v:=.inr (.inl ⟨rfl,h.not⟩)
theorem UnbR.val (h:UnbR p cc k pt ra)(v:Rat):Val p cc 3 v:=.inr (.inr ⟨rfl,h.hold,h.below⟩)
theorem Val.same {a d:Int}{v b:Rat}(h:Val p cc a v)(m:Val p cc d b):a=d/\(a=1->v=b):=by
 rcases h with⟨rfl,⟨y,hy,e⟩,f⟩|⟨rfl,g⟩|⟨rfl,hh,n⟩ <;> rcases m with⟨rfl,⟨i,j,s⟩,k⟩|⟨rfl,l⟩|⟨rfl,o,q⟩
 .refine⟨U,λ_=>?_⟩;have h1:=f i j;have h2:=k y hy;grind
 .exact absurd ⟨y,hy⟩ l
 .let⟨z,c,r⟩:=q v;have:=f z c;grind
 .exact absurd ⟨i,j⟩ g
 .exact⟨U,λh=>absurd h dc_⟩
 .exact absurd o g
 .let⟨z,c,r⟩:=n b;have:=k z c;grind
 .exact absurd hh l
 exact⟨U,λh=>absurd h dc_⟩
end
end Go.Jog.Lp
namespace Go.Jog
def ltP (x y:Nat × Nat):Prop:=x.1<y.1∨x.1=y.1/\x.2<y.2
theorem FU {c:Type}{r:c->c->Prop}(d:∀a,¬ r a a)(i:∀a b,r a b->r b a->False){l m:List c}(f:l.Pairwise r)(g:m.Pairwise r)(h:∀x,x∈l ↔ x∈m):l=m:=by
 have n1:l.Nodup:=f.imp fun {a b} h e=>by subst e;exact d _ h
 have n2:m.Nodup:=g.imp fun {a b} h e=>by subst e;exact d _ h
 exact((List.perm_ext_iff_of_nodup n1 n2).2 h).eq_of_pairwise (le:=r) (λa b _ _ h1 h2=>(i a b h1 h2).elim) f g
theorem AJ (a:Nat × Nat):¬ ltP a a:=by unfold ltP;omega
theorem Lo (a b:Nat × Nat)(h:ltP a b)(k:ltP b a):False:=by unfold ltP at *;omega
def Dm (n:Nat):List (Nat × Nat):=(List.range n).flatMap λa=>((List.range n).filter λb=>a<b).map λb=>(a,b)
theorem HI:∀n,n<=6->(Dm n).length<=15/\(n<=4->(Dm n).length<=6):=by decide
theorem H4 {n:Nat}{e:Nat × Nat}(h:e.1<e.2)(a:e.2<n):e∈Dm n:=by
 refine List.mem_flatMap.2 ⟨e.1,S7.2 om_,SL.2 ⟨e.2,Uf.2 ⟨S7.2 a,by simpa using h⟩,U⟩⟩
theorem K5 {n:Nat}{c:List (Nat × Nat)}(f:n<=6)(g:c.Pairwise ltP)(h:∀e∈c,e.1<e.2/\e.2<n):c.length<=15/\(n<=4->c.length<=6):=by
 have n1:c.Nodup:=g.imp fun {a b} h e=>by subst e;exact AJ _ h
 have h1:=List.Nodup.length_le_of_subset n1 (l₂:=Dm n) λe d=>H4 (h e d).1 (h e d).2;have h2:=HI n f;exact⟨by omega,λh4=>by have:=h2.2 h4;omega⟩
end Go.Jog
namespace Go.Jog
open Go
section
variable {P:Program} {ops:Array Oper} {ι:Type} {cls:ι->World->Prop} {le:ι->ι->Prop} {md:Region.Mode}
def ordB (md:Region.Mode)(ops:Array Oper):List Nat->List Nat->Bool
|_,[]=>true
|done,i::r=>(match ops[i]? with
 |some o=>o.after.all λe=>!Region.binds md e || done.contains e.on
 |none=>false) && ordB md ops (i::done) r
end
end Go.Jog
namespace Go.Jog
open Go
def depB (l:List Oper)(rest:List Nat)(rd:List (Nat × List Nat)):Bool:=rd.all λx=>x.2.all λj=>rest.contains j && lS .any l.toArray l.toArray.size x.1 j
end Go.Jog
namespace Go.Jog
open Go
structure AL where
 a:Nat
 st:Nat
 y:Nat
 t:TypeId
 z:List Value
end Go.Jog
namespace Go.Jog
open Go
variable {C:Mem}{F:Fx}{L:List Ent}{fr:Fr}{t:Nat}{v:Value}
theorem Y2 {p r b:Nat}{d:List Value}{l:TypeId}{m:Nat × Nat}{f:TI}{x:Value}(j:Nat)(n:L[j]?=some (.obj b (.cells ⟨d⟩ l m)))(s:F.fn.results=#[.cell r t,.tmp p])
  (c:ev fr [] (.tmp p)=some x) (u:ev fr [] (.tmp r)=some (p_ b))
  (y:F.cx.T.get t=some f) (z:cJ f (d.take f.size)=some v) (h:F.post (.tuple #[v,x]) C (L.eraseIdx j)) (o:F.ends:=by exact⟨λ_ _ _ h=>h,rfl⟩):G F [] .ret fr C L:=λ_ a w g q=>by
 refine o.kq ?_;have i:=bP g (λp c=>by cases c) c;have k:=bP g (λp c=>by cases c) u;simp only[Act.eval]at i k;have hm:Ent.obj b (.cells ⟨d⟩ l m)∈L:=aK n;refine bodyPost_ret (v:=.tuple #[v,x]) ?_ (g.defers.trans o.2) ⟨_,C,_,U,St.drop (St.perm q (ax n)),h⟩;have A:=fD (F:=F) y (q.sep.e _ hm) z;simp only[TM]at i k;simp[results,s,i,k,asAddr,A]
theorem XY {k:List KI}{e:Exit}{b a:Nat}{d:List Value}(f:Ent.arr v t b a d∈L)(h:∀A c,v=.slice A a c->(0<a->∃g,A=some ⟨g,0,none⟩)->G F k e fr C L):G F k e fr C L :=
 G.form f λi _=>by
  rcases i with⟨h1,h2⟩|⟨g,c,h1,_,_⟩
  .exact h none 0 (by rw[h1,h2]) om_
  exact h _ c h1 (λ_=>⟨g,U⟩)
end Go.Jog
