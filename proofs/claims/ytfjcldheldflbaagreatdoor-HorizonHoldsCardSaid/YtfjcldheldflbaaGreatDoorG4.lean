/- Laws that the proofs of this seat share, part 4. -/
import Derived.Test.YtfjcldheldflbaaGreatDoorG3
import Derived.Lib.AppendZeros
namespace Go.Jog
open Go Go.MapKept
section
variable {cx:Cx} {n:Nat} {ds:List (Option Nat)} {R:Rg n ds} {its:List It} {fr:Fr} {C:Mem} {L:List Ent} {i k d:Nat} {o:Oper} {g:GL} {v:Value}
variable {κ:Type} (enc:κ->Value)
theorem D9 {P:Program}{T:Tab}(d:oK P T=true){t e f:Nat}{c:TI}(g:T.get t=some c)(h:c.k=.map e f){a:Act}{o:Oper}{x:Operand}{b:Nat}{m:List (κ × Value)}(i:o.op=.call ⟨.builtin .len,#[x],#[t]⟩)(j:a.eval x=.map (some b)){w:World}(l:w.heap[b]?=some (aY enc m)) :
  (execOp a.eval o).run P w=.ok (.value (i_ (m.length:Nat))) w:=by
 have n:=gX d g h;have p:execOp a.eval o=(do let dd <- resolve a.eval ⟨.builtin .len,#[x],#[t]⟩ o.type;invoke dd.target dd.args:Sem Next):=by unfold execOp;rw[i]
 have h1:(getObj b).run P w=.ok (.map ⟨bI enc m 0⟩ m.length) w:=Go.MapKept.run_getObj_map l;have q:(Builtin.len_ #[t] o.type #[.map (some b)]).run P w=.ok (i_ (m.length:Nat)) w:=by
  simp[Builtin.len_,run_underlying n,h1,oo,goInt]
 rw[p];simp only[resolve,invoke,builtin,Sem.run_bind,Sem.run_pure,Result.andThen_ok,Ts,R6,Tm,j,q]
theorem W0 {b t j l:Nat}{x:Operand}{m:List (κ × Value)}{c:TI}(p:Ent.obj b (aY enc m)∈L)(f:k=1)(q:o.dst=some d)(r:o.op=.call ⟨.builtin .len,#[x],#[t]⟩)(s:gOf ds fr o.guard=some g)(u:ev fr g x=some (.map (some b)))
  (v:cx.T.get t=some c) (y:c.k=.map j l) (z:aX n ds ((d,g,i_ (m.length:Nat))::fr) d=true) (A:wfG ds fr g=true)
  (h:D cx R its ((d,g,i_ (m.length:Nat))::fr) C L):D cx R ((i,k,o)::its) fr C L :=
 VQ (by subst f;rfl) q s z A (fun _ a hs G B w E=>by
  have F:w.heap[b]?=some (aY enc m):=E.sep.e _ ((B f).2 _ p);unfold Oper.quietAt;rw[D9 enc cx.hT v y r (hs _ _ u) F];exact⟨U,U⟩) h
end
end Go.Jog
namespace Go.Jog
open Go Go.MapKept
variable {C:Mem}{b:Nat}{cs:List Value}{f first:Int}{k:Nat}{out:List Int}{p q:Int}{seen:List Nat}{t:TypeId}
def keyZ:KeyT (.int .i64) Int where
 enc z:=.int .i64 z
 isKey _:=rfl
 same a b:=by
  simp only[Instr.sameNow,Tu];congr 1
section
variable {κ β:Type} [DecidableEq κ]
theorem cC:∀ {m:List (κ × β)}{k:κ},dY m k=none ↔ k ∉ m.map (·.1)
|[],k=>by simp[dY]
|(a,v)::m,k=>by
  simp only[dY,R6,RC,not_or];by_cases h:a=k
  ·simp[h]
  rw[aF h,cC (m:=m)];exact⟨fun h2=>⟨fun e=>h e.symm,h2⟩,fun h2=>h2.2⟩
theorem jZ:∀ {m:List (κ × β)}{k:κ}{v:β},dY m k=none->iO m k v=m++[(k,v)]
|[],k,v,_=>rfl
|(b,c)::m,k,v,h=>by
  simp only[dY]at h;split at h
  ·cases h
  rename_i a;simp only[iO,aF a,Tg,jZ h]
theorem gt:∀ {m:List (κ × β)}{k:κ}{v:β},dY m k=some v->(k,v)∈m
|(a,b)::m,k,v,h=>by
  simp only[dY]at h;split at h
  ·rename_i e;cases h;subst e;exact Rq
  exact RB _ (gt h)
theorem fR:∀ {m:List (κ × β)}{k:κ}{v:β},(m.map (·.1)).Nodup->(k,v)∈m->dY m k=some v
|(b,c)::m,k,v,a,h=>by
  simp only[R6,UO]at a;rcases RC.1 h with h|h
  ·cases h;simp[dY]
  have:b≠k:=fun e=>a.1 (e ▸ TA (f:=(·.1)) h);simp only[dY,aF this];exact fR a.2 h
theorem xU {m a:List (κ × β)}(h:m.Perm a)(c:(m.map (·.1)).Nodup)(k:κ):dY m k=dY a k:=by
 have d:(a.map (·.1)).Nodup:=(h.map (·.1)).nodup_iff.1 c;cases b:dY m k with
|some v=>exact(fR d (h.mem_iff.1 (gt b))).symm
|none =>
  cases e:dY a k with
 |none=>rfl
 |some v=>rw[fR c (h.mem_iff.2 (gt e))]at b;cases b
end
abbrev fE:=Int × Int
def oB (s:fE):fE:=(s.2,s.1)
def jB (ks:List fE)(s:fE):Bool:=!(decide (oB s∈ks))
def uO (B:List fE):List (Int × Value):=B.map fun s=>(s.1,.int .i64 s.2)
theorem CK (B:List fE):(uO B).length=B.length:=by simp[uO]
theorem ii (B:List fE)(p:Int):dY (uO B) p=(dY B p).map (.int .i64):=CO (fun z:Int=>i_ z) B p
theorem CJ {B:List fE}(h:dY B p=none):iO (uO B) p (i_ q)=uO (B++[(p,q)]):=by
 rw[jZ (by rw[ii,h];rfl)];simp[uO]
def mq (B:List fE)(f:Int):Prop:=(B=[]/\f=-1)∨(0<=f/\f∈B.map (·.1)/\∀ s∈B,f<=s.1)
def HZ (B:List fE):Int:=B.foldl (fun f s=>if f<0∨s.1<f then s.1 else f) (-1)
theorem qR {B:List fE}(h:mq B f)(s:fE)(b:0<=s.1):mq (B++[s]) (if f<0∨s.1<f then s.1 else f):=by
 right;rcases h with⟨rfl,rfl⟩|⟨h1,h2,h3⟩
 ·rw[aM (.inl dc_)];exact⟨b,by simp,by simp⟩
 by_cases c:s.1<f
 ·rw[aM (.inr c)];refine⟨b,by simp,fun t a=>?_⟩;rcases RF.1 a with a|a
  ·have:=h3 t a;omega
  rw[RK.1 a];exact Int.le_refl _
 rw[aF om_];refine⟨h1,by rw[R3];exact Td _ h2,fun t a=>?_⟩;rcases RF.1 a with a|a
 ·exact h3 t a
 rw[RK.1 a];omega
theorem yd {B:List fE}(h:∀ s∈B,0<=s.1):mq B (HZ B):=by
 have c:∀ (a b:List fE)(f:Int),(∀ s∈a,0<=s.1)->mq b f->mq (b++a) (a.foldl (fun f s=>if f<0∨s.1<f then s.1 else f) f):=by
  intro a;induction a with
 |nil=>intro b f _ h;simpa using h
 |cons s a d =>
   intro b f h1 h2;have:=d (b++[s]) _ (fun t e=>h1 t (RB _ e)) (qR h2 s (h1 s Rq));simpa using this
 exact c B [] (-1) h (.inl ⟨U,U⟩)
theorem zX {B d:List fE}{e:Int}(c:B.Perm d)(h:mq B f)(g:mq d e):f=e:=by
 rcases h with⟨rfl,rfl⟩|⟨h1,h2,h3⟩
 ·rcases g with⟨_,rfl⟩|⟨_,h5,_⟩
  ·rfl
  rw[<- c.nil_eq]at h5;simp at h5
 rcases g with⟨rfl,_⟩|⟨h4,h5,i⟩
 ·rw[c.eq_nil]at h2;simp at h2
 obtain⟨s,hs,rfl⟩:=Rs.1 h2;obtain⟨t,j,rfl⟩:=Rs.1 h5;have a:=h3 t (c.mem_iff.2 j);have b:=i s (c.mem_iff.1 hs);omega
def iR (B:List fE)(first:Int):Nat->Int->List Int->Option (List Int)
|0,_,out=>some out
|k+1,p,out=>match dY B p with
 |none=>none
 |some q=>if p=first/\out≠[] then none else iR B first k q (out++[p])
theorem sn {B a:List fE}(c:B.Perm a)(d:(B.map (·.1)).Nodup)(b:Int):∀ (k:Nat)(p:Int)(out:List Int),iR B b k p out=iR a b k p out
|0,_,_=>rfl
|k+1,p,out=>by
  simp only[iR,xU c d];cases dY a p with
 |none=>rfl
 |some q=>simp only[sn c d b k]
def Fk (ks:List fE):Option (List Int) :=
 if ((ks.filter (jB ks)).map (·.1)).Nodup then iR (ks.filter (jB ks)) (HZ (ks.filter (jB ks))) (ks.filter (jB ks)).length (HZ (ks.filter (jB ks))) [] else none
def xI (ks:List fE):List Int:=(Fk ks).getD []
theorem En {a B:List fE}{s t:fE}(b:(B++[s]).Nodup)(c:∀ x∈B++[s],x∈a.filter (jB a))(d:t∈B)(e:t.1=s.1):Fk a=none:=by
 unfold Fk;rw[aF];intro f;have h1:=c s ak;have h2:=c t (by simp[d]);have g:t≠s:=by
  rintro rfl;rw[S1]at b;exact b.2.2 t d t ak U
 have h3:=fR f (k:=s.1) (v:=s.2) h1;have h4:=fR f (k:=t.1) (v:=t.2) h2;rw[e,h3]at h4;exact g (Prod.ext e (Sx h4).symm)
theorem Kn {a B:List fE}(b:B.Perm (a.filter (jB a)))(c:(B.map (·.1)).Nodup)(d:∀ s∈a,0<=s.1)(e:mq B f):Fk a=iR B f B.length f []:=by
 unfold Fk;rw[aM ((b.map (·.1)).nodup_iff.1 c),<- sn b c,<- b.length_eq,<- zX b e (yd fun s hs=>d s (SY.1 hs).1)]
theorem DM {B:List fE}(h:dY B p=none∨(p=first/\out≠[])):iR B first (k+1) p out=none:=by
 simp only[iR];rcases h with h|h
 ·rw[h]
 cases dY B p with
|none=>rfl
|some q=>simp[h]
theorem DL {B:List fE}(h:dY B p=some q)(a:¬ (p=first/\out≠[])):iR B first (k+1) p out=iR B first k q (out++[p]):=by
 simp only[iR,h];rw[aF a]
def fB (ks:List fE)(seen:List Nat):List fE:=(seen.map fun j=>ks.getD j (0,0)).filter (jB ks)
theorem pT {b:Type}{d:b}{a:List b}(c:seen.Nodup)(e:∀ j∈seen,j<a.length)(f:∀ j,j<a.length->j∈seen):(seen.map fun j=>a.getD j d).Perm a:=by
 have g:seen.Perm (List.range a.length):=(List.perm_ext_iff_of_nodup c List.nodup_range).2 (fun j=>by
  rw[RL];exact⟨fun h=>e j h,fun h=>f j h⟩)
 refine(g.map _).trans (List.Perm.of_eq ?_);refine List.ext_getElem? (fun i=>?_);rw[Rr];rcases RS i a.length with h|h
 ·rw[RY h];simp[ai h]
 rw[Rx (by simpa using h),Rx h];rfl
theorem D7 {a:List fE}{j:Nat}{s:fE}(h:a[j]?=some s):fB a (seen++[j])=fB a seen++if jB a s then [s] else []:=by
 unfold fB;rw[R3,S4];congr 1;rw[R6,Tm,am,h,List.filter_cons];rfl
theorem Gc {a:List fE}(c:∀ j∈seen,j<a.length):∀ x∈fB a seen,x∈a.filter (jB a):=by
 intro x b;rw[fB,SY]at b;obtain⟨j,d,rfl⟩:=Rs.1 b.1;rw[SY];refine⟨?_,b.2⟩;rw[am,ai (c j d)];exact Sj _
theorem zA {c:List fE}(f:c.Nodup):∀ {seen:List Nat},seen.Nodup->(∀ j∈seen,j<c.length)->(fB c seen).Nodup:=by
 intro seen g d;unfold fB;refine List.Pairwise.filter _ ?_;rw[List.pairwise_map];refine List.Pairwise.imp_of_mem ?_ g;intro a b h i k e;rw[am,am,ai (d a h),ai (d b i)]at e;exact k ((List.getElem_inj f).1 e)
theorem PtrTo.blockT {e:Nat × Nat}(h:C b=some (.cells ⟨cs⟩ t e))(d n:Nat):PtrTo C (.pointer (some ⟨b,d,none⟩)) ((cs.drop d).take n) :=
 let ⟨a,h1,h2,h3⟩:=PtrTo.block h d
 ⟨a,h1,h2,fun j v c=>h3 j v (by
  rw[Sg]at c;split at c
  ·exact c
  cases c)⟩
theorem bkT {D:Mem}{c:Nat × Nat}(h:C b=some (.cells ⟨cs⟩ t c))(n:Nat){a:Nat}(d:C.le D:=by(repeat (first|exact Mem.le.refl _|assumption|(apply Mem.le.trans;rotate_left;assumption)))):PtrTo D (.pointer (some ⟨b,a,none⟩)) ((cs.drop a).take n):=PtrTo.blockT (Mem.get h d) a n
theorem mi (z:Value)(o:Option Value):mj z true o=.tuple #[o.getD z,.bool o.isSome]:=by cases o <;> rfl
section
variable {F:Fx} {k:List KI} {fr:Fr} {C:Mem} {L:List Ent}
theorem Xa {e:Exit}{v:Value}{t b a:Nat}{d:List Value}(i:Ent.arr v t b a d∈L)(h:∀ A c,v=.slice A a c->d.length=a*b->a<=c->c<=maxLen->G F k e fr C L):G F k e fr C L :=
 G.form i fun j f=>by
  rcases j with⟨h1,h2⟩|⟨g,c,h1,h2,h3⟩
  ·exact h none 0 (by rw[h1,h2]) f om_ (Rv _)
  exact h _ c h1 f h2 h3
end
end Go.Jog
namespace Go.Jog
open Go
section
variable {cx:Cx} {n:Nat} {ds:List (Option Nat)} {R:Rg n ds} {its:List It} {fr:Fr} {C:Mem} {L:List Ent} {i k d:Nat} {o:Oper} {g:GL} {v:Value}
theorem Xq {t E e F j m:Nat}{x y:Operand}{M N b:TI}{p l:Value}{z:List Value}{g:List (List Value)}(hk:k=3)(hd:o.dst=some d)(hg:gOn ds fr o.guard=true)
  (ar:o.op=.call ⟨.builtin .append,#[x,y],#[t,E]⟩) (au:cx.T.get E=some N) (Y:N.k=.slice F) (ht:cx.T.get t=some M) (Z:M.k=.slice e) (he:cx.T.get e=some b) (aa:Nat.beq b.size 0=false)
  (hx:ev fr [] x=some l) (hy:ev fr [] y=some p) (hm:L[j]?=some (.arr l e b.size m z)) (av:Sl C b.size p g) (s:g.all (fun r=>r.all lG)=true)
  (aw:m+g.length<=maxLen) (ax:(m+g.length)*b.bytes<=140737488355328) (hp:∀ v,aX n ds ((d,[],v)::fr) d=true)
  (h:∀ A n c,D cx R its ((d,[],.slice A n c)::fr) C (.arr (.slice A n c) e b.size (m+g.length) (z++g.flatten)::L.eraseIdx j)):D cx R ((i,k,o)::its) fr C L:=by
 have B:cx.P.underlying t=some (.slice e):=by
  obtain⟨kk,s1,b1,z1,g1⟩:=M;simp only at Z;subst Z;exact bX cx.hT ht
 have ay:cx.P.underlying E=some (.slice F):=by
  obtain⟨kk,s1,b1,z1,g1⟩:=N;simp only at Y;subst Y;exact bX cx.hT au
 obtain⟨inf,G,O,az,hz,aP⟩:=(dS cx.hT he).info;have ab:0<b.size:=Tr (fun e=>by rw[e]at aa;cases aa);obtain⟨A,c,ac,aQ,aR,H,ae⟩:=av
 -- the zero's size is the type's
 refine VP (S:=fun f C' L'=>(∃ A n c,f=.slice A n c)/\C'=C/\L'=.arr f e b.size (m+g.length) (z++g.flatten)::L.eraseIdx j) (by subst hk;rfl) hd hg hp (fun a hs w _ hw=>?_) (fun f C' L' _ ⟨⟨A,n',c,e0⟩,Q,F⟩=>by subst e0;subst Q;subst F;exact h A n' c);have af:=St.perm hw (al hm);have I:w.ownsRow 0 e b.size l m z:=af.sep.e _ (Rq ..);have aA:∀ u∈g.flatten,u.oneCell'=true:=fun u B=>by
  obtain⟨r,hr,aB⟩:=List.mem_flatten.1 B;exact gK (RI.1 (RI.1 s r hr) u aB)
 have aC:∃ f w',(Builtin.append_ #[t,t] o.type #[l,p]).run cx.P w=.ok f w'/\w'.ownsRow 0 e b.size f (m+g.length) (z++g.flatten)/\w.grownBy w' l.ownBlock/\(f.ownBlock=l.ownBlock∨f.ownBlock=some w.heap.size):=by
  cases g with
 |nil =>
   refine⟨l,w, ?_,by simpa using I,⟨U,U,U,Ro _,fun _ _ _=>rfl⟩,.inl U⟩;have aD:p=.slice A 0 c:=ac;rw[aD];have ag:∀ (W:World),(Builtin.firstCells b.size 0 (.slice A 0 c)).run cx.P W=.ok #[] W:=fun W=>by
    cases A <;> simp[Builtin.firstCells,loadCells,loadCellsFrom]
   rcases I.2 with⟨rfl,rfl⟩|⟨g0,ah,aj,rfl,_,_,aE,_⟩
   ·simp[Builtin.append_,run_underlying B,sizeOf,typeInfo,G,O,Builtin.lenOf,ag]
   simp[Builtin.append_,run_underlying B,sizeOf,typeInfo,G,O,Builtin.lenOf,ag,aE,storeCells]
 |cons r rs =>
   obtain⟨ad,hA,aS,_⟩:=ae 0 r ak;subst hA;have aF:∀ (q:Nat)(u:Value),(r::rs).flatten[q]?=some u->w.cell? (ad.add q)=some u:=fun q u hq=>by
    have aG:q<(r::rs).length*b.size:=by rw[<- aK H];exact(aJ.1 hq).1
    have am:q / b.size<(r::rs).length:=Uc (by rw[R8];exact aG);have an:(r::rs)[q / b.size]?=some (r::rs)[q / b.size]:=ai am;have aH:q % b.size<((r::rs)[q / b.size]).length:=by rw[H _ (Sj am)];exact R9 _ ab
    have ao:=ai aH;have ap:=getElem?_flatten_rows H an ao;have aq:q / b.size*b.size+q % b.size=q:=by rw[R8];exact T4 q b.size
    rw[aq,hq]at ap;obtain⟨aT,h3,h4,h5⟩:=ae _ _ an;cases h3
    have:=h5 _ _ ao;rw[aq]at this;rw[ap];exact this.cell hw.sep
   have aI:b.zv.cells.size=b.size:=(dS cx.hT he).zsize;obtain⟨f,w',J,K,V,_,X⟩:=run_append_own_at (P:=cx.P) w 0 t o.type e inf b.zv b.size b.bytes B G hz O az aI ab l m z I ad (r::rs).length c (r::rs).flatten (aK H) aF aA aw ax (Rv _);exact⟨f,w',by rw[ac];exact J,K,V,X⟩
 obtain⟨f,w',J,K,V,X⟩:=aC;have aL:(Builtin.append_ #[t,E] o.type #[l,p]).run cx.P w=(Builtin.append_ #[t,t] o.type #[l,p]).run cx.P w:=by
  rcases I.2 with⟨s,_⟩|⟨g0,ah,aj,s,_⟩ <;> rw[s] <;> simp[Builtin.append_,run_underlying B,run_underlying ay,sizeOf,typeInfo,G]
 have aM:=aL.trans J;have aN:(execOp a.eval o).run cx.P w=.ok (.value f) w':=by
  have Q:execOp a.eval o=(do let dd <- resolve a.eval ⟨.builtin .append,#[x,y],#[t,E]⟩ o.type;invoke dd.target dd.args:Sem Next):=by unfold execOp;rw[ar]
  rw[Q];simp only[resolve,invoke,builtin,Sem.run_bind,Sem.run_pure,Result.andThen_ok,Ts,R6,Tm,hs _ _ hx,hs _ _ hy,aM]
 unfold Oper.wp;rw[aN];have aO:∃ A n c,f=.slice A n c:=by
  rcases K.2 with⟨s,_⟩|⟨g0,ah,aj,s,_⟩
  ·exact⟨_,_,_,s⟩
  exact⟨_,_,_,s⟩
 exact⟨f,C,_,U,Mem.le.refl _,fun h2=>by omega,St.turn af K V (bU _ J) (X.elim .inl (fun h=>.inr (.inl h))),aO,U,U⟩
theorem Xu {t c e u j m:Nat}{x y:Operand}{f g a:TI}{p l:Value}{q:List Value}{b:List (List Value)}(w:k=3)(z:o.dst=some d)(A:gOn ds fr o.guard=true)
  (B:o.op=.call ⟨.builtin .append,#[x,y],#[t,c]⟩) (E:cx.T.get c=some g) (F:g.k=.slice u) (G:cx.T.get t=some f) (H:f.k=.slice e) (I:cx.T.get e=some a) (J:Nat.beq a.size 0=false)
  (K:ev fr [] x=some l) (M:ev fr [] y=some p) (N:L[j]?=some (.arr l e a.size m q)) (O:Sl C a.size p b) (P:b.all (fun r=>r.all lG)=true)
  (Q:m+b.length<=maxLen) (S:(m+b.length)*a.bytes<=140737488355328) (U:∀ v,aX n ds ((d,[],v)::fr) d=true)
  (h:∀ s,D cx R its ((d,[],s)::fr) C (.arr s e a.size (m+b.length) (q++b.flatten)::L.eraseIdx j)):D cx R ((i,k,o)::its) fr C L :=
 Xq w z A B E F G H I J K M N O P Q S U (fun _V _W _X=>h _)
end
end Go.Jog
namespace Go.Jog.Lp
variable {N i j:Nat}{os:List Nat}{r s v:Nat}{x:Nat->Rat}
def sumN (g:Nat->Rat):Nat->Rat
|0=>0
|n+1=>sumN g n+g n
theorem sumN_congr {g h:Nat->Rat}:∀ {n:Nat},(∀ j,j<n->g j=h j)->sumN g n=sumN h n
|0,_=>rfl
|n+1,e=>by rw[sumN,sumN,sumN_congr fun j a=>e j om_,e n om_]
theorem sumN_add (g h:Nat->Rat):∀ n:Nat,sumN (fun j=>g j+h j) n=sumN g n+sumN h n
|0=>by simp only[sumN];grind
|n+1=>by simp only[sumN];rw[sumN_add g h n];grind
theorem sumN_mul (k:Rat)(g:Nat->Rat):∀ n:Nat,sumN (fun j=>k*g j) n=k*sumN g n
|0=>by simp only[sumN];grind
|n+1=>by simp only[sumN];rw[sumN_mul k g n];grind
theorem sumN_zero:∀ {g:Nat->Rat}{n:Nat},(∀ j,j<n->g j=0)->sumN g n=0
|_,0,_=>rfl
|g,n+1,e=>by rw[sumN,sumN_zero fun j a=>e j om_,e n om_];grind
theorem sumN_at {g:Nat->Rat}{a:Nat}:∀ {n:Nat},a<n->sumN g n=g a+sumN (fun j=>if j=a then 0 else g j) n
|n+1,h=>by
  rcases RS a n with h1|h1
  ·rw[sumN,sumN_at h1,sumN,aF om_];grind
  have e:a=n:=by omega
  subst e;rw[sumN,sumN,aM rfl,sumN_congr (h:=g) fun j b=>aF om_];grind
theorem zr:∀ {g:Nat->Rat}{n:Nat},(∀ j,j<n->g j<=0)->sumN g n<=0
|_,0,_=>by simp only[sumN];grind
|g,n+1,e=>by
  have h1:=zr (g:=g) (n:=n) fun j a=>e j om_;have h2:=e n om_;rw[sumN];grind
theorem sumN_ge:∀ {g:Nat->Rat}{n:Nat},(∀ j,j<n->0<=g j)->0<=sumN g n
|_,0,_=>by simp only[sumN];grind
|g,n+1,e=>by
  have h1:=sumN_ge (g:=g) (n:=n) fun j a=>e j om_;have h2:=e n om_;rw[sumN];grind
structure Line where
 c:Rat
 f:List Rat
def Line.g (l:Line)(j:Nat):Rat:=l.f.getD j 0
structure Tab where
 basic:List Nat
 lines:List Line
 others:List Nat
 worth:Line
def Tab.line (t:Tab)(i:Nat):Line:=t.lines.getD i ⟨0,[]⟩
def Tab.bas (t:Tab)(i:Nat):Nat:=t.basic.getD i 0
def Tab.oth (t:Tab)(j:Nat):Nat:=t.others.getD j 0
def lv (l:Line)(os:List Nat)(x:Nat->Rat):Rat:=l.c+sumN (fun j=>l.g j*x (os.getD j 0)) os.length
structure Tab.Ok (t:Tab)(N:Nat):Prop where
 ll:t.lines.length=t.basic.length
 fl:∀ l∈t.lines,l.f.length=t.others.length
 wl:t.worth.f.length=t.others.length
 nd:(t.basic++t.others).Nodup
 lt:∀ v∈t.basic++t.others,v<N
def Tab.Sol (t:Tab)(x:Nat->Rat):Prop:=∀ i,i<t.basic.length->x (t.bas i)=lv (t.line i) t.others x
def Tab.W (t:Tab)(x:Nat->Rat):Rat:=lv t.worth t.others x
def putL (l:Line)(s:Nat)(b:Line):Line:=⟨l.c+l.g s*b.c,(List.range l.f.length).map fun j=>(if j=s then 0 else l.g j)+l.g s*b.g j⟩
def byL (l:Line)(s:Nat):Line:=⟨-l.c / l.g s,(List.range l.f.length).map fun j=>if j=s then 1 / l.g s else -l.g j / l.g s⟩
def Tab.pivot (t:Tab)(r s:Nat):Tab :=
 { basic:=t.basic.set r (t.oth s),others:=t.others.set s (t.bas r),lines:=(List.range t.lines.length).map fun i=>if i=r then byL (t.line r) s else putL (t.line i) s (byL (t.line r) s),worth:=putL t.worth s (byL (t.line r) s) }
theorem fc {f:Nat->Rat}{n:Nat}(h:j<n):((List.range n).map f).getD j 0=f j:=by
 rw[am,Rr,RY h];rfl
theorem GA {l b:Line}(h:j<l.f.length):(putL l s b).g j=(if j=s then 0 else l.g j)+l.g s*b.g j:=fc h
theorem byL_g {l:Line}(h:j<l.f.length):(byL l s).g j=if j=s then 1 / l.g s else -l.g j / l.g s:=fc h
theorem pS {l:List Nat}(h:s<l.length):(l.set s v).getD j 0=if j=s then v else l.getD j 0:=by
 rw[am,am,List.getElem?_set];by_cases e:s=j
 ·subst e;rw[aM rfl,aM h,aM rfl];rfl
 rw[aF e,aF (Ne.symm e)]
theorem Et {l:Line}(a:s<os.length):lv l os x=l.c+(l.g s*x (os.getD s 0)+sumN (fun j=>if j=s then 0 else l.g j*x (os.getD j 0)) os.length):=by
 unfold lv;rw[sumN_at a]
theorem Hl {l b:Line}(a:s<os.length)(d:l.f.length=os.length) :
  lv (putL l s b) (os.set s v) x=l.c+(l.g s*lv b (os.set s v) x+sumN (fun j=>if j=s then 0 else l.g j*x (os.getD j 0)) os.length):=by
 unfold lv;rw[Sh];have e:sumN (fun j=>(putL l s b).g j*x ((os.set s v).getD j 0)) os.length=sumN (fun j=>l.g s*(b.g j*x ((os.set s v).getD j 0))+(if j=s then 0 else l.g j*x (os.getD j 0))) os.length:=sumN_congr fun j i=>by
  rw[GA om_,pS a];by_cases h:j=s
  ·rw[aM h,aM h,aM h];grind
  rw[aF h,aF h,aF h];grind
 rw[e,sumN_add,sumN_mul];show l.c+l.g s*b.c+_=_;grind
theorem Qa {l:Line}(a:s<os.length)(d:l.f.length=os.length)(b:l.g s≠0) :
  (x v=lv l os x ↔ x (os.getD s 0)=lv (byL l s) (os.set s v) x):=by
 have h2:lv (byL l s) (os.set s v) x=-l.c / l.g s+(1 / l.g s*x v + -1 / l.g s*sumN (fun j=>if j=s then 0 else l.g j*x (os.getD j 0)) os.length):=by
  rw[Et (by rw[Sh];exact a),Sh,byL_g om_,aM rfl,pS a,aM rfl,<- sumN_mul];have e:sumN (fun j=>if j=s then 0 else (byL l s).g j*x ((os.set s v).getD j 0)) os.length=sumN (fun j=>-1 / l.g s*if j=s then 0 else l.g j*x (os.getD j 0)) os.length:=sumN_congr fun j i=>by
   by_cases h:j=s
   ·rw[aM h,aM h];grind
   rw[aF h,aF h,byL_g om_,aF h,pS a,aF h];grind
  rw[e];rfl
 rw[h2,Et a];generalize sumN (fun j=>if j=s then 0 else l.g j*x (os.getD j 0)) os.length=S;generalize l.g s=k at b;constructor <;> intro h <;> grind
theorem line_mem {t:Tab}(h:t.Ok N)(a:i<t.basic.length):t.line i∈t.lines:=by
 unfold Tab.line;rw[am,ai (by rw[h.ll];exact a)];exact Sj _
theorem pivot_line {t:Tab}(a:i<t.lines.length):(t.pivot r s).line i=if i=r then byL (t.line r) s else putL (t.line i) s (byL (t.line r) s):=by
 unfold Tab.line Tab.pivot;rw[am,Rr,RY a];rfl
theorem xy {t:Tab}(h:t.Ok N)(b:r<t.basic.length)(c:s<t.others.length)(m:(t.line r).g s≠0):(t.pivot r s).Sol x ↔ t.Sol x:=by
 have n:=h.fl _ (line_mem h b);have l:=Qa (x:=x) (v:=t.bas r) c n m;have f:∀ i,(t.pivot r s).bas i=if i=r then t.oth s else t.bas i:=fun i=>pS b;have j:(t.pivot r s).others=t.others.set s (t.bas r):=rfl;have k:(t.pivot r s).basic.length=t.basic.length:=Sh;constructor
 ·intro d i a;have h0:=d r (by rw[k];exact b);rw[f,aM rfl,pivot_line (by rw[h.ll];exact b),aM rfl,j]at h0;by_cases e:i=r
  ·subst e;exact l.2 h0
  have h1:=d i (by rw[k];exact a);rw[f,aF e,pivot_line (by rw[h.ll];exact a),aF e,j,Hl c (h.fl _ (line_mem h a)),<- h0]at h1;rw[h1,Et c];rfl
 intro d i a;rw[k]at a;have h0:=l.1 (d r b);rw[f,pivot_line (by rw[h.ll];exact a),j];by_cases e:i=r
 ·rw[aM e,aM e];exact h0
 rw[aF e,aF e,Hl c (h.fl _ (line_mem h a)),<- h0,d i a,Et c]
theorem GJ {t:Tab}(h:t.Ok N)(b:r<t.basic.length)(a:s<t.others.length)(c:(t.line r).g s≠0)(d:t.Sol x):(t.pivot r s).W x=t.W x:=by
 have e:=h.fl _ (line_mem h b);have h0:=(Qa (x:=x) (v:=t.bas r) a e c).1 (d r b);show lv (putL t.worth s (byL (t.line r) s)) (t.others.set s (t.bas r)) x=_;rw[Hl a h.wl,<- h0];unfold Tab.W;rw[Et a]
theorem JQ {a b:List Nat}(c:r<a.length)(d:s<b.length):(a.set r (b.getD s 0)++b.set s (a.getD r 0)).Perm (a++b):=by
 have e:∀ {l:List Nat}{i:Nat}(_:i<l.length)(v:Nat),(v::l).Perm (l.getD i 0::l.set i v):=by
  intro l;induction l with
 |nil=>intro i h;exact absurd h (Nat.not_lt_zero _)
 |cons y l f =>
   intro i h v;cases i with
  |zero=>exact List.Perm.swap _ _ _
  |succ i =>
    have h1:=f (i:=i) (by simpa using h) v;show(v::y::l).Perm (l.getD i 0::y::l.set i v);exact(List.Perm.swap _ _ _).trans ((h1.cons y).trans (List.Perm.swap _ _ _))
 have h1:=e c (b.getD s 0);have h2:=e d (a.getD r 0);have h3:(b.getD s 0::a.getD r 0::(a++b)).Perm (a.getD r 0::b.getD s 0::(a.set r (b.getD s 0)++b.set s (a.getD r 0))):=by
  have g:(b.getD s 0::a.getD r 0::(a++b)).Perm ((b.getD s 0::a)++(a.getD r 0::b)):=by
   refine List.Perm.cons _ ?_;exact List.perm_middle.symm
  have j:=h1.append h2;have k:((a.getD r 0::a.set r (b.getD s 0))++(b.getD s 0::b.set s (a.getD r 0))).Perm (a.getD r 0::b.getD s 0::(a.set r (b.getD s 0)++b.set s (a.getD r 0))):=by
   refine List.Perm.cons _ ?_;exact List.perm_middle
  exact g.trans (j.trans k)
 exact((h3.trans (List.Perm.swap _ _ _)).cons_inv.cons_inv).symm
theorem CD {t:Tab}(h:t.Ok N)(a:r<t.basic.length)(d:s<t.others.length):(t.pivot r s).Ok N:=by
 have b:((t.pivot r s).basic++(t.pivot r s).others).Perm (t.basic++t.others):=JQ a d;refine⟨?_, ?_, ?_,(List.Perm.nodup_iff b).2 h.nd,fun v e=>h.lt v (b.mem_iff.1 e)⟩
 ·show((List.range t.lines.length).map _).length=(t.basic.set _ _).length;rw[au,SI,Sh,h.ll]
 ·intro l f;obtain⟨i,c,rfl⟩:=Rs.1 f;rw[RL]at c;show _=(t.others.set _ _).length;rw[Sh];split
  ·show((List.range _).map _).length=_;rw[au,SI];exact h.fl _ (line_mem h a)
  show((List.range _).map _).length=_;rw[au,SI];exact h.fl _ (line_mem h (by rw[<- h.ll];exact c))
 show((List.range _).map _).length=(t.others.set _ _).length;rw[au,SI,Sh,h.wl]
end Go.Jog.Lp
namespace Go.Jog.Lp
theorem cT:∀ {l:List Nat}{i:Nat},l.Nodup->i<l.length->l.idxOf (l.getD i 0)=i
|x::l,0,_,_=>by simp[]
|x::l,i+1,c,d=>by
  have a:=UO.1 c;have b:i<l.length:=by simpa using d
  have hm:l.getD i 0∈l:=by
   rw[am,ai b];exact Sj _
  show(x::l).idxOf (l.getD i 0)=i+1;rw[List.idxOf_cons];have e:(x == l.getD i 0)=false:=by
   rw[Ti];rintro rfl;exact a.1 hm
  rw[e,cT a.2 b];rfl
theorem iw {l:List Nat}{i:Nat}(h:i<l.length):l.getD i 0∈l:=by
 rw[am,ai h];exact Sj _
theorem dq {l:List Nat}{v:Nat}(h:v∈l):∃ i,i<l.length/\l.getD i 0=v:=by
 obtain⟨i,a,e⟩:=List.getElem_of_mem h;exact⟨i,a,by rw[am,ai a,e];rfl⟩
section
variable {t:Tab} {N:Nat}
theorem Tab.Ok.nb (h:t.Ok N):t.basic.Nodup:=(S1.1 h.nd).1
theorem Tab.Ok.no (h:t.Ok N):t.others.Nodup:=(S1.1 h.nd).2.1
theorem Tab.Ok.dj (h:t.Ok N){v:Nat}(a:v∈t.basic)(b:v∈t.others):False:=(S1.1 h.nd).2.2 v a v b rfl
theorem bas_mem {i:Nat}(h:i<t.basic.length):t.bas i∈t.basic:=iw h
theorem oth_mem {j:Nat}(h:j<t.others.length):t.oth j∈t.others:=iw h
def Tab.ext (t:Tab)(y:Nat->Rat)(v:Nat):Rat:=if v∈t.basic then lv (t.line (t.basic.idxOf v)) t.others y else y v
theorem vm (_b:t.Ok N){y:Nat->Rat}{v:Nat}(a:v ∉ t.basic):t.ext y v=y v:=aF a
theorem vn (h:t.Ok N){y:Nat->Rat}{i:Nat}(a:i<t.basic.length):t.ext y (t.bas i)=lv (t.line i) t.others y:=by
 unfold Tab.ext;rw[aM (bas_mem a)];unfold Tab.bas;rw[cT h.nb a]
theorem xY (h:t.Ok N){y:Nat->Rat}(l:Line):lv l t.others (t.ext y)=lv l t.others y:=by
 unfold lv;congr 1;exact sumN_congr fun j a=>by rw[show t.ext y (t.others.getD j 0)=y (t.others.getD j 0) from vm h (fun b=>h.dj b (oth_mem a))]
theorem nO (h:t.Ok N)(y:Nat->Rat):t.Sol (t.ext y):=fun i a=>by rw[vn h a,xY h]
theorem Hk (l:Line)(a:List Nat):lv l a (fun _=>0)=l.c:=by
 unfold lv;rw[sumN_zero fun j _=>by grind];grind
def Tab.sol (t:Tab):Nat->Rat:=t.ext fun _=>0
theorem sol_bas (h:t.Ok N){i:Nat}(a:i<t.basic.length):t.sol (t.bas i)=(t.line i).c:=by
 unfold Tab.sol;rw[vn h a,Hk]
theorem sol_oth (h:t.Ok N){v:Nat}(a:v ∉ t.basic):t.sol v=0:=by unfold Tab.sol;rw[vm h a]
theorem eT (h:t.Ok N):t.Sol t.sol:=nO h _
theorem DZ (h:t.Ok N):t.W t.sol=t.worth.c:=by
 unfold Tab.W Tab.sol;rw[xY h,Hk]
theorem He {r s v:Nat}(h:t.Ok N)(d:r<t.basic.length)(_n:s<t.others.length):v∈(t.pivot r s).basic ↔ v=t.oth s∨v∈t.basic/\v≠t.bas r:=by
 have f:∀ i,(t.pivot r s).bas i=if i=r then t.oth s else t.bas i:=fun i=>pS d;have g:(t.pivot r s).basic.length=t.basic.length:=Sh;constructor
 ·intro j;obtain⟨i,b,e⟩:=dq j;rw[g]at b;have a:(t.pivot r s).bas i=v:=e;rw[f]at a;by_cases c:i=r
  ·rw[aM c]at a;exact .inl a.symm
  rw[aF c]at a;refine .inr ⟨by rw[<- a];exact bas_mem b,fun k=>c ?_⟩;have h1:=cT h.nb b;have h2:=cT h.nb d;have l:t.basic.getD i 0=t.basic.getD r 0:=by rw[show t.basic.getD i 0=v from a];exact k
  rw[l,h2]at h1;exact h1.symm
 rintro (rfl|⟨j,m⟩)
 ·have:=bas_mem (t:=t.pivot r s) (i:=r) (by rw[g];exact d);rw[f,aM rfl]at this;exact this
 obtain⟨i,b,e⟩:=dq j;have c:i≠r:=by rintro rfl;exact m e.symm
 have:=bas_mem (t:=t.pivot r s) (i:=i) (by rw[g];exact b);rw[f,aF c]at this;rw[<- e];exact this
end
structure Way (F N:Nat)(T:Nat->Tab)(R S:Nat->Nat)(K:Nat):Prop where
 ok:(T 0).Ok N
 st:∀ k,k<K->T (k+1)=(T k).pivot (R k) (S k)
 r:∀ k,k<K->R k<(T k).basic.length
 s:∀ k,k<K->S k<(T k).others.length
 ne:∀ k,k<K->((T k).line (R k)).g (S k)≠0
 rs:∀ k,k<K->F<=(T k).bas (R k)
 ss:∀ k,k<K->F<=(T k).oth (S k)
section
variable {F N K:Nat} {T:Nat->Tab} {R S:Nat->Nat}
theorem Way.oks (h:Way F N T R S K):∀ k,k<=K->(T k).Ok N
|0,_=>h.ok
|k+1,a=>by
  rw[h.st k a];exact CD (h.oks k om_) (h.r k a) (h.s k a)
theorem Way.sol1 (h:Way F N T R S K){x:Nat->Rat}:∀ k,k<=K->((T k).Sol x ↔ (T 0).Sol x)
|0,_=>Iff.rfl
|k+1,a=>by
  rw[h.st k a,xy (h.oks k om_) (h.r k a) (h.s k a) (h.ne k a)];exact h.sol1 k om_
theorem Way.sols (h:Way F N T R S K){x:Nat->Rat}{k l:Nat}(a:k<=K)(b:l<=K):(T k).Sol x ↔ (T l).Sol x:=(h.sol1 k a).trans (h.sol1 l b).symm
theorem Way.w1 (h:Way F N T R S K){x:Nat->Rat}(b:(T 0).Sol x):∀ k,k<=K->(T k).W x=(T 0).W x
|0,_=>rfl
|k+1,a=>by
  rw[h.st k a,GJ (h.oks k om_) (h.r k a) (h.s k a) (h.ne k a) ((h.sol1 k om_).2 b)];exact h.w1 b k om_
theorem Way.ws (h:Way F N T R S K){x:Nat->Rat}{k l:Nat}(a:k<=K)(b:l<=K)(c:(T k).Sol x):(T k).W x=(T l).W x :=
 have h0:=(h.sol1 k a).1 c
 (h.w1 h0 k a).trans (h.w1 h0 l b).symm
def I2 (T:Nat->Tab)(R S:Nat->Nat)(a b v:Nat):Prop:=∃ k,a<=k/\k<b/\((T k).bas (R k)=v∨(T k).oth (S k)=v)
theorem Way.step (h:Way F N T R S K){k v:Nat}(a:k<K):v∈(T (k+1)).basic ↔ v=(T k).oth (S k)∨v∈(T k).basic/\v≠(T k).bas (R k):=by
 rw[h.st k a];exact He (h.oks k om_) (h.r k a) (h.s k a)
theorem Way.still (h:Way F N T R S K){a b v:Nat}(f:b<=K)(c:¬ I2 T R S a b v):∀ k,a<=k->k<=b->(v∈(T k).basic ↔ v∈(T a).basic):=by
 intro k g;induction k with
|zero=>intro _;rw[show a=0 by omega]
|succ k d =>
  intro i;rcases RS k a with h1|h1
  ·rw[show a=k+1 by omega]
  rw[h.step om_,<- d h1 om_];constructor
  ·rintro (rfl|⟨h2,_⟩)
   ·exact absurd ⟨k,h1,by omega,.inr U⟩ c
   exact h2
  intro h2;exact .inr ⟨h2,fun e=>c ⟨k,h1,by omega,.inl e.symm⟩⟩
theorem Way.leaves (h:Way F N T R S K){a b v:Nat}(o:b<=K)(j:v∈(T a).basic ↔ v∈(T b).basic)(m:I2 T R S a b v):∃ k,a<=k/\k<b/\(T k).bas (R k)=v:=by
 apply RT;intro f;obtain⟨k,h1,h2,h3|h3⟩:=m
 ·exact f ⟨k,h1,h2,h3⟩
 have up:∀ l,k+1<=l->l<=b->v∈(T l).basic:=by
  intro l;induction l with
 |zero=>intro h4;omega
 |succ l g =>
   intro h4 h5;rw[h.step om_];rcases RS l (k+1) with c|c
   ·rw[show l=k by omega];exact .inl h3.symm
   exact .inr ⟨g c om_,fun e=>f ⟨l,by omega,by omega,e.symm⟩⟩
 have d:=j.2 (up b om_ (Ro _));have n:∀ l,a<=l->l<=k->v∈(T l).basic:=by
  intro l;induction l with
 |zero=>intro h4 _;rw[show a=0 by omega]at d;exact d
 |succ l g =>
   intro h4 h5;rcases RS l a with c|c
   ·rw[show a=l+1 by omega]at d;exact d
   rw[h.step om_];exact .inr ⟨g c om_,fun e=>f ⟨l,by omega,by omega,e.symm⟩⟩
 have i:=n k h1 (Ro _);rw[<- h3]at i;exact(h.oks k om_).dj i (oth_mem (h.s k om_))
theorem Way.enters (h:Way F N T R S K){a b v:Nat}(p:b<=K)(j:v∈(T a).basic ↔ v∈(T b).basic)(m:I2 T R S a b v):∃ k,a<=k/\k<b/\(T k).oth (S k)=v:=by
 apply RT;intro f;obtain⟨k,h1,h2,h3|h3⟩:=m
 ·have up:∀ l,k+1<=l->l<=b->v ∉ (T l).basic:=by
   intro l;induction l with
  |zero=>intro h4;omega
  |succ l g =>
    intro h4 h5 hm;rcases(h.step om_).1 hm with e|⟨e,n⟩
    ·exact f ⟨l,by omega,by omega,e.symm⟩
    rcases RS l (k+1) with c|c
    ·have:l=k:=by omega
     subst this;exact n h3.symm
    exact g c om_ e
  have d:v ∉ (T a).basic:=fun hm=>up b om_ (Ro _) (j.1 hm);have o:∀ l,a<=l->l<=k->v ∉ (T l).basic:=by
   intro l;induction l with
  |zero=>intro h4 _;rw[show a=0 by omega]at d;exact d
  |succ l g =>
    intro h4 h5 hm;rcases RS l a with c|c
    ·rw[show a=l+1 by omega]at d;exact d hm
    rcases(h.step om_).1 hm with e|⟨e,_⟩
    ·exact f ⟨l,by omega,by omega,e.symm⟩
    exact g c om_ e
  have i:=o k h1 (Ro _);rw[<- h3]at i;exact i (bas_mem (h.r k om_))
 exact f ⟨k,h1,h2,h3⟩
theorem Way.fick_slack (h:Way F N T R S K){a b v:Nat}(d:b<=K)(c:I2 T R S a b v):F<=v/\v<N:=by
 obtain⟨k,h1,h2,h3|h3⟩:=c
 ·rw[<- h3];exact⟨h.rs k om_,(h.oks k om_).lt _ (Td _ (bas_mem (h.r k om_)))⟩
 rw[<- h3];exact⟨h.ss k om_,(h.oks k om_).lt _ (Tl _ (oth_mem (h.s k om_)))⟩
theorem Hh {p:Nat->Prop}:∀ N:Nat,(∀ v,p v->v<N)->(∃ v,p v)->∃ t,p t/\∀ u,p u->u<=t
|0,a,⟨v,b⟩=>absurd (a v b) (Nat.not_lt_zero _)
|N+1,a,d=>by
  by_cases c:p N
  ·exact⟨N,c,fun u e=>by have:=a u e;omega⟩
  exact Hh N (fun v b=>by
   have:=a v b;rcases RS v N with h1|h1
   ·exact h1
   exact absurd (show p N by rwa [show N=v by omega]) c) d
theorem Way.moved (h:Way F N T R S K){a b k l v:Nat}(c:b<=K)(e:a<=k)(f:k<=b)(g:a<=l)(i:l<=b)(j:v∈(T k).basic)(m:v ∉ (T l).basic):I2 T R S a b v:=by
 apply RT;intro d;exact m (((h.still c d k e f).trans (h.still c d l g i).symm).1 j)
theorem Way.feas (h:Way F N T R S K)
  (q:∀ k,k<K->((T k).line (R k)).c<0/\∀ i,i<(T k).basic.length->F<=(T k).bas i->((T k).line i).c<0->(T k).bas (R k)<=(T k).bas i)
  (B:∀ k,k<K->0<((T k).line (R k)).g (S k)/\∀ j,j<(T k).others.length->F<=(T k).oth j->0<((T k).line (R k)).g j->(T k).oth (S k)<=(T k).oth j)
  {a b:Nat} (P:a<b) (d:b<=K):¬ ∀ v,v∈(T a).basic ↔ v∈(T b).basic:=by
 intro hs;obtain⟨t,C,D⟩:=Hh (p:=I2 T R S a b) N (fun v Q=>(h.fick_slack d Q).2) ⟨_,a,Ro _,P,.inl rfl⟩;obtain⟨k,k1,k2,E⟩:=h.leaves d (hs t) C;obtain⟨l,l1,l2,w⟩:=h.enters d (hs t) C;have f:=h.oks k om_;have n:=h.oks l om_;have G:=h.r l om_;have H:=h.s l om_
 -- basic fickle slacks of the first one are not below 0,but t
 have pos:∀ u,I2 T R S a b u->u≠t->0<=(T k).sol u:=by
  intro u I U;by_cases m:u∈(T k).basic
  ·obtain⟨i,J,e⟩:=dq m;have y:(T k).bas i=u:=e;rw[<- y,sol_bas f J];apply RT;intro L;have:=(q k om_).2 i J (by rw[y];exact(h.fick_slack d I).1) (by grind);rw[E,y]at this;exact U (Nat.le_antisymm (D u I) this)
  rw[sol_oth f m];exact Rat.le_refl
 have L:(T k).sol t<0:=by
  rw[<- E,sol_bas f (h.r k om_)];exact(q k om_).1
 have V:=(h.sols (x:=(T k).sol) om_ om_).1 (eT f) (R l) G;have W:(T l).bas (R l)≠t:=by
  intro e;have:=bas_mem G;rw[e,<- w]at this;exact n.dj this (oth_mem H)
 have M:=pos _ ⟨l,l1,l2,.inl rfl⟩ W;rw[V]at M;have hc:=(q l om_).1;have aa:sumN (fun j=>((T l).line (R l)).g j*(T k).sol ((T l).others.getD j 0)) (T l).others.length<=0:=by
  refine zr fun j z=>?_;show((T l).line (R l)).g j*(T k).sol ((T l).oth j)<=0;by_cases o:(T l).oth j=t
  ·have X:0<((T l).line (R l)).g j:=by
    have e:j=S l:=by
     have O:=cT n.no z;have Y:=cT n.no H;have Z:(T l).others.getD j 0=(T l).others.getD (S l) 0:=o.trans w.symm;rw[Z,Y]at O;exact O.symm
    rw[e];exact(B l om_).1
   rw[o];have:=Rat.mul_lt_mul_of_pos_left L X;grind
  by_cases m:(T l).oth j∈(T k).basic
  ·have A:=h.moved d k1 om_ l1 om_ m (fun hm=>n.dj hm (oth_mem z));have hx:=pos _ A o;have hg:((T l).line (R l)).g j<=0:=by
    apply RT;intro ab;have:=(B l om_).2 j z (h.fick_slack d A).1 (by grind);rw[w]at this;exact o (Nat.le_antisymm (D _ A) this)
   have:=Rat.mul_nonneg (show 0<=-((T l).line (R l)).g j by grind) hx;grind
  rw[sol_oth f m];grind
 unfold lv at M;grind
end
end Go.Jog.Lp
namespace Go.Jog.Lp
section
variable {t:Tab} {N:Nat}
theorem Hm {l:Line}{a:List Nat}{x:Nat->Rat}(h:∀ j,j<a.length->x (a.getD j 0)=0):lv l a x=l.c:=by
 unfold lv;rw[sumN_zero fun j b=>by rw[h j b];grind];grind
theorem BW (h:t.Ok N){x:Nat->Rat}(d:t.Sol x)(b:∀ v,v ∉ t.basic->x v=0):∀ v,x v=t.sol v:=by
 intro v;by_cases a:v∈t.basic
 ·obtain⟨i,c,e⟩:=dq a;have f:t.bas i=v:=e;rw[<- f,sol_bas h c,d i c,Hm fun j g=>b _ (fun k=>h.dj k (oth_mem g))]
 rw[b v a,sol_oth h a]
theorem Qv (h:t.Ok N){x:Nat->Rat}(a:∀ v,v ∉ t.basic->x v=0):t.W x=t.worth.c:=Hm fun _e b=>a _ (fun d=>h.dj d (oth_mem b))
def dB (s:Nat)(v:Nat):Rat:=if v=s then 1 else 0
theorem qM (h:t.Ok N){l:Line}{s:Nat}(a:s<t.others.length):lv l t.others (dB (t.oth s))=l.c+l.g s:=by
 rw[Et a,sumN_zero fun j b=>?_]
 ·show l.c+(l.g s*dB (t.oth s) (t.oth s)+0)=_;unfold dB;rw[aM rfl];grind
 by_cases e:j=s
 ·rw[aM e]
 rw[aF e];unfold dB;rw[aF,Rat.mul_zero];intro d;have h1:=cT h.no b;rw[show t.others.getD j 0=t.others.getD s 0 from d,cT h.no a]at h1;exact e h1.symm
end
section
variable {F N K:Nat} {T:Nat->Tab} {R S:Nat->Nat}
theorem Way.mini (h:Way F N T R S K)
  (y:∀ k,k<K->(T k).worth.g (S k)<0/\∀ j,j<(T k).others.length->F<=(T k).oth j->(T k).worth.g j<0->(T k).oth (S k)<=(T k).oth j)
  (G:∀ k,k<K->((T k).line (R k)).g (S k)<0/\∀ i,i<(T k).basic.length->F<=(T k).bas i->((T k).line i).g (S k)<0->((T k).line (R k)).c=0->((T k).line i).c=0->(T k).bas (R k)<=(T k).bas i)
  (h3:∀ k,k<K->∀ i,i<(T k).basic.length->F<=(T k).bas i->0<=((T k).line i).c)
  {a b:Nat} (ae:a<b) (n:b<=K):¬ ∀ v,v∈(T a).basic ↔ v∈(T b).basic:=by
 intro hs
 -- the worth of the basic solutions
 have P:∀ k,k<K->(T (k+1)).worth.c=(T k).worth.c+(T k).worth.g (S k)*(-((T k).line (R k)).c / ((T k).line (R k)).g (S k)):=fun k f=>by
  rw[h.st k f];rfl
 have Q:∀ k,k<K->0<=-((T k).line (R k)).c / ((T k).line (R k)).g (S k)/\(-((T k).line (R k)).c / ((T k).line (R k)).g (S k)=0->((T k).line (R k)).c=0):=fun k f=>by
  have U:=h3 k f (R k) (h.r k f) (h.rs k f);have hg:=(G k f).1;generalize ((T k).line (R k)).c=c at U;generalize ((T k).line (R k)).g (S k)=g at hg;have e:-c / g=c*(-g)⁻¹:=by grind
  have hp:0<(-g)⁻¹:=Rat.inv_pos.2 (by grind);refine⟨by rw[e];exact Rat.mul_nonneg U (by grind),fun h0=>?_⟩;grind
 have V:∀ k,k<K->(T (k+1)).worth.c<=(T k).worth.c:=fun k f=>by
  rw[P k f];have:=Rat.mul_nonneg (show 0<=-(T k).worth.g (S k) by have:=(y k f).1;grind) (Q k f).1;grind
 have X:∀ d k,k+d<=K->(T (k+d)).worth.c<=(T k).worth.c:=by
  intro d;induction d with
 |zero=>intro k _;exact Rat.le_refl
 |succ d H =>
   intro k f;exact Rat.le_trans (V (k+d) om_) (H k om_)
 have I:=h.oks a om_;have af:=h.oks b n;have au:(T a).worth.c=(T b).worth.c:=by
  rw[<- DZ I,h.ws om_ n (eT I)];exact Qv af fun v z=>sol_oth I (fun hm=>z ((hs v).1 hm))
 have Y:∀ k,a<=k->k<b->((T k).line (R k)).c=0:=by
  intro k k1 k2;have o:=X (k-a) a om_;rw[show a+(k-a)=k by omega]at o;have q:=X (b-(k+1)) (k+1) om_;rw[show k+1+(b-(k+1))=b by omega]at q;have e3:=P k om_;have e4:=V k om_;have e5:(T k).worth.g (S k)*(-((T k).line (R k)).c / ((T k).line (R k)).g (S k))=0:=by grind
  refine(Q k om_).2 ?_;rcases Rat.mul_eq_zero.1 e5 with J|J
  ·have:=(y k om_).1;rw[J]at this;exact absurd this dc_
  exact J
 have Z:∀ k,a<=k->k<=b->∀ v,(T k).sol v=(T a).sol v:=by
  intro k;induction k with
 |zero=>intro k1 _ v;rw[show a=0 by omega]
 |succ k H =>
   intro k1 k2 v;rcases RS k a with h5|h5
   ·rw[show a=k+1 by omega]
   rw[<- H h5 om_ v];symm;refine BW (h.oks (k+1) om_) ((h.sols om_ om_).1 (eT (h.oks k om_))) (fun w A=>?_) v;by_cases aa:w∈(T k).basic
   ·have e:w=(T k).bas (R k):=by
     apply RT;intro L;exact A ((h.step om_).2 (.inr ⟨aa,L⟩))
    rw[e,sol_bas (h.oks k om_) (h.r k om_),Y k h5 om_]
   exact sol_oth (h.oks k om_) aa
 have ag:∀ v,I2 T R S a b v->∀ k,a<=k->k<=b->(T k).sol v=0:=by
  intro v z k k1 k2;obtain⟨l,l1,l2,e⟩:=h.enters n (hs v) z;rw[Z k k1 k2 v,<- Z l l1 om_ v];exact sol_oth (h.oks l om_) (fun hm=>(h.oks l om_).dj hm (by rw[<- e];exact oth_mem (h.s l om_)))
 obtain⟨t,ht,ab⟩:=Hh (p:=I2 T R S a b) N (fun v z=>(h.fick_slack n z).2) ⟨_,a,Ro _,ae,.inl rfl⟩;obtain⟨k,k1,k2,f⟩:=h.leaves n (hs t) ht;obtain⟨l,l1,l2,hl⟩:=h.enters n (hs t) ht;have m:=h.oks k om_;have M:=h.oks l om_;have ac:=h.r k om_;have O:=h.s k om_;have ah:=h.s l om_;have ai:=nO m (dB ((T k).oth (S k)));have w1:=h.ws (k:=k) (l:=l) om_ om_ ai;have w0:=h.ws (k:=k) (l:=l) om_ om_ (eT m);rw[DZ m]at w0;have aj:(T k).W ((T k).ext (dB ((T k).oth (S k))))=(T k).worth.c+(T k).worth.g (S k):=by
  unfold Tab.W;rw[xY m,qM m O]
 rw[aj]at w1;have av:=(y k om_).1;have ak:I2 T R S a b ((T k).oth (S k)):=⟨k,k1,k2,.inr rfl⟩;have al:(T k).oth (S k)≠t:=by
  intro e;have h4:=bas_mem ac;rw[f,<- e]at h4;exact m.dj h4 (oth_mem O)
 -- a fickle one but t does not lower the worth at the second place
 have ad:∀ j,j<(T l).others.length->I2 T R S a b ((T l).oth j)->(T l).oth j≠t->0<=(T l).worth.g j:=by
  intro j x u L;apply RT;intro am;have:=(y l om_).2 j x (h.fick_slack n u).1 (by grind);rw[hl]at this;exact L (Nat.le_antisymm (ab _ u) this)
 have an:0<=sumN (fun j=>(T l).worth.g j*((T k).ext (dB ((T k).oth (S k))) ((T l).oth j)-(T k).sol ((T l).oth j))) (T l).others.length:=by
  refine sumN_ge fun j x=>?_;by_cases D:(T l).oth j∈(T k).basic
  ·have u:=h.moved n k1 om_ l1 om_ D (fun hm=>M.dj hm (oth_mem x));obtain⟨i,B,e⟩:=dq D;have C:(T k).bas i=(T l).oth j:=e;have ao:((T k).line i).c=0:=by rw[<- sol_bas m B,C];exact ag _ u k k1 om_
   rw[<- C,vn m B,sol_bas m B,qM m O];have ez:((T k).line i).c+((T k).line i).g (S k)-((T k).line i).c=((T k).line i).g (S k):=by grind
   rw[ez];by_cases E:(T l).oth j=t
   ·have ap:j=S l:=by
     have o:=cT M.no x;rw[show(T l).others.getD j 0=(T l).others.getD (S l) 0 from E.trans hl.symm,cT M.no ah]at o;exact o.symm
    have aq:i=R k:=by
     have o:=cT m.nb B;rw[show(T k).basic.getD i 0=(T k).basic.getD (R k) 0 from(C.trans E).trans f.symm,cT m.nb ac]at o;exact o.symm
    have g1:=(y l om_).1;have g2:=(G k om_).1;rw[<- ap]at g1;rw[<- aq]at g2;have:=Rat.mul_nonneg (show 0<=-(T l).worth.g j by grind) (show 0<=-((T k).line i).g (S k) by grind);grind
   have A:=ad j x u E;refine Rat.mul_nonneg A ?_;apply RT;intro am;have:=(G k om_).2 i B (by rw[C];exact(h.fick_slack n u).1) (by grind) (Y k k1 k2) ao;rw[f,C]at this;exact E (Nat.le_antisymm (ab _ u) this)
  rw[vm m D,sol_oth m D];unfold dB;split
  ·rename_i e;have A:=ad j x (by rw[e];exact ak) (by rw[e];exact al);have q:(1:Rat)-0=1:=by grind
   rw[q,Rat.mul_one];exact A
  have q:(0:Rat)-0=0:=by grind
  rw[q,Rat.mul_zero];exact Rat.le_refl
 have ar:(T l).W ((T k).ext (dB ((T k).oth (S k))))-(T l).W (T k).sol=sumN (fun j=>(T l).worth.g j*((T k).ext (dB ((T k).oth (S k))) ((T l).oth j)-(T k).sol ((T l).oth j))) (T l).others.length:=by
  have e:=sumN_add (fun j=>(T l).worth.g j*((T k).ext (dB ((T k).oth (S k))) ((T l).oth j)-(T k).sol ((T l).oth j))) (fun j=>(T l).worth.g j*(T k).sol ((T l).oth j)) (T l).others.length;have q:sumN (fun j=>(T l).worth.g j*((T k).ext (dB ((T k).oth (S k))) ((T l).oth j)-(T k).sol ((T l).oth j))+(T l).worth.g j*(T k).sol ((T l).oth j)) (T l).others.length=sumN (fun j=>(T l).worth.g j*(T k).ext (dB ((T k).oth (S k))) ((T l).others.getD j 0)) (T l).others.length:=sumN_congr fun j _=>by
   show _=(T l).worth.g j*(T k).ext (dB ((T k).oth (S k))) ((T l).oth j);grind
  rw[q]at e;unfold Tab.W lv;rw[e];show _-((T l).worth.c+sumN (fun j=>(T l).worth.g j*(T k).sol ((T l).oth j)) (T l).others.length)=_;grind
 rw[<- ar,<- w1,<- w0]at an;grind
end
end Go.Jog.Lp
namespace Go.Jog.Lp
variable {F K N:Nat}{P:Tab->Nat->Nat->Prop}{r s:Nat}{t:Tab}
def cdN (p:Nat->Bool):Nat->Nat
|0=>0
|n+1=>cdN p n+(if p n then 2 ^ n else 0)
theorem Do (p:Nat->Bool):∀ n,cdN p n<2 ^ n
|0=>Nat.one_pos
|n+1=>by
  have:=Do p n;have e:2 ^ (n+1)=2 ^ n+2 ^ n:=by rw[SF];omega
  simp only[cdN];split <;> omega
theorem AT {p q:Nat->Bool}:∀ {n:Nat},cdN p n=cdN q n->∀ v,v<n->p v=q v
|n+1,h,v,d=>by
  have h1:=Do p n;have h2:=Do q n;simp only[cdN]at h;have a:p n=q n:=by
   cases b:p n <;> cases c:q n <;> simp[b,c]at h⊢ <;> omega
  rw[a]at h;rcases RS v n with h3|h3
  ·exact AT om_ v h3
  rw[show v=n by omega];exact a
theorem Way.len {T:Nat->Tab}{R S:Nat->Nat}(h:Way F N T R S K)(g:∀ a b,a<b->b<=K->¬ ∀ v,v∈(T a).basic ↔ v∈(T b).basic):K+1<=2 ^ N:=by
 have i:((List.range (K+1)).map fun k=>cdN (fun v=>decide (v∈(T k).basic)) N).Nodup:=by
  unfold List.Nodup;rw[List.pairwise_map];refine List.Pairwise.imp_of_mem ?_ List.pairwise_lt_range;intro a b _ d j e;refine g a b j (by rw[RL]at d;omega) fun v=>?_;have f:∀ k,k<=K->v∈(T k).basic->v<N:=fun k l c=>(h.oks k l).lt v (Td _ c);rw[RL]at d;constructor
  ·intro c;have:=AT e v (f a om_ c);rw[RJ c]at this;exact QL this.symm
  intro c;have:=AT e v (f b om_ c);rw[RJ c]at this;exact QL this
 have:=List.Nodup.length_le_of_subset (l₂:=List.range (2 ^ N)) i (fun x m=>by
  obtain⟨k,_,rfl⟩:=Rs.1 m;exact RL.2 (Do _ N))
 simpa using this
def Reach (P:Tab->Nat->Nat->Prop)(t:Tab)(K:Nat):Prop:=∃ (T:Nat->Tab)(R S:Nat->Nat),T 0=t/\∀ k,k<K->P (T k) (R k) (S k)/\T (k+1)=(T k).pivot (R k) (S k)
theorem Reach.cons (h:P t r s)(a:Reach P (t.pivot r s) K):Reach P t (K+1):=by
 obtain⟨T,R,S,h0,h1⟩:=a;refine⟨fun k=>match k with|0=>t|k+1=>T k,fun k=>match k with|0=>r|k+1=>R k,fun k=>match k with|0=>s|k+1=>S k,U,fun k a=>?_⟩;cases k with
|zero=>exact⟨h,h0⟩
|succ k=>exact h1 k om_
theorem Reach.one (h:P t r s):Reach P t 1:=Reach.cons h ⟨fun _=>t.pivot r s,fun _=>0,fun _=>0,rfl,fun _b a=>absurd a (Nat.not_lt_zero _)⟩
theorem Reach.fall {m:Nat}(h:P t r s)(a:∀ K,Reach P t K->K<=m):0<m/\∀ K,Reach P (t.pivot r s) K->K<=m-1:=by
 have h1:=a 1 (Reach.one h);exact⟨by omega,fun K b=>by have:=a _ (Reach.cons h b);omega⟩
structure FeasP (F:Nat)(t:Tab)(r s:Nat):Prop where
 hr:r<t.basic.length
 hs:s<t.others.length
 rs:F<=t.bas r
 ss:F<=t.oth s
 c:(t.line r).c<0
 rl:∀ i,i<t.basic.length->F<=t.bas i->(t.line i).c<0->t.bas r<=t.bas i
 g:0<(t.line r).g s
 sl:∀ j,j<t.others.length->F<=t.oth j->0<(t.line r).g j->t.oth s<=t.oth j
def Tab.Feas (F:Nat)(t:Tab):Prop:=∀ i,i<t.basic.length->F<=t.bas i->0<=(t.line i).c
structure MinP (F:Nat)(t:Tab)(r s:Nat):Prop where
 hr:r<t.basic.length
 hs:s<t.others.length
 rs:F<=t.bas r
 ss:F<=t.oth s
 w:t.worth.g s<0
 sl:∀ j,j<t.others.length->F<=t.oth j->t.worth.g j<0->t.oth s<=t.oth j
 g:(t.line r).g s<0
 rl:∀ i,i<t.basic.length->F<=t.bas i->(t.line i).g s<0->(t.line r).c / -(t.line r).g s<(t.line i).c / -(t.line i).g s∨(t.line r).c / -(t.line r).g s=(t.line i).c / -(t.line i).g s/\t.bas r<=t.bas i
 feas:t.Feas F
theorem feas_len (h:t.Ok N)(f:Reach (FeasP F) t K):K<=2 ^ N:=by
 obtain⟨T,R,S,h0,h1⟩:=f;have e:Way F N T R S K:=⟨by rw[h0];exact h,fun k d=>(h1 k d).2,fun k d=>(h1 k d).1.hr,fun k d=>(h1 k d).1.hs,fun k d=>by have:=(h1 k d).1.g;grind,fun k d=>(h1 k d).1.rs,fun k d=>(h1 k d).1.ss⟩;have:=e.len fun a b i j=>e.feas (fun k d=>⟨(h1 k d).1.c,(h1 k d).1.rl⟩) (fun k d=>⟨(h1 k d).1.g,(h1 k d).1.sl⟩) i j;omega
theorem min_len (h:t.Ok N)(f:Reach (MinP F) t K):K<=2 ^ N:=by
 obtain⟨T,R,S,h0,h1⟩:=f;have d:Way F N T R S K:=⟨by rw[h0];exact h,fun k c=>(h1 k c).2,fun k c=>(h1 k c).1.hr,fun k c=>(h1 k c).1.hs,fun k c=>by have:=(h1 k c).1.g;grind,fun k c=>(h1 k c).1.rs,fun k c=>(h1 k c).1.ss⟩;have:=d.len fun a b j l=>d.mini (fun k c=>⟨(h1 k c).1.w,(h1 k c).1.sl⟩) (fun k c=>⟨(h1 k c).1.g,fun i m n o p q=>by
  rcases(h1 k c).1.rl i m n o with h3|h3
  ·rw[p,q]at h3;have e:∀ x:Rat,0 / x=0:=fun x=>by grind
   rw[e,e]at h3;exact absurd h3 dc_
  exact h3.2⟩) (fun k c=>(h1 k c).1.feas) j l
 omega
theorem xz (a:r<t.basic.length)(i:Nat):(t.pivot r s).bas i=if i=r then t.oth s else t.bas i:=pS a
theorem qu (a:s<t.others.length)(j:Nat):(t.pivot r s).oth j=if j=s then t.bas r else t.oth j:=pS a
theorem min_feas (h:t.Ok N)(a:MinP F t r s):(t.pivot r s).Feas F:=by
 intro i b d;have l:(t.pivot r s).basic.length=t.basic.length:=Sh;rw[l]at b;rw[xz a.hr]at d;rw[pivot_line (by rw[h.ll];exact b)];have m:=a.feas r a.hr a.rs;have p:=a.g;have f:0<=(t.line r).c / -(t.line r).g s:=by
  have a:0<(-(t.line r).g s)⁻¹:=Rat.inv_pos.2 (by grind);have e:(t.line r).c / -(t.line r).g s=(t.line r).c*(-(t.line r).g s)⁻¹:=by grind
  rw[e];exact Rat.mul_nonneg m (by grind)
 have j:-(t.line r).c / (t.line r).g s=(t.line r).c / -(t.line r).g s:=by grind
 by_cases e:i=r
 ·rw[aM e];show 0<=-(t.line r).c / (t.line r).g s;rw[j];exact f
 rw[aF e]at d⊢;show 0<=(t.line i).c+(t.line i).g s*(-(t.line r).c / (t.line r).g s);rw[j];have q:=a.feas i b d;by_cases n:(t.line i).g s<0
 ·have k:(t.line r).c / -(t.line r).g s<=(t.line i).c / -(t.line i).g s:=by
   rcases a.rl i b d n with h3|h3
   ·exact Rat.le_of_lt h3
   rw[h3.1];exact Rat.le_refl
  generalize (t.line r).c / -(t.line r).g s=th at k f;have o:(t.line i).c=-(t.line i).g s*((t.line i).c / -(t.line i).g s):=by grind
  have:=TV k (show 0<=-(t.line i).g s by grind);rw[<- o]at this;grind
 have:=Rat.mul_nonneg (show 0<=(t.line i).g s by grind) f;grind
end Go.Jog.Lp
namespace Go.Jog.Lp
variable {i n:Nat}
abbrev Col:=Nat->Rat
def detN:Nat->Nat->List Col->Rat
|0,_,_=>1
|n+1,r,l=>sumN (fun i=>(-1) ^ i*((l.getD i fun _=>0) r*detN n (r+1) (l.eraseIdx i))) (n+1)
def det (r:Nat)(l:List Col):Rat:=detN l.length r l
theorem iD {r:Nat}{l:List Col}(h:l.length=n+1):det r l=sumN (fun i=>(-1) ^ i*((l.getD i fun _=>0) r*det (r+1) (l.eraseIdx i))) (n+1):=by
 unfold det;rw[h];show sumN _ (n+1)=_;refine sumN_congr fun i a=>?_;rw[List.length_eraseIdx,aM om_,h];rfl
theorem jk (i:Nat):(-1:Rat) ^ (i+1)=-(-1) ^ i:=by rw[Rat.pow_succ];grind
theorem kf {a:Col}{b c:List Col}{d:Col}:(b++a::c).getD b.length d=a:=by
 rw[am,RV (Ro _),TO];rfl
theorem yk {a b:Col}{c e:List Col}{d:Col}:(c++a::b::e).getD (c.length+1) d=b:=by
 rw[am,RV om_,SZ];rfl
theorem CV {a b:Col}{c f:List Col}{d:Col}(h:i≠c.length):(c++a::f).getD i d=(c++b::f).getD i d:=by
 rw[am,am];rcases RS i c.length with h1|h1
 ·rw[Se h1,Se h1]
 rw[RV h1,RV h1];cases e:i-c.length with
|zero=>omega
|succ k=>rfl
theorem gQ {a:Col}{b c:List Col}:(b++a::c).eraseIdx b.length=b++c:=by
 rw[List.eraseIdx_append_of_length_le (Ro _),TO];rfl
theorem tD {a b:Col}{c d:List Col}:(c++a::b::d).eraseIdx (c.length+1)=c++a::d:=by
 rw[List.eraseIdx_append_of_length_le om_,SZ];rfl
theorem H3 {l1 l2:List Col}(h:i≠l1.length)(e:i<l1.length+1+l2.length):∃ b c:List Col,b.length+1+c.length+1=l1.length+1+l2.length/\∀ a:Col,(l1++a::l2).eraseIdx i=b++a::c:=by
 rcases RS i l1.length with h1|h1
 ·refine⟨l1.eraseIdx i,l2, ?_,fun a=>List.eraseIdx_append_of_lt_length h1 _⟩;rw[List.length_eraseIdx,aM h1];omega
 obtain⟨k,d⟩:∃ k,i-l1.length=k+1:=⟨i-l1.length-1,by omega⟩;refine⟨l1,l2.eraseIdx k, ?_,fun a=>?_⟩
 ·rw[List.length_eraseIdx,aM om_];omega
 rw[List.eraseIdx_append_of_length_le h1,d];rfl
theorem vz {p q:Rat}{a b:Col}:∀ (n r:Nat)(l1 l2:List Col),l1.length+1+l2.length=n->det r (l1++(fun k=>p*a k+q*b k)::l2)=p*det r (l1++a::l2)+q*det r (l1++b::l2)
|0,r,l1,l2,h=>by omega
|n+1,r,l1,l2,h=>by
  rw[iD (n:=n) ap,iD (l:=l1++a::l2) (n:=n) ap,iD (l:=l1++b::l2) (n:=n) ap,<- sumN_mul,<- sumN_mul,<- sumN_add];refine sumN_congr fun i g=>?_;by_cases e:i=l1.length
  ·subst e;rw[kf,kf,kf,gQ,gQ,gQ];grind
  rw[CV (b:=a) e,CV (a:=b) (b:=a) e];obtain⟨d,f,hm,c⟩:=H3 (l1:=l1) (l2:=l2) e om_;rw[c,c,c,vz n (r+1) d f om_];grind
theorem HQ {a b:Col}{c e:List Col}{d:Col}(h:i≠c.length)(g:i≠c.length+1):(c++a::b::e).getD i d=(c++b::a::e).getD i d:=by
 rw[am,am];rcases RS i c.length with h1|h1
 ·rw[Se h1,Se h1]
 rw[RV h1,RV h1];obtain⟨k,f⟩:∃ k,i-c.length=k+2:=⟨i-c.length-2,by omega⟩;rw[f];rfl
theorem EO {l1 l2:List Col}(h:i≠l1.length)(f:i≠l1.length+1)(g:i<l1.length+2+l2.length):∃ c d:List Col,c.length+2+d.length+1=l1.length+2+l2.length/\∀ a b:Col,(l1++a::b::l2).eraseIdx i=c++a::b::d:=by
 rcases RS i l1.length with h1|h1
 ·refine⟨l1.eraseIdx i,l2, ?_,fun a b=>List.eraseIdx_append_of_lt_length h1 _⟩;rw[List.length_eraseIdx,aM h1];omega
 obtain⟨k,e⟩:∃ k,i-l1.length=k+2:=⟨i-l1.length-2,by omega⟩;refine⟨l1,l2.eraseIdx k, ?_,fun a b=>?_⟩
 ·rw[List.length_eraseIdx,aM om_];omega
 rw[List.eraseIdx_append_of_length_le h1,e];rfl
theorem BR (g:Nat->Rat):∀ n,sumN (fun j=>-g j) n=-sumN g n
|0=>by simp only[sumN];grind
|n+1=>by simp only[sumN];rw[BR g n];grind
theorem BQ {g:Nat->Rat}{a:Nat}(h:a+1<n):sumN g n=g a+g (a+1)+sumN (fun j=>if j=a∨j=a+1 then 0 else g j) n:=by
 rw[sumN_at (a:=a) om_,sumN_at (g:=fun j=>if j=a then 0 else g j) (a:=a+1) h,aF om_];have e:sumN (fun j=>if j=a+1 then 0 else if j=a then 0 else g j) n=sumN (fun j=>if j=a∨j=a+1 then 0 else g j) n:=sumN_congr fun j _=>by
  by_cases h1:j=a
  ·rw[aM (show j=a∨j=a+1 from .inl h1),aF om_,aM h1]
  by_cases h2:j=a+1
  ·rw[aM h2,aM (show j=a∨j=a+1 from .inr h2)]
  rw[aF h2,aF h1,aF om_]
 rw[e];grind
theorem vy {a b:Col}:∀ (n r:Nat)(l1 l2:List Col),l1.length+2+l2.length=n->det r (l1++a::b::l2)=-det r (l1++b::a::l2)
|0,r,l1,l2,h=>by omega
|n+1,r,l1,l2,h=>by
  rw[iD (n:=n) ap,iD (l:=l1++b::a::l2) (n:=n) ap,BQ (g:=fun i=>(-1) ^ i*((l1++a::b::l2).getD i (fun _=>0) r*det (r+1) ((l1++a::b::l2).eraseIdx i))) (a:=l1.length) om_,
   BQ (g:=fun i=>(-1) ^ i*((l1++b::a::l2).getD i (fun _=>0) r*det (r+1) ((l1++b::a::l2).eraseIdx i))) (a:=l1.length) om_]
  rw[kf,yk,kf,yk,gQ,tD,gQ,tD,jk];have e:sumN (fun j=>if j=l1.length∨j=l1.length+1 then 0 else (-1) ^ j*((l1++a::b::l2).getD j (fun _=>0) r*det (r+1) ((l1++a::b::l2).eraseIdx j))) (n+1) =
    -sumN (fun j=>if j=l1.length∨j=l1.length+1 then 0 else (-1) ^ j*((l1++b::a::l2).getD j (fun _=>0) r*det (r+1) ((l1++b::a::l2).eraseIdx j))) (n+1):=by
   rw[<- BR];refine sumN_congr fun j k=>?_;by_cases h1:j=l1.length∨j=l1.length+1
   ·rw[aM h1,aM h1];grind
   rw[aF h1,aF h1,HQ om_ om_];obtain⟨d,f,hm,c⟩:=EO (l1:=l1) (l2:=l2) (i:=j) om_ om_ om_;rw[c,c,vy n (r+1) d f om_];grind
  rw[e];grind
theorem mN {a:Col}:∀ (l2:List Col)(r:Nat)(l1 c:List Col),det r (l1++a::(l2++a::c))=0
|[],r,l1,c=>by
  have h:=vy (a:=a) (b:=a) _ r l1 c rfl;show det r (l1++a::a::c)=0;grind
|b::l2,r,l1,c=>by
  have h:=vy (a:=a) (b:=b) _ r l1 (l2++a::c) rfl;have d:=mN (a:=a) l2 r (l1++[b]) c;rw[R0]at d;show det r (l1++a::b::(l2++a::c))=0;rw[h,show l1++b::a::(l2++a::c)=l1++([b]++a::(l2++a::c)) from rfl,d];grind
theorem OE {l:List Col}{j:Nat}(g:i<l.length)(k:j<l.length)(n:i≠j)(r:Nat):det r (l.set i (l.getD j fun _=>0))=0:=by
 have t:l[j]?=some (l.getD j fun _=>0):=by rw[am,ai k];rfl
 have o:∀ {a b:Nat}{m:List Col}{x:Col},a<b->b<m.length->m[a]?=some x->m[b]?=some x->∃ c d f,m=c++x::(d++x::f):=by
  intro a b m x u p q s;refine⟨m.take a,(m.drop (a+1)).take (b-a-1),m.drop (b+1), ?_⟩;have h1:m=m.take a++x::m.drop (a+1):=by
   have:=Sm a m;rw[RP om_]at this;rw[ai om_]at q;rw[Sx q]at this;exact this.symm
  have h2:m.drop (a+1)=(m.drop (a+1)).take (b-a-1)++x::m.drop (b+1):=by
   have:=Sm (b-a-1) (m.drop (a+1));rw[List.drop_drop,show a+1+(b-a-1)=b by omega,RP p]at this;rw[ai p]at s;rw[Sx s]at this;exact this.symm
  rw[<- h2];exact h1
 have h1:(l.set i (l.getD j fun _=>0))[i]?=some (l.getD j fun _=>0):=by rw[Ug g]
 have h2:(l.set i (l.getD j fun _=>0))[j]?=some (l.getD j fun _=>0):=by rw[Uo n];exact t
 rcases Nat.lt_or_gt_of_ne n with h|h
 ·obtain⟨c,d,f,e⟩:=o h (by rw[Sh];exact k) h1 h2;rw[e];exact mN d r c f
 obtain⟨c,d,f,e⟩:=o h (by rw[Sh];exact g) h2 h1;rw[e];exact mN d r c f
theorem lT {l:List Col}{x:Col}(h:i<l.length):l.set i x=l.take i++x::l.drop (i+1):=List.set_eq_take_append_cons_drop.trans (aM h)
def Lk (l:List Col)(x:Nat->Rat)(n:Nat):Col:=fun k=>sumN (fun j=>x j*(l.getD j fun _=>0) k) n
theorem De {l:List Col}{i:Nat}(c:i<l.length)(x:Nat->Rat)(r:Nat):∀ n,n<=l.length->det r (l.set i (Lk l x n))=sumN (fun j=>x j*det r (l.set i (l.getD j fun _=>0))) n
|0,_=>by
  have h:=vz (p:=0) (q:=0) (a:=fun _=>0) (b:=fun _=>0) _ r (l.take i) (l.drop (i+1)) rfl;rw[lT c];have e:Lk l x 0=fun k=>(0:Rat)*(fun _=>0:Col) k+0*(fun _=>0:Col) k:=by
   funext k;show(0:Rat)=_;grind
  rw[e,h];simp only[sumN];grind
|n+1,h=>by
  have d:=De c x r n om_;have e:Lk l x (n+1)=fun k=>1*Lk l x n k+x n*(l.getD n fun _=>0) k:=by
   funext k;show sumN _ n+_=1*sumN _ n+_;grind
  rw[lT c,e,vz _ r _ _ rfl,<- lT c,<- lT c,d];simp only[sumN];grind
theorem Qq {l:List Col}(a:i<l.length)(x:Nat->Rat)(r:Nat):det r (l.set i (Lk l x l.length))=x i*det r l:=by
 rw[De a x r _ (Ro _),sumN_at a];have e:l.set i (l.getD i fun _=>0)=l:=by
  rw[am,ai a];exact List.set_getElem_self a
 rw[e,sumN_zero fun j b=>?_]
 ·grind
 by_cases h:j=i
 ·rw[aM h]
 rw[aF h,OE a b (Ne.symm h)];grind
end Go.Jog.Lp
namespace Go.Jog.Lp
variable {a:Col}{f:Col->Rat}{l l1 l2:List Col}{r:Nat}{ys:List Rat}
def ni:List Rat->List Col->Col
|y::ys,c::l,k=>y*c k+ni ys l k
|_,_,_=>0
theorem CR {y1 y2:List Rat}(h:y1.length=l1.length)(k:Nat):ni (y1++y2) (l1++l2) k=ni y1 l1 k+ni y2 l2 k:=by
 induction l1 generalizing y1 with
|nil =>
  have:y1=[]:=Sd h;subst this;show ni y2 l2 k=0+_;grind
|cons c l1 a =>
  cases y1 with
 |nil=>cases h
 |cons y y1 =>
   have:=a (y1:=y1) (by simpa using h);show y*c k+ni (y1++y2) (l1++l2) k=y*c k+ni y1 l1 k+_;rw[this];grind
theorem KC (h:ys.length=l.length)(k:Nat):ni ys (l.map fun c=>fun k=>c k-f c*a k) k=ni ys l k-(ni ys (l.map fun c=>fun _=>f c) k)*a k:=by
 induction l generalizing ys with
|nil =>
  have:ys=[]:=Sd h;subst this;show(0:Rat)=0-0*a k;grind
|cons c l b =>
  cases ys with
 |nil=>cases h
 |cons y ys =>
   have:=b (ys:=ys) (by simpa using h);show y*(c k-f c*a k)+ni ys _ k=y*c k+ni ys l k-(y*f c+ni ys _ k)*a k;rw[this];grind
theorem Eu (k a:Nat):ni ys (l.map fun c=>fun _=>f c) k=ni ys (l.map fun c=>fun _=>f c) a:=by
 induction l generalizing ys with
|nil=>cases ys <;> rfl
|cons c l b =>
  cases ys with
 |nil=>rfl
 |cons y ys =>
   show y*f c+ni ys _ k=y*f c+ni ys _ a;rw[b]
theorem qN {k:Nat}(h:∀ c∈l,c k=0):ni ys l k=0:=by
 induction l generalizing ys with
|nil=>cases ys <;> rfl
|cons c l a =>
  cases ys with
 |nil=>rfl
 |cons y ys =>
   show y*c k+ni ys l k=0;rw[h c Rq,a fun d b=>h d (RB _ b)];grind
def OY (r m:Nat)(l:List Col):Prop:=∃ ys:List Rat,ys.length=l.length/\(∃ y∈ys,y≠0)/\∀ k,r<=k->k<r+m->ni ys l k=0
theorem Ce {m:Nat}(s:a r≠0)(h:OY (r+1) m ((l1++l2).map fun c=>fun k=>c k-c r / a r*a k)):OY r (m+1) (l1++a::l2):=by
 obtain⟨ys,g,⟨y,hy,i⟩,j⟩:=h;rw[au,Ru]at g;have b:ys=ys.take l1.length++ys.drop l1.length:=(Sm _ _).symm;have e:(ys.take l1.length).length=l1.length:=by rw[RE];omega
 have u:(ys.drop l1.length).length=l2.length:=by rw[Th];omega
 have l:ys.length=(l1++l2).length:=by rw[Ru];omega
 obtain⟨t,n⟩:∃ t:Rat,∀ k,ni ys ((l1++l2).map fun c=>fun _=>c r / a r) k=t:=⟨_,fun k=>Eu (f:=fun c=>c r / a r) k 0⟩;have o:∀ k,ni ys ((l1++l2).map fun c=>fun k=>c k-c r / a r*a k) k=ni ys (l1++l2) k-t*a k:=fun k=>by
  rw[KC (f:=fun c=>c r / a r) l k,n]
 have p:∀ k,ni (ys.take l1.length++-t::ys.drop l1.length) (l1++a::l2) k=ni ys (l1++l2) k-t*a k:=fun k=>by
  rw[CR e];show _+(-t*a k+ni (ys.drop l1.length) l2 k)=_;have:=CR (y2:=ys.drop l1.length) (l2:=l2) e k;rw[<- b]at this;rw[this];grind
 refine⟨ys.take l1.length++-t::ys.drop l1.length,by simp;omega,⟨y, ?_,i⟩,fun k h1 h2=>?_⟩
 ·rw[b]at hy;rcases RF.1 hy with h|h
  ·exact Td _ h
  exact Tl _ (RB _ h)
 rw[p k,<- o k];rcases RS r k with h3|h3
 ·exact j k om_ om_
 have:k=r:=by omega
 subst this;refine qN fun c q=>?_;obtain⟨d,_,rfl⟩:=Rs.1 q;show d k-d k / a k*a k=0;grind
theorem BU {p:Col->Prop}(h:∃ c∈l,p c):∃ l1 a l2,l=l1++a::l2/\p a:=by
 obtain⟨c,b,d⟩:=h;obtain⟨l1,l2,e⟩:=List.append_of_mem b;exact⟨l1,c,l2,e,d⟩
theorem uz:∀ (m r:Nat)(l:List Col),m<l.length->OY r m l
|0,r,l,h=>⟨List.replicate l.length 1,RX,⟨1,by rw[List.mem_replicate];exact⟨by omega,rfl⟩,by decide⟩,fun k h1 h2=>by omega⟩
|m+1,r,l,h=>by
  by_cases b:∃ c∈l,c r≠0
  ·obtain⟨l1,a,l2,e,d⟩:=BU b;subst e;exact Ce d (uz m (r+1) _ (by simp at h⊢;omega))
  obtain⟨ys,h1,h2,h3⟩:=uz m (r+1) l om_;refine⟨ys,h1,h2,fun k h4 h5=>?_⟩;rcases RS r k with f|f
  ·exact h3 k om_ om_
  have:k=r:=by omega
  subst this;exact qN fun c g=>RT fun i=>b ⟨c,g,i⟩
theorem Ii {t:Rat}{c:Col}{m1 m2:List Col}(h:a∈m1∨a∈m2):det r (m1++(fun k=>c k-t*a k)::m2)=det r (m1++c::m2):=by
 have e:(fun k=>c k-t*a k)=fun k=>1*c k + -t*a k:=by funext k;grind
 have h0:det r (m1++a::m2)=0:=by
  rcases h with h|h
  ·obtain⟨b,d,e⟩:=List.append_of_mem h;rw[e,R0];exact mN d r b m2
  obtain⟨b,d,e⟩:=List.append_of_mem h;rw[e];exact mN b r m1 d
 rw[e,vz _ r m1 m2 rfl,h0];grind
theorem tH {r:Nat}{f:Col->Rat}{a:Col}{q:List Col}:∀ (l p:List Col),a∈q->det r (p++(l++q))=det r (p++(l.map (fun c=>fun k=>c k-f c*a k)++q))
|[],p,h=>rfl
|c::l,p,h=>by
  have h1:=tH (r:=r) (f:=f) l (p++[c]) h;rw[R0,R0]at h1;have h2:=Ii (r:=r) (t:=f c) (c:=c) (a:=a) (m1:=p) (m2:=l.map (fun c=>fun k=>c k-f c*a k)++q) (.inr (Tl _ h));show det r (p++c::(l++q))=det r (p++(fun k=>c k-f c*a k)::(l.map (fun c=>fun k=>c k-f c*a k)++q));rw[h2];exact h1
theorem tG {r:Nat}{f:Col->Rat}{a:Col}:∀ (l p:List Col),a∈p->det r (p++l)=det r (p++l.map (fun c=>fun k=>c k-f c*a k))
|[],p,h=>rfl
|c::l,p,h=>by
  have h1:=tG (r:=r) (f:=f) l (p++[c]) (Td _ h);rw[R0,R0]at h1;have h2:=Ii (r:=r) (t:=f c) (c:=c) (a:=a) (m1:=p) (m2:=l.map (fun c=>fun k=>c k-f c*a k)) (.inl h);show det r (p++c::l)=det r (p++(fun k=>c k-f c*a k)::l.map (fun c=>fun k=>c k-f c*a k));rw[h2];exact h1
theorem Ij (t:a r≠0):det r (l1++a::l2)=(-1) ^ l1.length*(a r*det (r+1) ((l1++l2).map fun c=>fun k=>c k-c r / a r*a k)):=by
 have h1:=tH (r:=r) (f:=fun c=>c r / a r) (a:=a) (q:=a::l2) l1 [] Rq;have h2:=tG (r:=r) (f:=fun c=>c r / a r) (a:=a) l2 (l1.map (fun c=>fun k=>c k-c r / a r*a k)++[a]) (Tl _ Rq);rw[R0,R0]at h2;rw[Tq,Tq]at h1;rw[h1];show det r (_++([a]++l2))=_;rw[h2];show det r (l1.map (fun c=>fun k=>c k-c r / a r*a k)++a::l2.map (fun c=>fun k=>c k-c r / a r*a k))=_;have i:(l1.map (fun c=>fun k=>c k-c r / a r*a k)).length=l1.length:=au _;generalize l:l1.map (fun c=>fun k=>c k-c r / a r*a k)=b at i;generalize m:l2.map (fun c=>fun k=>c k-c r / a r*a k)=h;have o:∀ c,c∈b∨c∈h->c r=0:=fun c g=>by
  rcases g with g|g
  ·rw[<- l]at g;obtain⟨d,_,rfl⟩:=Rs.1 g;show d r-d r / a r*a r=0;grind
  rw[<- m]at g;obtain⟨d,_,rfl⟩:=Rs.1 g;show d r-d r / a r*a r=0;grind
 rw[iD (n:=b.length+h.length) ap,sumN_at (a:=b.length) om_,kf,gQ,i,R3,l,m,sumN_zero fun j u=>?_]
 ·grind
 by_cases e:j=l1.length
 ·rw[aM e]
 rw[aF e];have h0:(b++a::h).getD j (fun _=>0) r=0:=by
  rw[am];rcases RS j b.length with h3|h3
  ·rw[Se h3,ai h3];exact o _ (.inl (Sj _))
  rw[RV h3];obtain⟨k,p⟩:∃ k,j-b.length=k+1:=⟨j-b.length-1,by omega⟩;rw[p,Tb];cases s:h[k]? with
 |none=>rfl
 |some c=>exact o c (.inr (aU s))
 rw[h0];grind
theorem sK:∀ (n r:Nat)(l:List Col),l.length=n->det r l=0->OY r n l
|0,r,l,b,h=>by
  have:l=[]:=Sd b;subst this;exact absurd (show(1:Rat)=0 from h) dc_
|n+1,r,l,b,h=>by
  by_cases f:∃ c∈l,c r≠0
  ·obtain⟨l1,a,l2,e,d⟩:=BU f;subst e;rw[Ij d]at h;have h1:det (r+1) ((l1++l2).map fun c=>fun k=>c k-c r / a r*a k)=0:=by
    rcases Rat.mul_eq_zero.1 h with h2|h2
    ·have g:∀ i:Nat,(-1:Rat) ^ i≠0:=fun i=>by
      induction i with
     |zero=>decide
     |succ i p=>rw[jk];grind
     exact absurd h2 (g _)
    rcases Rat.mul_eq_zero.1 h2 with h3|h3
    ·exact absurd h3 d
    exact h3
   exact Ce d (sK n (r+1) _ (by simp at b⊢;omega) h1)
  obtain⟨ys,h1,h2,h3⟩:=uz n (r+1) l om_;refine⟨ys,h1,h2,fun k h4 h5=>?_⟩;rcases RS r k with j|j
  ·exact h3 k om_ om_
  have:k=r:=by omega
  subst this;exact qN fun c m=>RT fun o=>f ⟨c,m,o⟩
def fctM (M:Nat):Nat->Nat
|0=>1
|n+1=>(n+1)*(M*fctM M n)
theorem AG {M:Nat}:∀ (n r:Nat)(l:List Col),l.length=n->(∀ c∈l,∀ k,r<=k->k<r+n->∃ z:Int,c k=z/\z.natAbs<=M)->∃ z:Int,det r l=z/\z.natAbs<=fctM M n
|0,r,l,b,_=>by
  have:l=[]:=Sd b;subst this;exact⟨1,U,Ro 1⟩
|n+1,r,l,b,h=>by
  rw[iD b];have t:∀ m,m<=n+1->∃ z:Int,sumN (fun i=>(-1) ^ i*((l.getD i fun _=>0) r*det (r+1) (l.eraseIdx i))) m=z/\z.natAbs<=m*(M*fctM M n):=by
   intro m;induction m with
  |zero=>intro _;exact⟨0,rfl,by simp⟩
  |succ m a =>
    intro hm;obtain⟨z,e,d⟩:=a om_;have f:m<l.length:=by omega
    have g:l.getD m (fun _=>0)∈l:=by rw[am,ai f];exact Sj _
    obtain⟨u,j,o⟩:=h _ g r (Ro _) om_;obtain⟨w,p,q⟩:=AG (M:=M) n (r+1) (l.eraseIdx m) (by rw[List.length_eraseIdx,aM f];omega) (fun c v k h1 h2=>h c (List.mem_of_mem_eraseIdx v) k om_ om_);have hs:∃ s:Int,((-1:Rat) ^ m=s)/\s.natAbs=1:=by
     clear a e d hm f g j o p q;induction m with
    |zero=>exact⟨1,rfl,rfl⟩
    |succ m a =>
      obtain⟨s,h1,h2⟩:=a;exact⟨-s,by rw[jk,h1,Rat.intCast_neg],by omega⟩
    obtain⟨s,es,hs⟩:=hs;refine⟨z+s*(u*w), ?_, ?_⟩
    ·simp only[sumN];rw[e,j,p,es,Ut,Si,Si]
    have h1:=TT z (s*(u*w));have h2:(s*(u*w)).natAbs=u.natAbs*w.natAbs:=by rw[SK,SK,hs,TC]
    have h3:u.natAbs*w.natAbs<=M*fctM M n:=SJ o q;rw[Nat.succ_mul];omega
  obtain⟨z,e,d⟩:=t (n+1) (Ro _);exact⟨z,e,d⟩
end Go.Jog.Lp
namespace Go.Jog.Lp
theorem pJ (h:Nat->Rat):∀ n,sumN h (n+1)=h 0+sumN (fun p=>h (p+1)) n
|0=>by simp only[sumN];grind
|n+1=>by
  have a:=pJ h n;have e:sumN h (n+1+1)=sumN h (n+1)+h (n+1):=rfl;rw[e,a];simp only[sumN];grind
theorem zt {g:Nat->Rat}{n:Nat}:∀ {l:List Nat},l.Nodup->(∀ v∈l,v<n)->sumN (fun j=>if j∈l then g j else 0) n=sumN (fun p=>g (l.getD p 0)) l.length
|[],_,_=>sumN_zero fun j _=>aF Ss
|v::l,c,a=>by
  have b:=UO.1 c;rw[RH,pJ,sumN_at (a v Rq),aM Rq];have d:=zt (g:=g) (n:=n) b.2 fun u e=>a u (RB _ e);show g v+_=g v+sumN (fun p=>g (l.getD p 0)) l.length;rw[<- d];congr 1;refine sumN_congr fun j _=>?_;by_cases h1:j=v
  ·subst h1;rw[aM rfl,aF b.1]
  rw[aF h1];by_cases h2:j∈l
  ·rw[aM (RB _ h2),aM h2]
  rw[aF h2,aF (fun h=>(RC.1 h).elim h1 h2)]
theorem CQ:∀ {ys:List Rat}{l:List Col}(k:Nat),ys.length=l.length->ni ys l k=sumN (fun j=>ys.getD j 0*(l.getD j fun _=>0) k) l.length
|[],[],k,_=>rfl
|y::ys,c::l,k,h=>by
  have a:=CQ (ys:=ys) (l:=l) k (by simpa using h);rw[RH,pJ];show y*c k+ni ys l k=y*c k+sumN (fun p=>ys.getD p 0*(l.getD p fun _=>0) k) l.length;rw[a]
|[],_::_,_,h=>by cases h
|_::_,[],_,h=>by cases h
structure Sys where
 n:Nat
 m:Nat
 a:Nat->Nat->Rat
 b:Nat->Rat
def Sys.Sol (p:Sys)(x:Nat->Rat):Prop:=∀ r,r<p.m->x (p.n+r)=p.b r-sumN (fun j=>p.a r j*x j) p.n
structure Sys.Wh (p:Sys)(D:Nat->Int)(M:Nat):Prop where
 d:∀ r,r<p.m->D r≠0/\(D r).natAbs<=M
 a:∀ r j,r<p.m->j<p.n->∃ z:Int,D r*p.a r j=z/\z.natAbs<=M
 b:∀ r,r<p.m->∃ z:Int,D r*p.b r=z/\z.natAbs<=M
structure TabOf (p:Sys)(t:Tab):Prop where
 ok:t.Ok (p.n+p.m)
 lb:t.basic.length=p.m
 lo:t.others.length=p.n
 sol:∀ x,t.Sol x ↔ p.Sol x
def Quo (K:Nat)(q:Rat):Prop:=∃ z w:Int,w≠0/\q*w=z/\z.natAbs<=K/\w.natAbs<=K
section
variable {p:Sys} {t:Tab}
theorem TabOf.all (h:TabOf p t){v:Nat}(c:v<p.n+p.m):v∈t.basic∨v∈t.others:=by
 apply RT;intro b;have d:(v::(t.basic++t.others)).Nodup:=UO.2 ⟨fun hm=>by rcases RF.1 hm with h1|h1;exact b (.inl h1);exact b (.inr h1),h.ok.nd⟩;have:=List.Nodup.length_le_of_subset (l₂:=List.range (p.n+p.m)) d (fun u a=>by
  rcases RC.1 a with rfl|a
  ·exact RL.2 c
  exact RL.2 (h.ok.lt u a))
 simp only[RH,Ru,SI,h.lb,h.lo]at this;omega
def FB (p:Sys)(t:Tab):List Nat:=t.basic.filter fun v=>decide (v<p.n)
def SO (p:Sys)(t:Tab):List Nat:=t.others.filter fun v=>decide (p.n<=v)
theorem tA {q:Nat->Bool}:∀ l:List Nat,(l.filter q).length+(l.filter fun v=>!q v).length=l.length
|[]=>rfl
|x::l=>by
  have:=tA (q:=q) l;cases h:q x <;> simp[h] <;> omega
theorem TabOf.len (h:TabOf p t):(FB p t).length=(SO p t).length:=by
 have b:(t.basic++t.others).Perm (List.range (p.n+p.m)):=by
  refine(List.perm_ext_iff_of_nodup h.ok.nd List.nodup_range).2 fun v=>?_;rw[RL,RF];exact⟨fun a=>h.ok.lt v (RF.2 a),h.all⟩
 have h1:=(b.filter fun v=>decide (v<p.n)).length_eq;rw[S4,Ru]at h1;have h2:((List.range (p.n+p.m)).filter fun v=>decide (v<p.n)).length=p.n:=by
  have e:∀ k,((List.range (p.n+k)).filter fun v=>decide (v<p.n))=List.range p.n:=fun k=>by
   induction k with
  |zero=>exact List.filter_eq_self.2 fun v a=>by rw[RL]at a;exact RJ a
  |succ k c=>rw[<- TF,SC,S4,c,List.filter_cons,aF ak];simp
  rw[e,SI]
 have h3:=tA (q:=fun v=>decide (v<p.n)) t.others;have h4:(t.others.filter fun v=>!decide (v<p.n))=SO p t:=by
  unfold SO;congr 1;funext v;by_cases a:v<p.n
  ·rw[RJ a,RU om_];rfl
  rw[RU a,RJ om_];rfl
 rw[h4,h.lo]at h3;unfold FB;omega
theorem mH {v:Nat}:v∈FB p t ↔ v∈t.basic/\v<p.n:=by unfold FB;rw[SY,Ry]
theorem L4 {v:Nat}:v∈SO p t ↔ v∈t.others/\p.n<=v:=by unfold SO;rw[SY,Ry]
theorem K4 (h:TabOf p t):(FB p t).Nodup:=h.ok.nb.filter _
def iI (p:Sys)(t:Tab)(D:Nat->Int):List Col:=(FB p t).map fun v=>fun k=>(D ((SO p t).getD k 0-p.n):Rat)*p.a ((SO p t).getD k 0-p.n) v
theorem vE {D:Nat->Int}{i:Nat}(b:i<(FB p t).length)(k:Nat):((iI p t D).getD i fun _=>0) k=(D ((SO p t).getD k 0-p.n):Rat)*p.a ((SO p t).getD k 0-p.n) ((FB p t).getD i 0):=by
 unfold iI;have e:(FB p t)[i]?=some ((FB p t).getD i 0):=by rw[am,ai b];rfl
 rw[am,Rr,e];rfl
theorem Pz (h:TabOf p t){k:Nat}(a:k<(FB p t).length):(SO p t).getD k 0∈t.others/\p.n<=(SO p t).getD k 0/\(SO p t).getD k 0-p.n<p.m:=by
 have h1:=iw (l:=SO p t) (i:=k) (by rw[<- h.len];exact a);obtain⟨h2,h3⟩:=L4.1 h1;have h4:=h.ok.lt _ (Tl _ h2);exact⟨h2,h3,by omega⟩
theorem MD (h:TabOf p t)(g:Nat->Rat):sumN (fun j=>if j∈FB p t then g j else 0) p.n=sumN (fun i=>g ((FB p t).getD i 0)) (FB p t).length:=zt (K4 h) fun _ a=>(mH.1 a).2
theorem OF (h:TabOf p t){D:Nat->Int}{M:Nat}(x:p.Wh D M):det 0 (iI p t D)≠0:=by
 intro h0;have f:(iI p t D).length=(FB p t).length:=au _;obtain⟨ys,s,⟨y,hy,z⟩,A⟩:=sK _ 0 _ rfl h0
 -- a second assignment over the same values of the others
 let w:Nat->Rat:=fun v=>if v∈FB p t then ys.getD ((FB p t).idxOf v) 0 else 0
 let u:Nat->Rat:=fun v=>if v<p.n then w v else if v<p.n+p.m then -sumN (fun j=>p.a (v-p.n) j*w j) p.n else 0
 have g:∀ j,j<p.n->u j=w j:=fun j b=>aM b;have B:p.Sol fun v=>t.sol v+u v:=by
  intro r hr;have h1:=(h.sol _).1 (eT h.ok) r hr;have h2:u (p.n+r)=-sumN (fun j=>p.a r j*w j) p.n:=by
   show(if p.n+r<p.n then w (p.n+r) else if p.n+r<p.n+p.m then -sumN (fun j=>p.a (p.n+r-p.n) j*w j) p.n else 0)=_;rw[aF om_,aM om_,SZ]
  show t.sol (p.n+r)+u (p.n+r)=_;have h3:sumN (fun j=>p.a r j*(t.sol j+u j)) p.n=sumN (fun j=>p.a r j*t.sol j) p.n+sumN (fun j=>p.a r j*w j) p.n:=by
   rw[<- sumN_add];exact sumN_congr fun j b=>by rw[g j b];grind
  rw[h1,h2,h3];grind
 have C:∀ v,v ∉ t.basic->t.sol v+u v=0:=by
  intro v l;rw[sol_oth h.ok l];have E:u v=0:=by
   by_cases h1:v<p.n
   ·rw[g v h1];exact aF fun hm=>l (mH.1 hm).1
   by_cases h2:v<p.n+p.m
   ·have F:v∈t.others:=(h.all h2).resolve_left l;obtain⟨k,G,e⟩:=dq ((L4 (p:=p) (t:=t)).2 ⟨F,by omega⟩);rw[<- h.len]at G;have o:=A k (Rv _) (by rw[f];omega);rw[CQ k s,f]at o;have H:sumN (fun j=>ys.getD j 0*((iI p t D).getD j fun _=>0) k) (FB p t).length=(D (v-p.n):Rat)*sumN (fun i=>p.a (v-p.n) ((FB p t).getD i 0)*w ((FB p t).getD i 0)) (FB p t).length:=by
     rw[<- sumN_mul];refine sumN_congr fun i c=>?_;rw[vE c,e];have I:w ((FB p t).getD i 0)=ys.getD i 0:=by
      show(if (FB p t).getD i 0∈FB p t then ys.getD ((FB p t).idxOf ((FB p t).getD i 0)) 0 else 0)=_;rw[aM (iw c),cT (K4 h) c]
     rw[I];grind
    rw[H]at o;have J:(D (v-p.n):Rat)≠0:=by
     have:=(x.d (v-p.n) om_).1;simpa using this
    have hs:sumN (fun i=>p.a (v-p.n) ((FB p t).getD i 0)*w ((FB p t).getD i 0)) (FB p t).length=0:=by
     rcases Rat.mul_eq_zero.1 o with h3|h3
     ·exact absurd h3 J
     exact h3
    have h4:sumN (fun j=>p.a (v-p.n) j*w j) p.n=0:=by
     rw[<- hs,<- MD h fun j=>p.a (v-p.n) j*w j];refine sumN_congr fun j _=>?_;by_cases b:j∈FB p t
     ·rw[aM b]
     rw[aF b,show w j=0 from aF b];grind
    show(if v<p.n then w v else if v<p.n+p.m then -sumN (fun j=>p.a (v-p.n) j*w j) p.n else 0)=0;rw[aF h1,aM h2,h4];grind
   show(if v<p.n then w v else if v<p.n+p.m then -sumN (fun j=>p.a (v-p.n) j*w j) p.n else 0)=0;rw[aF h1,aF h2]
  rw[E];grind
 have K:=BW h.ok ((h.sol _).2 B) C;obtain⟨i,c,e⟩:=List.getElem_of_mem hy;have q:i<(FB p t).length:=by rw[<- f,<- s];exact c
 have h5:=K ((FB p t).getD i 0);have L:u ((FB p t).getD i 0)=y:=by
  rw[g _ (mH.1 (iw q)).2];show(if (FB p t).getD i 0∈FB p t then ys.getD ((FB p t).idxOf ((FB p t).getD i 0)) 0 else 0)=_;rw[aM (iw q),cT (K4 h) q,am,ai c,e];rfl
 exact z (by rw[<- L];grind)
end
end Go.Jog.Lp
namespace Go.Jog.Lp
theorem MC {M:Nat}(a:0<M):∀ {k n:Nat},k<=n->fctM M k<=fctM M n:=by
 intro k n h;induction h with
|refl=>exact Ro _
|@step m _ b =>
  refine RD b ?_;show fctM M m<=(m+1)*(M*fctM M m);have:1*(1*fctM M m)<=(m+1)*(M*fctM M m):=SJ (Nat.le_add_left 1 _) (SJ a (Ro _));rw[TC,TC]at this;exact this
theorem sumN_int {g:Nat->Rat}{B:Nat}:∀ {n:Nat},(∀ j,j<n->∃ z:Int,g j=z/\z.natAbs<=B)->∃ z:Int,sumN g n=z/\z.natAbs<=n*B
|0,_=>⟨0,rfl,by simp⟩
|n+1,h=>by
  obtain⟨z,e,b⟩:=sumN_int (g:=g) (n:=n) fun j c=>h j om_;obtain⟨w,a,d⟩:=h n om_;refine⟨z+w,by rw[sumN,e,a,Ut], ?_⟩;have:=TT z w;rw[Nat.succ_mul];omega
section
variable {p:Sys} {t:Tab} {D:Nat->Int} {M:Nat}
def bdT (p:Sys)(M:Nat):Nat:=fctM (2*M) p.n
theorem Qh (h:TabOf p t):(FB p t).length<=p.n:=by
 have:=List.Nodup.length_le_of_subset (l₂:=List.range p.n) (K4 h) fun v a=>RL.2 (mH.1 a).2
 rwa [SI]at this
theorem Dl (h:TabOf p t)(c:p.Wh D M){i k:Nat}(b:i<(FB p t).length)(d:k<(FB p t).length):∃ z:Int,((iI p t D).getD i fun _=>0) k=z/\z.natAbs<=2*M:=by
 rw[vE b];obtain⟨z,e,f⟩:=c.a _ _ (Pz h d).2.2 (mH.1 (iw b)).2;exact⟨z,e,by omega⟩
theorem vA (h:TabOf p t)(f:p.Wh D M)(l:0<M):∃ d:Int,det 0 (iI p t D)=d/\d≠0/\d.natAbs<=bdT p M:=by
 have a:(iI p t D).length=(FB p t).length:=au _;obtain⟨d,e,g⟩:=AG (M:=2*M) (FB p t).length 0 (iI p t D) a fun c j k _ m=>by
  obtain⟨i,b,e⟩:=List.getElem_of_mem j;rw[a]at b;have:=Dl h f b (show k<(FB p t).length by omega);rw[am,ai (by rw[a];exact b),e]at this;exact this
 refine⟨d,e, ?_,RD g (MC om_ (Qh h))⟩;rintro rfl;exact OF h f (by rw[e];rfl)
theorem Gs (h:TabOf p t)(s:p.Wh D M)(N:0<M){x g:Nat->Rat}(B:∀ r,r<p.m->x (p.n+r)=g r-sumN (fun j=>p.a r j*if j∈FB p t then x j else 0) p.n)
  (C:∀ r,r<p.m->∃ z:Int,D r*g r=z/\z.natAbs<=M) (E:∀ v,v∈t.others->p.n<=v->∃ z:Int,x v=z/\z.natAbs<=1) {i:Nat} (F:i<(FB p t).length) :
  ∃ z:Int,x ((FB p t).getD i 0)*det 0 (iI p t D)=z/\z.natAbs<=bdT p M:=by
 have b:(iI p t D).length=(FB p t).length:=au _;have q:=Qq (l:=iI p t D) (i:=i) (by rw[b];exact F) (fun j=>x ((FB p t).getD j 0)) 0;rw[<- q];have G:∀ k,k<(FB p t).length->∃ z:Int,Lk (iI p t D) (fun j=>x ((FB p t).getD j 0)) (iI p t D).length k=z/\z.natAbs<=2*M:=by
  intro k u;obtain⟨H,I,o⟩:=Pz h u;obtain⟨r,hr⟩:∃ r,(SO p t).getD k 0-p.n=r:=⟨_,rfl⟩;rw[hr]at o;have J:(SO p t).getD k 0=p.n+r:=by omega
  have e:Lk (iI p t D) (fun j=>x ((FB p t).getD j 0)) (iI p t D).length k=(D r:Rat)*(g r-x (p.n+r)):=by
   have h4:=B r o;have h5:sumN (fun j=>p.a r j*if j∈FB p t then x j else 0) p.n=sumN (fun j=>if j∈FB p t then p.a r j*x j else 0) p.n:=sumN_congr fun j _=>by
    split
    ·rfl
    grind
   rw[h5,MD h]at h4;have K:g r-x (p.n+r)=sumN (fun i=>p.a r ((FB p t).getD i 0)*x ((FB p t).getD i 0)) (FB p t).length:=by rw[h4];grind
   rw[K,<- sumN_mul];unfold Lk;rw[b];refine sumN_congr fun j f=>?_;rw[vE f,hr];grind
  obtain⟨z,ez,y⟩:=C r o;obtain⟨w,A,L⟩:=E _ H I;rw[J]at A;refine⟨z-D r*w, ?_, ?_⟩
  ·rw[e,A,TP,Si,<- ez];grind
  have h5:=(s.d r o).2;have O:(D r*w).natAbs<=M*1:=by rw[SK];exact SJ h5 L
  omega
 obtain⟨z,ez,y⟩:=AG (M:=2*M) (FB p t).length 0 ((iI p t D).set i (Lk (iI p t D) (fun j=>x ((FB p t).getD j 0)) (iI p t D).length)) (by rw[Sh,b]) fun c q k _ u=>by
  rcases SM q with hm|rfl
  ·obtain⟨j,f,e⟩:=List.getElem_of_mem hm;rw[b]at f;have:=Dl h s f (show k<(FB p t).length by omega);rw[am,ai (by rw[b];exact f),e]at this;exact this
  exact G k om_
 exact⟨z,ez,RD y (MC om_ (Qh h))⟩
theorem zJ (h:TabOf p t)(f:p.Wh D M)(g:0<M){x k:Nat->Rat}(s:∀ r,r<p.m->x (p.n+r)=k r-sumN (fun j=>p.a r j*if j∈FB p t then x j else 0) p.n)
  (u:∀ r,r<p.m->∃ z:Int,D r*k r=z/\z.natAbs<=M) (w:∀ v,v∈t.others->p.n<=v->∃ z:Int,x v=z/\z.natAbs<=1)
  {a0:Nat->Rat} {b0:Rat} {b:Int} {c:Nat} (l:b≠0/\b.natAbs<=c) (y:∀ j,j<p.n->∃ z:Int,b*a0 j=z/\z.natAbs<=c) (A:∃ z:Int,b*b0=z/\z.natAbs<=c) :
  Quo ((p.n+1)*(c*bdT p M)) (b0-sumN (fun j=>a0 j*if j∈FB p t then x j else 0) p.n):=by
 obtain⟨d,B,C,o⟩:=vA h f g;obtain⟨q,E,F⟩:=A;have hs:∃ z:Int,sumN (fun j=>(b*a0 j)*((if j∈FB p t then x j else 0)*d)) p.n=z/\z.natAbs<=p.n*(c*bdT p M):=sumN_int fun j G=>by
  obtain⟨H,I,J⟩:=y j G;by_cases hm:j∈FB p t
  ·obtain⟨i,K,e⟩:=dq hm;obtain⟨z,ez,L⟩:=Gs h f g s u w K;rw[e,B]at ez;refine⟨H*z, ?_, ?_⟩
   ·rw[aM hm,I,ez,Si]
   rw[SK];exact SJ J L
  refine⟨0, ?_,Rv _⟩;rw[aF hm];show _=(0:Rat);grind
 obtain⟨N,es,O⟩:=hs;refine⟨q*d-N,b*d,Int.mul_ne_zero l.1 C, ?_, ?_, ?_⟩
 ·rw[TP,Si,Si,<- es,<- E];have e:sumN (fun j=>(b*a0 j)*((if j∈FB p t then x j else 0)*d)) p.n=(b*d:Rat)*sumN (fun j=>a0 j*if j∈FB p t then x j else 0) p.n:=by
   rw[<- sumN_mul];exact sumN_congr fun j _=>by grind
  rw[e];grind
 ·have h4:(q*d).natAbs<=c*bdT p M:=by rw[SK];exact SJ F o
  rw[Nat.succ_mul];omega
 have h4:(b*d).natAbs<=c*bdT p M:=by rw[SK];exact SJ l.2 o
 rw[Nat.succ_mul];omega
end
end Go.Jog.Lp
namespace Go.Jog.Lp
section
variable {p:Sys} {t:Tab} {D:Nat->Int} {M:Nat}
theorem TabOf.pivot (h:TabOf p t){r s:Nat}(a:r<t.basic.length)(b:s<t.others.length)(c:(t.line r).g s≠0):TabOf p (t.pivot r s) :=
 ⟨CD h.ok a b,List.length_set.trans h.lb,List.length_set.trans h.lo,fun x=>(xy h.ok a b c).trans (h.sol x)⟩
def ObjOf (p:Sys)(t:Tab)(w0:Rat)(cc:Nat->Rat):Prop:=∀ x,p.Sol x->t.W x=w0+sumN (fun j=>cc j*x j) p.n
theorem ObjOf.pivot {a:Rat}{b:Nat->Rat}(d:ObjOf p t a b)(h:TabOf p t){r s:Nat}(e:r<t.basic.length)(f:s<t.others.length)(i:(t.line r).g s≠0):ObjOf p (t.pivot r s) a b :=
 fun x c=>(GJ h.ok e f i ((h.sol x).2 c)).trans (d x c)
def bdQ (p:Sys)(M:Nat):Nat:=(p.n+1)*(M*bdT p M)
theorem IM (a:0<M):bdT p M<=bdQ p M:=by
 have:1*(1*bdT p M)<=(p.n+1)*(M*bdT p M):=SJ (Nat.le_add_left 1 _) (SJ a (Ro _))
 rwa [TC,TC]at this
def bdW (p:Sys)(M M0:Nat):Nat:=(p.n+1)*(M0*bdT p M)
theorem Gu (h:TabOf p t)(b:p.Wh D M)(c:0<M){x o:Nat->Rat}(g:∀ r,r<p.m->x (p.n+r)=o r-sumN (fun j=>p.a r j*if j∈FB p t then x j else 0) p.n)
  (l:∀ r,r<p.m->∃ z:Int,D r*o r=z/\z.natAbs<=M) (q:∀ v,v∈t.others->p.n<=v->∃ z:Int,x v=z/\z.natAbs<=1) {i:Nat} (s:i<t.basic.length):Quo (bdQ p M) (x (t.bas i)):=by
 by_cases u:t.bas i<p.n
 ·obtain⟨k,w,e⟩:=dq (mH.2 ⟨bas_mem s,u⟩:t.bas i∈FB p t);obtain⟨z,ez,y⟩:=Gs h b c g l q w;obtain⟨d,A,B,C⟩:=vA h b c;rw[e,A]at ez;exact⟨z,d,B,ez,RD y (IM c),RD C (IM c)⟩
 have G:=h.ok.lt _ (RF.2 (.inl (bas_mem s)));obtain⟨r,hr⟩:∃ r,t.bas i-p.n=r:=⟨_,rfl⟩;have E:t.bas i=p.n+r:=by omega
 have f:r<p.m:=by omega
 rw[E,g r f];exact zJ h b c g l q (b.d r f) (fun j F=>b.a r j f F) (l r f)
theorem FY (h:TabOf p t){j:Nat}(a:j<p.n):t.sol j=if j∈FB p t then t.sol j else 0:=by
 split
 ·rfl
 next b=>exact sol_oth h.ok fun c=>b (mH.2 ⟨c,a⟩)
theorem zw (h:TabOf p t)(r:Nat)(c:r<p.m):t.sol (p.n+r)=p.b r-sumN (fun j=>p.a r j*if j∈FB p t then t.sol j else 0) p.n:=by
 rw[(h.sol _).1 (eT h.ok) r c];congr 1;exact sumN_congr fun j d=>by rw[<- FY h d]
theorem FX (h:TabOf p t)(v:Nat)(a:v∈t.others):∃ z:Int,t.sol v=z/\z.natAbs<=1:=⟨0,by rw[sol_oth h.ok fun b=>h.ok.dj b a];rfl,by decide⟩
theorem OK (h:TabOf p t)(a:p.Wh D M)(e:0<M){i:Nat}(d:i<t.basic.length):Quo (bdQ p M) (t.line i).c:=by
 rw[<- sol_bas h.ok d];exact Gu h a e (zw h) a.b (fun v f _=>FX h v f) d
def Tab.dir (t:Tab)(s v:Nat):Rat:=t.ext (dB (t.oth s)) v-t.sol v
theorem dir_bas (h:TabOf p t){s i:Nat}(b:s<t.others.length)(a:i<t.basic.length):t.dir s (t.bas i)=(t.line i).g s:=by
 unfold Tab.dir;rw[vn h.ok a,qM h.ok b,sol_bas h.ok a];grind
theorem dir_oth (h:TabOf p t){s v:Nat}(a:v ∉ t.basic):t.dir s v=if v=t.oth s then 1 else 0:=by
 unfold Tab.dir;rw[vm h.ok a,sol_oth h.ok a];unfold dB;split <;> grind
theorem If (h:TabOf p t){s:Nat}(d:s<t.others.length)(g:Nat->Rat) :
  sumN (fun j=>g j*t.dir s j) p.n=(if t.oth s<p.n then g (t.oth s) else 0)+sumN (fun j=>g j*if j∈FB p t then t.dir s j else 0) p.n:=by
 have f:t.oth s ∉ t.basic:=fun a=>h.ok.dj a (oth_mem d);have e:∀ j,j<p.n->g j*t.dir s j=(if j=t.oth s then g j else 0)+g j*(if j∈FB p t then t.dir s j else 0):=by
  intro j b;by_cases a:j∈FB p t
  ·rw[aM a,aF (fun e:j=t.oth s=>f (e ▸ (mH.1 a).1))];grind
  rw[aF a,dir_oth h fun i=>a (mH.2 ⟨i,b⟩)];split <;> grind
 rw[sumN_congr e,sumN_add];congr 1;split
 ·next c =>
  rw[sumN_at c,aM rfl,sumN_zero fun j _=>?_]
  ·grind
  split <;> rfl
 next c=>exact sumN_zero fun j b=>aF fun e:j=t.oth s=>c (e ▸ b)
def hhD (p:Sys)(t:Tab)(s r:Nat):Rat:=if t.oth s<p.n then -p.a r (t.oth s) else 0
theorem Ig (h:TabOf p t){s:Nat}(d:s<t.others.length)(r:Nat)(c:r<p.m):t.dir s (p.n+r)=hhD p t s r-sumN (fun j=>p.a r j*if j∈FB p t then t.dir s j else 0) p.n:=by
 have h1:=(h.sol _).1 (nO h.ok (dB (t.oth s))) r c;have h2:=(h.sol _).1 (eT h.ok) r c;have h3:=If h d (p.a r);have h4:sumN (fun j=>p.a r j*t.dir s j) p.n=sumN (fun j=>p.a r j*t.ext (dB (t.oth s)) j) p.n-sumN (fun j=>p.a r j*t.sol j) p.n:=by
  have h5:=sumN_add (fun j=>p.a r j*t.dir s j) (fun j=>p.a r j*t.sol j) p.n;rw[show sumN (fun j=>p.a r j*t.dir s j+p.a r j*t.sol j) p.n=sumN (fun j=>p.a r j*t.ext (dB (t.oth s)) j) p.n from sumN_congr fun j _=>by unfold Tab.dir;grind]at h5;grind
 have e:t.dir s (p.n+r)=t.ext (dB (t.oth s)) (p.n+r)-t.sol (p.n+r):=rfl;unfold hhD;rw[e,h1,h2];split at h3
 ·next b=>rw[aM b];grind
 next b=>rw[aF b];grind
theorem HK (b:p.Wh D M)(s:Nat)(r:Nat)(c:r<p.m):∃ z:Int,D r*hhD p t s r=z/\z.natAbs<=M:=by
 unfold hhD;split
 ·next d =>
  obtain⟨z,e,f⟩:=b.a r _ c d;exact⟨-z,by rw[Rat.intCast_neg,<- e];grind,by omega⟩
 exact⟨0,by show _=(0:Rat);grind,Rv _⟩
theorem MG (h:TabOf p t){s:Nat}(v:Nat)(a:v∈t.others):∃ z:Int,t.dir s v=z/\z.natAbs<=1:=by
 rw[dir_oth h fun b=>h.ok.dj b a];split
 ·exact⟨1,U,by decide⟩
 exact⟨0,U,by decide⟩
theorem Ow (h:TabOf p t)(a:p.Wh D M)(d:0<M){i s:Nat}(b:i<t.basic.length)(c:s<t.others.length):Quo (bdQ p M) ((t.line i).g s):=by
 rw[<- dir_bas h c b];exact Gu h a d (Ig h c) (HK a s) (fun v e _=>MG h v e) b
variable {w0:Rat} {cc:Nat->Rat}
theorem Ji (h:TabOf p t)(g:p.Wh D M)(i:0<M)(k:ObjOf p t w0 cc){a:Int}{d:Nat}(l:a≠0/\a.natAbs<=d)(m:∀ j,j<p.n->∃ z:Int,a*cc j=z/\z.natAbs<=d)(o:∃ z:Int,a*w0=z/\z.natAbs<=d):Quo (bdW p M d) t.worth.c:=by
 rw[<- DZ h.ok,k _ ((h.sol _).1 (eT h.ok))];have:=zJ h g i (zw h) g.b (fun v q _=>FX h v q) (a0:=fun j=>-cc j) (b0:=w0) l (fun j f=>by obtain⟨z,e,r⟩:=m j f;exact⟨-z,by rw[Rat.intCast_neg,<- e];grind,by omega⟩) o;rw[show w0+sumN (fun j=>cc j*t.sol j) p.n=w0-sumN (fun j=>-cc j*if j∈FB p t then t.sol j else 0) p.n from ?_]
 ·exact this
 have e:sumN (fun j=>-cc j*if j∈FB p t then t.sol j else 0) p.n=-1*sumN (fun j=>cc j*t.sol j) p.n:=by
  rw[<- sumN_mul];exact sumN_congr fun j f=>by rw[<- FY h f];grind
 rw[e];grind
theorem Jf (h:TabOf p t)(f:p.Wh D M)(m:0<M)(i:ObjOf p t w0 cc){a:Int}{b:Nat}(o:a≠0/\a.natAbs<=b)(k:∀ j,j<p.n->∃ z:Int,a*cc j=z/\z.natAbs<=b){s:Nat}(d:s<t.others.length):Quo (bdW p M b) (t.worth.g s):=by
 have h1:=i _ ((h.sol _).1 (nO h.ok (dB (t.oth s))));have h2:=i _ ((h.sol _).1 (eT h.ok));rw[DZ h.ok]at h2;have h3:t.W (t.ext (dB (t.oth s)))=t.worth.c+t.worth.g s:=by
  unfold Tab.W;rw[xY h.ok,qM h.ok d]
 have h4:sumN (fun j=>cc j*t.dir s j) p.n=sumN (fun j=>cc j*t.ext (dB (t.oth s)) j) p.n-sumN (fun j=>cc j*t.sol j) p.n:=by
  have h5:=sumN_add (fun j=>cc j*t.dir s j) (fun j=>cc j*t.sol j) p.n;rw[show sumN (fun j=>cc j*t.dir s j+cc j*t.sol j) p.n=sumN (fun j=>cc j*t.ext (dB (t.oth s)) j) p.n from sumN_congr fun j _=>by unfold Tab.dir;grind]at h5;grind
 have h5:t.worth.g s=(if t.oth s<p.n then cc (t.oth s) else 0)-sumN (fun j=>-cc j*if j∈FB p t then t.dir s j else 0) p.n:=by
  have e:sumN (fun j=>-cc j*if j∈FB p t then t.dir s j else 0) p.n=-1*sumN (fun j=>cc j*if j∈FB p t then t.dir s j else 0) p.n:=by
   rw[<- sumN_mul];exact sumN_congr fun j l=>by grind
  have u:=If h d cc;rw[e];grind
 rw[h5];exact zJ h f m (Ig h d) (HK f s) (fun v q _=>MG h v q) o (fun j l=>by obtain⟨z,e,w⟩:=k j l;exact⟨-z,by rw[Rat.intCast_neg,<- e];grind,by omega⟩) (by
  split
  ·next r=>exact k _ r
  exact⟨0,by show _=(0:Rat);grind,Rv _⟩)
end
end Go.Jog.Lp
namespace Go.Jog.Lp
theorem sumN_split (g:Nat->Rat)(n:Nat):∀ m,sumN g (n+m)=sumN g n+sumN (fun r=>g (n+r)) m
|0=>by show sumN g n=sumN g n+0;grind
|m+1=>by
  show sumN g (n+m+1)=_;rw[sumN,sumN,sumN_split g n m];grind
theorem pH {g:Nat->Rat}{k n:Nat}(a:k<n):sumN (fun j=>g j*dB k j) n=g k:=by
 rw[sumN_at a,sumN_zero fun j _=>?_]
 ·unfold dB;rw[aM rfl];grind
 unfold dB;split
 ·rfl
 grind
section
variable {p:Sys} {t:Tab}
def Sys.full (p:Sys)(y:Nat->Rat)(v:Nat):Rat:=if v<p.n then y v else p.b (v-p.n)-sumN (fun j=>p.a (v-p.n) j*y j) p.n
theorem yn {y:Nat->Rat}{v:Nat}(h:v<p.n):p.full y v=y v:=aM h
theorem tt {y:Nat->Rat}(r:Nat):p.full y (p.n+r)=p.b r-sumN (fun j=>p.a r j*y j) p.n:=by
 unfold Sys.full;rw[aF om_,SZ]
theorem KW (y:Nat->Rat):p.Sol (p.full y):=by
 intro r hr;rw[tt];congr 1;exact sumN_congr fun j a=>by rw[yn a]
def dualV (p:Sys)(t:Tab)(l:Line)(r:Nat):Rat:=if p.n+r∈t.others then l.g (t.others.idxOf (p.n+r)) else 0
theorem dualV_at (h:TabOf p t){l:Line}{s:Nat}(a:s<t.others.length)(b:p.n<=t.oth s):dualV p t l (t.oth s-p.n)=l.g s:=by
 unfold dualV;rw[show p.n+(t.oth s-p.n)=t.oth s by omega,aM (oth_mem a)];congr 1;exact cT h.ok.no a
theorem dualV_none {l:Line}{r:Nat}(h:p.n+r ∉ t.others):dualV p t l r=0:=aF h
theorem iC (h:TabOf p t)(l:Line)(r:Nat):dualV p t l r=0∨∃ s,s<t.others.length/\t.oth s=p.n+r/\dualV p t l r=l.g s:=by
 by_cases hm:p.n+r∈t.others
 ·obtain⟨s,hs,e⟩:=dq hm;have a:t.oth s=p.n+r:=e;refine .inr ⟨s,hs,a, ?_⟩;have:=dualV_at h (l:=l) hs om_
  rwa [a,SZ]at this
 exact .inl (dualV_none hm)
theorem Hn (h:TabOf p t){l:Line}(b:∀ s,s<t.others.length->t.oth s<p.n->l.g s=0)(x:Nat->Rat):lv l t.others x=l.c+sumN (fun r=>dualV p t l r*x (p.n+r)) p.m:=by
 have h1:=zt (g:=fun v=>l.g (t.others.idxOf v)*x v) (n:=p.n+p.m) h.ok.no fun v a=>h.ok.lt v (RF.2 (.inr a));have h2:sumN (fun j=>l.g j*x (t.others.getD j 0)) t.others.length=sumN (fun q=>(fun v=>l.g (t.others.idxOf v)*x v) (t.others.getD q 0)) t.others.length:=sumN_congr fun j d=>by
  show _=l.g (t.others.idxOf (t.others.getD j 0))*_;rw[cT h.ok.no d]
 unfold lv;rw[h2,<- h1,sumN_split,sumN_zero fun v a=>?_]
 ·congr 1;rw[show(0:Rat)+sumN (fun r=>if p.n+r∈t.others then l.g (t.others.idxOf (p.n+r))*x (p.n+r) else 0) p.m=sumN (fun r=>if p.n+r∈t.others then l.g (t.others.idxOf (p.n+r))*x (p.n+r) else 0) p.m from by grind];refine sumN_congr fun r _=>?_;unfold dualV;split <;> grind
 split
 ·next hm =>
  obtain⟨s,hs,e⟩:=dq hm;have f:t.oth s=v:=e;rw[<- e,cT h.ok.no hs,b s hs om_];grind
 rfl
theorem cert {y:Nat->Rat}{q0 e0:Rat}{ee:Nat->Rat}(h:∀ x,p.Sol x->q0+sumN (fun r=>y r*x (p.n+r)) p.m=e0+sumN (fun j=>ee j*x j) p.n) :
  q0+sumN (fun r=>y r*p.b r) p.m=e0/\∀ j,j<p.n->sumN (fun r=>y r*p.a r j) p.m=-ee j:=by
 have d:∀ u:Nat->Rat,q0+sumN (fun r=>y r*(p.b r-sumN (fun j=>p.a r j*u j) p.n)) p.m=e0+sumN (fun j=>ee j*u j) p.n:=by
  intro u;have:=h _ (KW (p:=p) u);rw[sumN_congr (g:=fun r=>y r*p.full u (p.n+r)) (h:=fun r=>y r*(p.b r-sumN (fun j=>p.a r j*u j) p.n)) fun r _=>by rw[tt],sumN_congr (g:=fun j=>ee j*p.full u j) (h:=fun j=>ee j*u j) fun j c=>by rw[yn c]]at this;exact this
 have h0:q0+sumN (fun r=>y r*p.b r) p.m=e0:=by
  have:=d fun _=>0;rw[sumN_zero (g:=fun j=>ee j*(0:Rat)) fun j _=>by grind,sumN_congr (h:=fun r=>y r*p.b r) fun r _=>by rw[sumN_zero fun j _=>by grind];grind]at this;grind
 refine⟨h0,fun j c=>?_⟩;have h1:=d (dB j);rw[pH c,sumN_congr (h:=fun r=>y r*p.b r + -1*(y r*p.a r j)) fun r _=>by rw[pH c];grind,sumN_add,sumN_mul]at h1;grind
def Rel (F:Nat)(t:Tab)(k:Nat):Prop:=∀ s,s<k->s<t.others.length->t.oth s<F->∀ i,i<t.basic.length->F<=t.bas i->(t.line i).g s=0
theorem rel_pivot {F N k r s:Nat}(h:t.Ok N)(n:Rel F t k)(d:r<t.basic.length)(q:s<t.others.length)(u:F<=t.bas r):Rel F (t.pivot r s) k:=by
 intro b o j a i c l;have v:(t.pivot r s).basic.length=t.basic.length:=Sh;have w:(t.pivot r s).others.length=t.others.length:=Sh;rw[w]at j;rw[v]at c;rw[qu q]at a;rw[xz d]at l;have m:b≠s:=by
  intro e;rw[aM e]at a;omega
 rw[aF m]at a;have x:=n b o j a r d u;have z:(t.line r).f.length=t.others.length:=h.fl _ (line_mem h d);have A:(t.line i).f.length=t.others.length:=h.fl _ (line_mem h c);have p:(byL (t.line r) s).g b=0:=by
  rw[byL_g om_,aF m,x];grind
 rw[pivot_line (by rw[h.ll];exact c)];split
 ·exact p
 next y =>
 rw[aF y]at l;rw[GA om_,aF m,n b o j a i c l,p];grind
theorem rel_next {F N r s:Nat}(h:t.Ok N)(d:Rel F t s)(f:r<t.basic.length)(a:s<t.others.length)(g:F<=t.bas r):Rel F (t.pivot r s) (s+1):=by
 intro b m j c i k l;by_cases e:b=s
 ·rw[e,qu a,aM rfl]at c;omega
 exact rel_pivot h d f a g b om_ j c i k l
theorem rel_none {F s:Nat}(d:Rel F t s)(f:∀ i,i<t.basic.length->F<=t.bas i->(t.line i).g s=0):Rel F t (s+1):=by
 intro a k h j i b c;by_cases e:a=s
 ·rw[e];exact f i b c
 exact d a om_ h j i b c
theorem JC (h:TabOf p t)(r:Nat)(c:r<p.m):t.sol (p.n+r)=p.b r-sumN (fun j=>p.a r j*t.sol j) p.n:=(h.sol _).1 (eT h.ok) r c
theorem tC (h:TabOf p t)(f:t.Feas p.n)(r:Nat)(g:r<p.m):sumN (fun j=>p.a r j*t.sol j) p.n<=p.b r:=by
 have h1:=JC h r g;have h2:0<=t.sol (p.n+r):=by
  by_cases c:p.n+r∈t.basic
  ·obtain⟨i,d,e⟩:=dq c;have k:t.bas i=p.n+r:=e;rw[<- k,sol_bas h.ok d];exact f i d om_
  rw[sol_oth h.ok c];exact Rat.le_refl
 grind
def refV (p:Sys)(t:Tab)(i r:Nat):Rat:=if r=t.bas i-p.n then 1 else -dualV p t (t.line i) r
theorem PS (h:TabOf p t)(k:Rel p.n t p.n){i:Nat}(d:i<t.basic.length)(l:p.n<=t.bas i)(o:∀ s,s<t.others.length->p.n<=t.oth s->(t.line i).g s<=0) :
  (∀ r,0<=refV p t i r)/\sumN (fun r=>refV p t i r*p.b r) p.m=(t.line i).c/\∀ j,j<p.n->sumN (fun r=>refV p t i r*p.a r j) p.m=0:=by
 have B:=h.ok.lt _ (RF.2 (.inl (bas_mem d)));have q:∀ s,s<t.others.length->t.oth s<p.n->(t.line i).g s=0:=fun s hs f=>k s (by rw[<- h.lo];exact hs) hs f i d l;have u:dualV p t (t.line i) (t.bas i-p.n)=0:=dualV_none (by rw[show p.n+(t.bas i-p.n)=t.bas i by omega];exact fun f=>h.ok.dj (bas_mem d) f);have v:∀ r,dualV p t (t.line i) r<=0:=fun r=>by
  rcases iC h (t.line i) r with e|⟨s,hs,C,w⟩
  ·rw[e];exact Rat.le_refl
  rw[w];exact o s hs om_
 have y:∀ x,p.Sol x->-(t.line i).c+sumN (fun r=>refV p t i r*x (p.n+r)) p.m=0+sumN (fun j=>(0:Rat)*x j) p.n:=by
  intro x z;have h1:=(h.sol x).2 z i d;rw[Hn h q]at h1;have h2:∀ r,r<p.m->refV p t i r*x (p.n+r)=x (p.n+r)*dB (t.bas i-p.n) r + -1*(dualV p t (t.line i) r*x (p.n+r)):=by
   intro r _;unfold refV dB;split
   ·next e=>rw[e,u];grind
   grind
  rw[sumN_congr h2,sumN_add,sumN_mul,pH (g:=fun r=>x (p.n+r)) (show t.bas i-p.n<p.m by omega),sumN_zero (g:=fun j=>(0:Rat)*x j) fun j _=>by grind];rw[show p.n+(t.bas i-p.n)=t.bas i by omega,h1];grind
 obtain⟨D,c2⟩:=cert y;refine⟨fun r=>?_,by grind,fun j A=>by rw[c2 j A];decide⟩;unfold refV;split
 ·decide
 have:=v r;grind
theorem K9 (h:TabOf p t){d:Rat}{f:Nat->Rat}(i:ObjOf p t d f)(k:∀ s,s<t.others.length->t.oth s<p.n->t.worth.g s=0)(l:∀ s,s<t.others.length->p.n<=t.oth s->0<=t.worth.g s) :
  (∀ r,0<=dualV p t t.worth r)/\t.worth.c+sumN (fun r=>dualV p t t.worth r*p.b r) p.m=d/\(∀ j,j<p.n->sumN (fun r=>dualV p t t.worth r*p.a r j) p.m=-f j)/\d+sumN (fun j=>f j*t.sol j) p.n=t.worth.c:=by
 obtain⟨o,c2⟩:=cert (p:=p) (y:=dualV p t t.worth) (q0:=t.worth.c) (e0:=d) (ee:=f) fun x q=>by rw[<- i x q,<- Hn h k];rfl
 refine⟨fun r=>?_,o,c2, ?_⟩
 ·rcases iC h t.worth r with e|⟨s,hs,v,u⟩
  ·rw[e];exact Rat.le_refl
  rw[u];exact l s hs om_
 rw[<- i _ ((h.sol _).1 (eT h.ok)),DZ h.ok]
end
end Go.Jog.Lp
namespace Go.Jog.Lp
section
variable {p:Sys} {t:Tab}
theorem OB (h:TabOf p t)(s:Nat){r:Nat}(b:r<p.m):sumN (fun j=>p.a r j*t.dir s j) p.n=-t.dir s (p.n+r):=by
 have h1:=(h.sol _).1 (nO h.ok (dB (t.oth s))) r b;have h2:=(h.sol _).1 (eT h.ok) r b;have h5:=sumN_add (fun j=>p.a r j*t.dir s j) (fun j=>p.a r j*t.sol j) p.n;rw[show sumN (fun j=>p.a r j*t.dir s j+p.a r j*t.sol j) p.n=sumN (fun j=>p.a r j*t.ext (dB (t.oth s)) j) p.n from sumN_congr fun j _=>by unfold Tab.dir;grind]at h5;have c:t.dir s (p.n+r)=t.ext (dB (t.oth s)) (p.n+r)-t.sol (p.n+r):=rfl;rw[c,h1,h2];grind
theorem Ie (h:TabOf p t){d:Rat}{a:Nat->Rat}(b:ObjOf p t d a){s:Nat}(e:s<t.others.length):sumN (fun j=>a j*t.dir s j) p.n=t.worth.g s:=by
 have h1:=b _ ((h.sol _).1 (nO h.ok (dB (t.oth s))));have h2:=b _ ((h.sol _).1 (eT h.ok));rw[DZ h.ok]at h2;have h3:t.W (t.ext (dB (t.oth s)))=t.worth.c+t.worth.g s:=by
  unfold Tab.W;rw[xY h.ok,qM h.ok e]
 have h5:=sumN_add (fun j=>a j*t.dir s j) (fun j=>a j*t.sol j) p.n;rw[show sumN (fun j=>a j*t.dir s j+a j*t.sol j) p.n=sumN (fun j=>a j*t.ext (dB (t.oth s)) j) p.n from sumN_congr fun j _=>by unfold Tab.dir;grind]at h5;grind
theorem PT (h:TabOf p t){o:Rat}{b:Nat->Rat}(q:ObjOf p t o b){s:Nat}(c:s<t.others.length){k:Rat}(u:k*t.worth.g s<0)
  (v:∀ i,i<t.basic.length->p.n<=t.bas i->0<=k*(t.line i).g s) (w:p.n<=t.oth s->0<=k) :
  (∀ r,r<p.m->sumN (fun j=>p.a r j*(k*t.dir s j)) p.n<=0)/\sumN (fun j=>b j*(k*t.dir s j)) p.n<0:=by
 have e:∀ f:Nat->Rat,sumN (fun j=>f j*(k*t.dir s j)) p.n=k*sumN (fun j=>f j*t.dir s j) p.n:=fun f=>by
  rw[<- sumN_mul];exact sumN_congr fun j _=>by grind
 refine⟨fun r hr=>?_,by rw[e,Ie h q c];exact u⟩;rw[e,OB h s hr];have h2:0<=k*t.dir s (p.n+r):=by
  by_cases d:p.n+r∈t.basic
  ·obtain⟨i,l,e⟩:=dq d;have x:t.bas i=p.n+r:=e;rw[<- x,dir_bas h c l];exact v i l om_
  rw[dir_oth h d];split
  ·next e=>have:=w om_;grind
  have:k*0=0:=Rat.mul_zero k;rw[this];exact Rat.le_refl
 grind
def RelW (F:Nat)(t:Tab):Prop:=∀ s,s<t.others.length->t.oth s<F->t.worth.g s=0
theorem relw_pivot {F N r s:Nat}(h:t.Ok N)(k:∀ s,s<t.others.length->t.oth s<F->∀ i,i<t.basic.length->F<=t.bas i->(t.line i).g s=0)(l:RelW F t)(j:r<t.basic.length)(m:s<t.others.length)(n:F<=t.bas r):RelW F (t.pivot r s):=by
 intro a c b;have o:(t.pivot r s).others.length=t.others.length:=Sh;rw[o]at c;rw[qu m]at b;have d:a≠s:=by
  intro e;rw[aM e]at b;omega
 rw[aF d]at b;have p:=k a c b r j n;have u:(t.line r).f.length=t.others.length:=h.fl _ (line_mem h j);have q:(byL (t.line r) s).g a=0:=by
  rw[byL_g om_,aF d,p];grind
 show(putL t.worth s (byL (t.line r) s)).g a=0;rw[GA (by rw[h.wl];exact c),aF d,l a c b,q];grind
inductive LeastR (vs:List Nat) (q:Nat->Prop) (n:Nat):Int->Prop where
|none:(∀ i,i<n->¬ q i)->LeastR vs q n (-1)
|some (i:Nat):i<n->q i->(∀ j,j<n->q j->vs.getD i 0<=vs.getD j 0)->LeastR vs q n i
theorem LeastR.no {b:List Nat}{q:Nat->Prop}{n:Nat}{o:Int}(h:LeastR b q n o)(c:¬ q n):LeastR b q (n+1) o:=by
 cases h with
|none h=>exact .none fun i d a=>by rcases Nat.lt_or_eq_of_le (Nat.le_of_lt_succ d) with h1|h1;exact h i h1 a;exact c (h1 ▸ a)
|some i d a hm=>exact .some i om_ a fun j f e=>by rcases Nat.lt_or_eq_of_le (Nat.le_of_lt_succ f) with h1|h1;exact hm j h1 e;exact absurd (h1 ▸ e) c
theorem LeastR.first {a:List Nat}{q:Nat->Prop}{n:Nat}(h:LeastR a q n (-1))(b:q n):LeastR a q (n+1) n:=by
 have h1:∀ i,i<n->¬ q i:=by
  generalize e:(-1:Int)=o at h;cases h with
 |none h=>exact h
 |some i=>omega
 exact .some n om_ b fun j c d=>by rcases Nat.lt_or_eq_of_le (Nat.le_of_lt_succ c) with h2|h2;exact absurd d (h1 j h2);rw[h2];exact Ro _
theorem LeastR.less {a:List Nat}{q:Nat->Prop}{n i:Nat}(h:LeastR a q n i)(c:q n)(e:a.getD n 0<a.getD i 0):LeastR a q (n+1) n:=by
 generalize f:(i:Int)=o at h;cases h with
|none h=>omega
|some k g b hm =>
  obtain rfl:i=k:=by omega
  exact .some n om_ c fun j d b=>by rcases Nat.lt_or_eq_of_le (Nat.le_of_lt_succ d) with h2|h2;have:=hm j h2 b;omega;rw[h2];exact Ro _
theorem LeastR.keep {a:List Nat}{q:Nat->Prop}{n i:Nat}(h:LeastR a q n i)(d:¬ a.getD n 0<a.getD i 0):LeastR a q (n+1) i:=by
 generalize e:(i:Int)=o at h;cases h with
|none h=>omega
|some k f b hm =>
  obtain rfl:i=k:=by omega
  exact .some i om_ b fun j c b=>by rcases Nat.lt_or_eq_of_le (Nat.le_of_lt_succ c) with h2|h2;exact hm j h2 b;rw[h2];omega
inductive LeaveR (F:Nat) (t:Tab) (s n:Nat):Int->Prop where
|none:(∀ i,i<n->F<=t.bas i->0<=(t.line i).g s)->LeaveR F t s n (-1)
|some (r:Nat):r<n->F<=t.bas r->(t.line r).g s<0 ->
   (∀ i,i<n->F<=t.bas i->(t.line i).g s<0->(t.line r).c / -(t.line r).g s<(t.line i).c / -(t.line i).g s∨(t.line r).c / -(t.line r).g s=(t.line i).c / -(t.line i).g s/\t.bas r<=t.bas i)->LeaveR F t s n r
theorem LeaveR.no {F s n:Nat}{o:Int}(h:LeaveR F t s n o)(c:F<=t.bas n->0<=(t.line n).g s):LeaveR F t s (n+1) o:=by
 cases h with
|none h=>exact .none fun i e a=>by rcases Nat.lt_or_eq_of_le (Nat.le_of_lt_succ e) with h1|h1;exact h i h1 a;rw[h1]at a⊢;exact c a
|some r hr a f hm =>
  refine .some r om_ a f fun j k b d=>?_;rcases Nat.lt_or_eq_of_le (Nat.le_of_lt_succ k) with h1|h1
  ·exact hm j h1 b d
  rw[h1]at b d;have:=c b;grind
theorem LeaveR.first {F s n:Nat}(h:LeaveR F t s n (-1))(a:F<=t.bas n)(b:(t.line n).g s<0):LeaveR F t s (n+1) n:=by
 have h1:∀ i,i<n->F<=t.bas i->0<=(t.line i).g s:=by
  generalize e:(-1:Int)=o at h;cases h with
 |none h=>exact h
 |some i=>omega
 refine .some n om_ a b fun j c d f=>?_;rcases Nat.lt_or_eq_of_le (Nat.le_of_lt_succ c) with h2|h2
 ·have:=h1 j h2 d;grind
 rw[h2];exact .inr ⟨rfl,Ro _⟩
theorem LeaveR.less {F s n r:Nat}(h:LeaveR F t s n r)(a:F<=t.bas n)(b:(t.line n).g s<0)
  (d:(t.line n).c / -(t.line n).g s<(t.line r).c / -(t.line r).g s∨(t.line n).c / -(t.line n).g s=(t.line r).c / -(t.line r).g s/\t.bas n<=t.bas r):LeaveR F t s (n+1) n:=by
 generalize p:(r:Int)=o at h;cases h with
|none h=>omega
|some k q u v hm =>
  obtain rfl:r=k:=by omega
  refine .some n om_ a b fun j e f i=>?_;rcases Nat.lt_or_eq_of_le (Nat.le_of_lt_succ e) with h2|h2
  ·rcases d with h3|⟨h3,l⟩ <;> rcases hm j h2 f i with h4|⟨h4,m⟩
   ·exact .inl (by grind)
   ·exact .inl (by grind)
   ·exact .inl (by grind)
   exact .inr ⟨h3.trans h4,RD l m⟩
  rw[h2];exact .inr ⟨rfl,Ro _⟩
theorem LeaveR.keep {F s n r:Nat}(h:LeaveR F t s n r)
  (a:(t.line r).c / -(t.line r).g s<(t.line n).c / -(t.line n).g s∨(t.line r).c / -(t.line r).g s=(t.line n).c / -(t.line n).g s/\t.bas r<=t.bas n):LeaveR F t s (n+1) r:=by
 generalize l:(r:Int)=o at h;cases h with
|none h=>omega
|some k m b d hm =>
  obtain rfl:r=k:=by omega
  refine .some r om_ b d fun j e f i=>?_;rcases Nat.lt_or_eq_of_le (Nat.le_of_lt_succ e) with h2|h2
  ·exact hm j h2 f i
  rw[h2];exact a
end
end Go.Jog.Lp
namespace Go.Jog.Lp
theorem Quo.qb {K k:Nat}{q:Rat}(h:Quo K q)(i:K<B9 ^ k):QB k q:=by
 obtain⟨z,w,h1,h2,h3,h4⟩:=h;have a:∀ (z:Int)(d:Nat),d≠0->q*(d:Int)=z->z.natAbs<=K->d<=K->QB k q:=by
  intro z d b e j l;have c:q=mkRat z d:=by
   rw[Rat.mkRat_eq_div,<- e];have:(d:Rat)≠0:=fun f=>b (by exact_mod_cast f);rw[Rat.intCast_natCast];grind
  rw[c];exact gr b om_ om_
 rcases Int.lt_or_gt_of_ne h1 with g|g
 ·refine a (-z) w.natAbs om_ ?_ om_ om_;rw[show((w.natAbs:Nat):Int)=-w by omega,Rat.intCast_neg,Rat.intCast_neg,<- h2];grind
 refine a z w.natAbs om_ ?_ om_ om_;rw[show((w.natAbs:Nat):Int)=w by omega];exact h2
structure Lim (p:Sys)(cc:Nat->Rat)(k:Nat):Prop where
 ex:∃ (D:Nat->Int)(M M0:Nat)(D0:Int),0<M/\p.Wh D M/\(D0≠0/\D0.natAbs<=M0)/\(∀ j,j<p.n->∃ z:Int,D0*cc j=z/\z.natAbs<=M0)/\bdQ p M<B9 ^ k/\bdW p M M0<B9 ^ k
structure Inv (p:Sys)(cc:Nat->Rat)(t:Tab):Prop where
 tab:TabOf p t
 obj:ObjOf p t 0 cc
section
variable {p:Sys} {cc:Nat->Rat} {t:Tab} {k:Nat}
theorem Inv.con (h:Inv p cc t)(a:Lim p cc k){i:Nat}(b:i<t.basic.length):QB k (t.line i).c:=by
 obtain⟨D,M,d,e,h1,h2,h3,h4,h5,f⟩:=a.ex;exact(OK h.tab h2 h1 b).qb h5
theorem Inv.fac (h:Inv p cc t)(a:Lim p cc k){i s:Nat}(b:i<t.basic.length)(c:s<t.others.length):QB k ((t.line i).g s):=by
 obtain⟨D,M,d,e,h1,h2,h3,h4,h5,f⟩:=a.ex;exact(Ow h.tab h2 h1 b c).qb h5
theorem Inv.wcon (h:Inv p cc t)(a:Lim p cc k):QB k t.worth.c:=by
 obtain⟨D,M,d,e,h1,h2,h3,h4,h5,b⟩:=a.ex;exact(Ji h.tab h2 h1 h.obj h3 h4 ⟨0,by show _=(0:Rat);grind,Rv _⟩).qb b
theorem Inv.wfac (h:Inv p cc t)(a:Lim p cc k){s:Nat}(b:s<t.others.length):QB k (t.worth.g s):=by
 obtain⟨D,M,d,e,h1,h2,h3,h4,h5,c⟩:=a.ex;exact(Jf h.tab h2 h1 h.obj h3 h4 b).qb c
theorem Inv.pivot (h:Inv p cc t){r s:Nat}(a:r<t.basic.length)(b:s<t.others.length)(c:(t.line r).g s≠0):Inv p cc (t.pivot r s):=⟨h.tab.pivot a b c,h.obj.pivot h.tab a b c⟩
theorem Ly (a:1<=k):1<B9 ^ k:=Sq (show 1<B9 ^ 1 from by decide) (RM dc_ a)
theorem qb_zero (a:1<=k):QB k 0:=⟨Ty Nat.one_pos (Ly a),Ly a⟩
theorem Mi (a:1<=k):QB k 1:=⟨Ly a,Ly a⟩
theorem qb_neg {q:Rat}(h:QB k q):QB k (-q):=⟨by rw[UU];have:=h.1;omega,h.2⟩
theorem Inv.sol (h:Inv p cc t)(c:Lim p cc k)(d:1<=k)(v:Nat):QB k (t.sol v):=by
 by_cases a:v∈t.basic
 ·obtain⟨i,b,e⟩:=dq a;have f:t.bas i=v:=e;rw[<- f,sol_bas h.tab.ok b];exact h.con c b
 rw[sol_oth h.tab.ok a];exact qb_zero d
theorem Inv.dir (h:Inv p cc t)(f:Lim p cc k)(a:1<=k){s:Nat}(b:s<t.others.length)(v:Nat):QB k (t.dir s v):=by
 by_cases c:v∈t.basic
 ·obtain⟨i,d,e⟩:=dq c;have g:t.bas i=v:=e;rw[<- g,dir_bas h.tab b d];exact h.fac f d b
 rw[dir_oth h.tab c];split
 ·exact Mi a
 exact qb_zero a
theorem Inv.dualQ (h:Inv p cc t)(a:Lim p cc k)(b:1<=k){i:Nat}(c:i<t.basic.length)(r:Nat):QB k (dualV p t (t.line i) r):=by
 rcases iC h.tab (t.line i) r with e|⟨s,hs,_,d⟩
 ·rw[e];exact qb_zero b
 rw[d];exact h.fac a c hs
theorem Inv.dualW (h:Inv p cc t)(a:Lim p cc k)(b:1<=k)(r:Nat):QB k (dualV p t t.worth r):=by
 rcases iC h.tab t.worth r with e|⟨s,hs,_,c⟩
 ·rw[e];exact qb_zero b
 rw[c];exact h.wfac a hs
theorem Inv.refQ (h:Inv p cc t)(b:Lim p cc k)(a:1<=k){i:Nat}(c:i<t.basic.length)(r:Nat):QB k (refV p t i r):=by
 unfold refV;split
 ·exact Mi a
 exact qb_neg (h.dualQ b a c r)
def CmD (n k:Nat)(pt:Nat->Rat):Prop:=∃ d:Int,d≠0/\d.natAbs<B9 ^ k/\∀ j,j<n->∃ z:Int,pt j*(d:Rat)=z/\z.natAbs<B9 ^ k
theorem Inv.cmd (h:Inv p cc t)(a:Lim p cc k):CmD p.n k t.sol:=by
 obtain⟨D,M,o,q,h1,h2,h3,h4,h5,r⟩:=a.ex;obtain⟨d,c,f,s⟩:=vA h.tab h2 h1;have u:=IM (p:=p) h1;refine⟨d,f,by omega,fun j g=>?_⟩;by_cases hm:j∈FB p t
 ·obtain⟨i,l,e⟩:=dq hm;obtain⟨z,ez,w⟩:=Gs h.tab h2 h1 (zw h.tab) h2.b (fun v m _=>FX h.tab v m) l;rw[e,c]at ez;exact⟨z,ez,by omega⟩
 rw[FY h.tab g,aF hm];exact⟨0,by rw[Rat.zero_mul];rfl,by rw[Int.natAbs_zero];omega⟩
structure OptR (p:Sys)(cc:Nat->Rat)(k:Nat)(val:Rat)(pt du:Nat->Rat):Prop where
 row:∀ r,r<p.m->sumN (fun j=>p.a r j*pt j) p.n<=p.b r
 wor:sumN (fun j=>cc j*pt j) p.n=val
 pos:∀ r,0<=du r
 fac:∀ j,j<p.n->sumN (fun r=>du r*p.a r j) p.m=-cc j
 bnd:sumN (fun r=>du r*p.b r) p.m=-val
 qv:QB k val
 qp:∀ j,QB k (pt j)
 qd:∀ r,QB k (du r)
 cd:CmD p.n k pt
structure InfR (p:Sys)(k:Nat)(du:Nat->Rat):Prop where
 pos:∀ r,0<=du r
 fac:∀ j,j<p.n->sumN (fun r=>du r*p.a r j) p.m=0
 bnd:sumN (fun r=>du r*p.b r) p.m<0
 qd:∀ r,QB k (du r)
structure UnbR (p:Sys)(cc:Nat->Rat)(k:Nat)(pt ra:Nat->Rat):Prop where
 row:∀ r,r<p.m->sumN (fun j=>p.a r j*pt j) p.n<=p.b r
 ray:∀ r,r<p.m->sumN (fun j=>p.a r j*ra j) p.n<=0
 fall:sumN (fun j=>cc j*ra j) p.n<0
 qp:∀ j,QB k (pt j)
 qr:∀ j,QB k (ra j)
 cd:CmD p.n k pt
theorem Inv.opt (h:Inv p cc t)(a:Lim p cc k)(b:1<=k)(d:t.Feas p.n)(e:RelW p.n t)(f:∀ s,s<t.others.length->p.n<=t.oth s->0<=t.worth.g s):OptR p cc k t.worth.c t.sol (dualV p t t.worth):=by
 obtain⟨h1,h2,h3,h4⟩:=K9 h.tab h.obj e f;exact⟨fun r hr=>tC h.tab d r hr,by grind,h1,h3,by grind,h.wcon a,h.sol a b,h.dualW a b,h.cmd a⟩
theorem Inv.inf (h:Inv p cc t)(b:Lim p cc k)(d:1<=k)(e:Rel p.n t p.n){i:Nat}(a:i<t.basic.length)(f:p.n<=t.bas i)(j:(t.line i).c<0)(l:∀ s,s<t.others.length->p.n<=t.oth s->(t.line i).g s<=0):InfR p k (refV p t i):=by
 obtain⟨h1,h2,h3⟩:=PS h.tab e a f l;exact⟨h1,h3,by rw[h2];exact j,h.refQ b d a⟩
theorem Inv.unb (h:Inv p cc t)(a:Lim p cc k)(b:1<=k)(d:t.Feas p.n){s:Nat}(c:s<t.others.length){u:Rat}(e:u=1∨u=-1)(f:u*t.worth.g s<0)
  (l:∀ i,i<t.basic.length->p.n<=t.bas i->0<=u*(t.line i).g s) (m:p.n<=t.oth s->0<=u):UnbR p cc k t.sol fun j=>u*t.dir s j:=by
 obtain⟨h1,h2⟩:=PT h.tab h.obj c f l m;refine⟨fun r hr=>tC h.tab d r hr,h1,h2,h.sol a b,fun j=>?_,h.cmd a⟩;rcases e with rfl|rfl
 ·rw[Rat.one_mul];exact h.dir a b c j
 rw[show(-1:Rat)*t.dir s j=-t.dir s j from by grind];exact qb_neg (h.dir a b c j)
end
def openT (p:Sys)(cc:Nat->Rat):Tab :=
 ⟨(List.range p.m).map fun r=>p.n+r,(List.range p.m).map fun r=>⟨p.b r,(List.range p.n).map fun j=>-p.a r j⟩,List.range p.n,⟨0,(List.range p.n).map cc⟩⟩
section
variable {p:Sys} {cc:Nat->Rat}
theorem Cj {n j:Nat}(h:j<n):(List.range n).getD j 0=j:=by
 rw[am,RY h];rfl
theorem GW {r:Nat}(h:r<p.m):(openT p cc).bas r=p.n+r:=by
 show((List.range p.m).map fun r=>p.n+r).getD r 0=_;rw[am,Rr,RY h];rfl
theorem openT_line {r:Nat}(h:r<p.m):(openT p cc).line r=⟨p.b r,(List.range p.n).map fun j=>-p.a r j⟩:=by
 show((List.range p.m).map _).getD r _=_;rw[am,Rr,RY h];rfl
theorem openT_lb:(openT p cc).basic.length=p.m:=by show((List.range p.m).map _).length=_;rw[au,SI]
theorem openT_lo:(openT p cc).others.length=p.n:=SI
theorem openT_inv:Inv p cc (openT p cc):=by
 have f:∀ x,(openT p cc).Sol x ↔ p.Sol x:=by
  intro x;unfold Tab.Sol Sys.Sol;rw[openT_lb];refine forall_congr' fun r=>imp_congr_right fun hr=>?_;have e:lv ((openT p cc).line r) (openT p cc).others x=p.b r-sumN (fun j=>p.a r j*x j) p.n:=by
   rw[openT_line hr];unfold lv;rw[openT_lo];have:sumN (fun j=>(-1:Rat)*(p.a r j*x j)) p.n=sumN (fun j=>(⟨p.b r,(List.range p.n).map fun j=>-p.a r j⟩:Line).g j*x ((openT p cc).others.getD j 0)) p.n:=sumN_congr fun j c=>by
    show _=((List.range p.n).map fun j=>-p.a r j).getD j 0*x ((List.range p.n).getD j 0);rw[fc c,Cj c];grind
   rw[<- this,sumN_mul];show p.b r+_=_;grind
  rw[e,GW hr]
 refine⟨⟨⟨?_, ?_, ?_, ?_, ?_⟩,openT_lb,openT_lo,f⟩,fun x _=>?_⟩
 ·show((List.range p.m).map _).length=((List.range p.m).map _).length;rw[au,au]
 ·intro l i;obtain⟨r,_,rfl⟩:=Rs.1 i;show((List.range p.n).map _).length=(List.range p.n).length;rw[au]
 ·show((List.range p.n).map _).length=(List.range p.n).length;rw[au]
 ·refine S1.2 ⟨?_,List.nodup_range,fun a k b o=>?_⟩
  ·show((List.range p.m).map fun r=>p.n+r).Nodup;rw[List.Nodup,List.pairwise_map];exact(List.nodup_range (n:=p.m)).imp fun h e=>h om_
  obtain⟨r,_,rfl⟩:=Rs.1 k;have:=RL.1 o;omega
 ·intro v d;rcases RF.1 d with d|d
  ·obtain⟨r,hr,rfl⟩:=Rs.1 d;have:=RL.1 hr;omega
  have:=RL.1 d;omega
 show lv ⟨0,(List.range p.n).map cc⟩ (List.range p.n) x=_;unfold lv;rw[SI];congr 1;refine sumN_congr fun j c=>?_;show((List.range p.n).map cc).getD j 0*x ((List.range p.n).getD j 0)=_;rw[fc c,Cj c]
end
end Go.Jog.Lp
namespace Go.Jog
open Go
section
variable {P:Program} {f:FuncId} {args:List Value} {C:Mem} {L:List Ent}
theorem XD {b:Nat}{c:Obj}{post:Value->List Ent->Prop}(g:Enters P f=true)(h:∀ d,C.le d->d b=some c->Fn P f args d L fun u _ a=>post u a) :
  Fn P f args C (.obj b c::L) fun u _ i=>∃ a,i=.obj b c::a/\post u a:=by
 refine⟨g,fun w j=>?_⟩;have e:=St.start j;have k:C b=none:=e.sep.n b ⟨_,Rq ..,rfl⟩;have l:=e.aside;refine((h _ (Mem.le_set k) (Mem.set_self C b c)).2 w l.sep).mono fun ex w' ⟨v,d,a,k1,k2,m⟩=>?_;exact⟨v,_,_,k1,St.back e k2,a,U,m⟩
theorem XC {a g e s m:Nat}{b:List (List Value)}{o:Value->List Ent->Prop}(p:Enters P f=true)(q:∀ r∈b,r.length=s)(t:b.length=m)
  (h:∀ i,C.le i->Sl i s (s_ a m g) b->Fn P f args i L fun u _ d=>o u d) :
  Fn P f args C (.arr (s_ a m g) e s m b.flatten::L) fun u _ x=>∃ d,x=.arr (s_ a m g) e s m b.flatten::d/\o u d:=by
 subst t;refine⟨p,fun w y=>?_⟩;obtain⟨cs,h1,h2,h3,h4,l⟩:=(St.start y).arrObj;have z:C a=none:=l.sep.n a ⟨_,Rq ..,rfl⟩;have A:=l.aside;have B:Sl (C.set a (.cells ⟨cs⟩ e (0,0))) s (s_ a b.length g) b :=
  Sl.ofBlock (c:=g) (Mem.set_self C a (.cells ⟨cs⟩ e (0,0))) q (fun j v k=>by
   rw[<- h2,Sg]at k;split at k
   ·simpa using k
   cases k) h3 h4
 refine((h _ (Mem.le_set z) B).2 w A.sep).mono fun ex w' ⟨v,i,d,k1,k2,D⟩=>?_;exact⟨v,_,_,k1,(St.back l k2).objArr h2 h1 h3 h4,d,U,D⟩
theorem Wx {v:Value}{e s m:Nat}{rows:List (List Value)}{post:Value->List Ent->Prop}(d:Enters P f=true)(i:∀ r∈rows,r.length=s)(j:rows.length=m)
  (h:∀ b,C.le b->Sl b s v rows->Fn P f args b L fun u _ a=>post u a) :
  Fn P f args C (.arr v e s m rows.flatten::L) fun u _ k=>∃ a,k=.arr v e s m rows.flatten::a/\post u a:=by
 refine⟨d,fun w c=>?_⟩;have l:w.ownsRow 0 e s v m rows.flatten:=c.e _ (Rq ..);rcases l.2 with⟨h1,h2⟩|⟨g,p,q,h1,_,_,h3,h4,_⟩
 ·have h0:rows=[]:=Sd om_;have n:=h C (Mem.le.refl C) (by rw[h1,h0];exact Sl.nil C s);have hs:=St.perm (St.start c) (Su (l₁:=[Ent.arr v e s m rows.flatten]) (l₂:=L));refine(n.callAt hs).mono fun ex w' ⟨u,b,a,k1,_,k2,o⟩=>?_;exact⟨u,b,_,k1,St.perm k2 (Su (l₁:=a) (l₂:=[Ent.arr v e s m rows.flatten])),a,U,o⟩
 subst h1;exact(XC (e:=e) d i j h).2 w c
end
inductive Lent where
|obj (b:Nat) (cs:List Value) (t:TypeId)
|arr (v:Value) (m s:Nat) (e:TypeId) (rows:List (List Value))
def Lent.ent:Lent->Ent
|.obj b cs t=>.obj b (.cells ⟨cs⟩ t (0,0))
|.arr v m s e rows=>.arr v e s m rows.flatten
def Lent.wf:Lent->Prop
|.obj ..=>True
|.arr _ m s _ rows=>rows.length=m/\∀ r∈rows,r.length=s
def Lent.seen (C:Mem):Lent->Prop
|.obj b cs t=>C b=some (.cells ⟨cs⟩ t (0,0))
|.arr v _ s _ rows=>Sl C s v rows
theorem Ww {P:Program}{f:FuncId}{args:List Value}{L:List Ent}{post:Value->List Ent->Prop}(j:Enters P f=true):∀ (ls:List Lent){C:Mem},(∀ x∈ls,x.wf) ->
  (∀ d,C.le d->(∀ x∈ls,x.seen d)->Fn P f args d L fun u _ a=>post u a)->Fn P f args C (ls.map Lent.ent++L) fun u _ g=>∃ a,g=ls.map Lent.ent++a/\post u a
|[],C,_,h=>(h C (Mem.le.refl C) fun x c=>by cases c).mono fun v d a _ i=>⟨a,rfl,i⟩
|.obj b cs t::ls,C,k,h=>by
  refine(XD (post:=fun u g=>∃ a,g=ls.map Lent.ent++a/\post u a) j fun w h1 l=>?_).mono fun v d a _ ⟨y,n,o,p,i⟩=>⟨o,by rw[n,p];rfl,i⟩;refine Ww j ls (fun x c=>k x (RB _ c)) fun q h2 hs=>h q (h1.trans h2) fun x c=>?_;rcases RC.1 c with rfl|c
  ·exact h2 _ _ l
  exact hs x c
|.arr v m s e rows::ls,C,k,h=>by
  have r:=k _ Rq;refine(Wx (e:=e) (post:=fun u g=>∃ a,g=ls.map Lent.ent++a/\post u a) j r.2 r.1 fun w h1 l=>?_).mono fun v d a _ ⟨y,n,o,p,i⟩=>⟨o,by rw[n,p];rfl,i⟩;refine Ww j ls (fun x c=>k x (RB _ c)) fun q h2 hs=>h q (h1.trans h2) fun x c=>?_;rcases RC.1 c with rfl|c
  ·exact Sl.mono l h2
  exact hs x c
end Go.Jog
namespace Go.Jog
open Go
variable {C:Mem}{F:Fx}{L:List Ent}{P:Program}{args:List Value}{f:FuncId}{fr:Fr}{m s t:Nat}{v:Value}{xs:List Value}
theorem Fn.form {a:Value->Mem->List Ent->Prop}{e:Nat}(d:Enters P f=true)(k:0<m)
  (h:∀ g c,v=s_ g m c->Fn P f args C (.arr v e s m xs::L) a):Fn P f args C (.arr v e s m xs::L) a:=by
 refine⟨d,fun w b=>?_⟩;have i:w.ownsRow 0 e s v m xs:=b.e _ (Rq ..);rcases i.2 with⟨h1,_⟩|⟨g,j,l,h1,_⟩
 ·omega
 exact(h g j h1).2 w b
theorem Fn.perm {P:Program}{f:FuncId}{a:List Value}{C:Mem}{L L2:List Ent}{post:Value->Mem->List Ent->Prop}(b:L.Perm L2)(h:Fn P f a C L2 post):Fn P f a C L post:=by
 refine⟨h.1,fun w c=>?_⟩;have hs:St w C L C (L2++[]) w:=by rw[RQ];exact(St.start c).perm b
 refine(h.callAt hs).mono fun ex w' ⟨u,d,L',k1,_,k2,e⟩=>?_;rw[RQ]at k2;exact⟨u,d,L',k1,k2,e⟩
theorem We {q:Value->Prop}(d:Enters P f=true)(b:List Lent)(e:∀ x∈b,x.wf)(h:∀ a,C.le a->(∀ x∈b,x.seen a)->Pur P f args a fun u _=>q u) :
  Fn P f args C (b.map Lent.ent) fun u _ c=>q u/\c=b.map Lent.ent:=by
 have h1:=Ww (L:=[]) (post:=fun u c=>c=[]/\q u) d b e fun a g hs=>h a g hs;rw[RQ]at h1;refine h1.mono ?_;rintro u a c _ ⟨j,rfl,rfl,i⟩;exact⟨i,RQ _⟩
theorem WL {k:List KI}{e:Exit}(j:Nat)(a:L[j]?=some (.arr v t s m xs))(b:0<m)(h:∀ g c,v=s_ g m c->G F k e fr C L):G F k e fr C L:=by
 cases m with
|zero=>exact absurd b (Nat.lt_irrefl _)
|succ m=>exact Xe j a h
theorem W8 (j:Nat){r b:Nat}{c:List Value}{l:TypeId}{m:Nat × Nat}{d:TI}{u:Value}(n:L[j]?=some (.obj b (.cells ⟨c⟩ l m)))(x:F.fn.results=#[.cell r t,.tmp s])(y:ev fr [] (.tmp r)=some (p_ b))(z:ev fr [] (.tmp s)=some u)
  (A:F.cx.T.get t=some d) (B:cI d (c.take d.size)=some v) (h:F.post (.tuple #[v,u]) C (L.eraseIdx j)) (o:F.ends:=by exact⟨fun _ _ _ h=>h,rfl⟩):G F [] .ret fr C L:=fun _ a w f q=>by
 refine o.kq ?_;have g:=bN f (fun p i=>by cases i) y;have k:=bN f (fun p i=>by cases i) z;simp only[Act.eval]at g k;have hm:Ent.obj b (.cells ⟨c⟩ l m)∈L:=aU n;refine bodyPost_ret (v:=.tuple #[v,u]) ?_ (f.defers.trans o.2) ⟨_,C,_,U,St.drop (St.perm q (al n)),h⟩;have D:=fC (F:=F) A (q.sep.e _ hm) B;simp only[Sr]at g k;simp[results,x,g,k,asAddr,D]
theorem mg {b:Type}{l:List Nat}(c:l.Nodup){i:Nat}(h:i∈l)(f g:Nat->b)(d:∀ j,j∈l->j≠i->f j=g j):(l.map f).Perm (f i::(l.erase i).map g):=by
 refine((List.perm_cons_erase h).map f).trans ?_;rw[R6];refine List.Perm.cons _ (List.Perm.of_eq (List.map_congr_left fun j a=>?_));rw[c.mem_erase_iff]at a;exact d j a.2 a.1
end Go.Jog
namespace Go.Jog
open Go
theorem W7 {F:Fx}{k:List KI}{d:Fr}{C:Mem}{L:List Ent}{e:Exit}(j:Nat){v:Value}{t s m:Nat}{f:List Value}(l:L[j]?=some (.arr v t s m f))
  (h:∀ A c,v=.slice A m c->(0<m->A=some ⟨(A.getD ⟨0,0,none⟩).block,0,none⟩)->m<=c->c<=maxLen->G F k e d C L):G F k e d C L:=fun h0 a w i b=>by
 have n:=St.perm b (al l);have o:w.ownsRow 0 t s v m f:=n.sep.e _ (Rq ..);rcases o.2 with⟨h1,h2⟩|⟨g,p,q,h1,_,_,h3,h4,_⟩
 ·subst h2;exact h _ _ h1 (fun h=>absurd h om_) om_ (Rv _) h0 a w i b
 exact h _ _ h1 fl_ h3 h4 h0 a w i b
theorem Wm {F:Fx}{k:List KI}{i:Fr}{e:Exit}:∀ (ls:List Lent){C:Mem}{L2:List Ent},(∀ x∈ls,x.wf)->(∀ d,C.le d->(∀ x∈ls,x.seen d)->G F k e i d L2)->G F k e i C (ls.map Lent.ent++L2)
|[],C,_,_,h=>h C (Mem.le.refl C) fun x a=>by cases a
|.obj b cs t::ls,C,L2,c,h=>by
  refine G.freeze 0 U fun l h1 f=>Wm ls (fun x a=>c x (RB _ a)) fun g h2 hs=>h g (h1.trans h2) fun x a=>?_;rcases RC.1 a with rfl|a
  ·exact h2 _ _ f
  exact hs x a
|.arr v m s t rows::ls,C,L2,c,h=>by
  have j:=c _ Rq;refine G.freezeArr 0 rows U U j.2 j.1 fun l h1 f=>Wm ls (fun x a=>c x (RB _ a)) fun g h2 hs=>h g (h1.trans h2) fun x a=>?_;rcases RC.1 a with rfl|a
  ·exact Sl.mono f h2
  exact hs x a
section
variable {cx:Cx} {n:Nat} {ds:List (Option Nat)} {R:Rg n ds} {its:List It} {fr:Fr} {C:Mem} {L:List Ent} {i k d:Nat} {o:Oper} {g:GL} {v:Value}
theorem Xt (b c:Nat){t e j r l:Nat}{A:Option Addr}{x y:Operand}{s:IntKind}{m:Int}{f p:TI}(u:Nat.ble k 1=true)(v:o.dst=some d)(z:o.op=.indexAddr t x y)
  (B:gOf ds fr o.guard=some g) (E:ev fr g x=some (.slice A j r)) (F:ev fr g y=some (.int s m)) (G:cx.T.get t=some f) (q:f.k=.slice e) (H:cx.T.get e=some p) (I:p.size=l)
  (J:GT ds fr g->A=some ⟨b,0,none⟩/\0<=m/\m<j/\c=m.toNat*l) (K:aX n ds ((d,g,.pointer (some ⟨b,c,none⟩))::fr) d=true) (M:wfG ds fr g=true)
  (h:D cx R its ((d,g,.pointer (some ⟨b,c,none⟩))::fr) C L):D cx R ((i,k,o)::its) fr C L:=by
 have N:cx.P.underlying t=some (.slice e):=by
  obtain⟨V,W,X,Y,Z⟩:=f;simp only at q;subst q;exact bX cx.hT G
 refine D.run _ u v B (fun O a hs w=>?_) K M h;obtain⟨rfl,Q,S,rfl⟩:=J O;have U:execOp a.eval o=(do Pure.pure (.value (<- Instr.indexAt t (a.eval x) (a.eval y))):Sem Next):=by unfold execOp;rw[z]
 rw[U,hs _ _ E,hs _ _ F];have h2:=ep cx.hT H w;rw[I]at h2;simp[Instr.indexAt,asIntOf,run_underlying N,h2,Q,S,Addr.add_lit]
theorem Xo {t c f e q r m s:Nat}{A:Option Addr}{x:Operand}{l:List Value}{p:TI}(z:Ent.arr (.slice A m s) e q r l∈L)(y:k=1)(B:o.dst=some d)(E:o.op=.load t x)(F:gOf ds fr o.guard=some g)(G:ev fr g x=some (.pointer (some ⟨c,f,none⟩)))
  (H:cx.T.get t=some p) (I:GT ds fr g->A=some ⟨c,0,none⟩/\cI p ((l.drop f).take p.size)=some v) (J:aX n ds ((d,g,v)::fr) d=true) (K:wfG ds fr g=true)
  (h:D cx R its ((d,g,v)::fr) C L):D cx R ((i,k,o)::its) fr C L :=
 VQ (by subst y;rfl) B F J K (fun M a hs aa N w O=>by
  obtain⟨Q,S⟩:=I M;subst Q;have V:w.ownsRow 0 e q (s_ c m s) r l:=O.sep.e _ ((N y).2 _ z);obtain⟨_,_,_,ab,W,_,X⟩:=cS V;have Y:∀ j u,((l.drop f).take p.size)[j]?=some u->w.cell? ((⟨c,f,none⟩:Addr).add j)=some u:=fun j u b=>by
   rw[Addr.add_lit,cell_of_row w c (f+j) _ e (0,0) W];rw[Sg]at b;split at b
   ·rw[List.getElem?_drop,<- X,Sg]at b;split at b
    ·simpa using b
    cases b
   cases b
  have Z:(execOp a.eval o).run cx.P w=.ok (.value v) w:=by
   have e1:execOp a.eval o=(do Pure.pure (.value (<- Instr.loadAt t (a.eval x))):Sem Next):=by unfold execOp;rw[E]
   rw[e1,hs _ _ G];simp only[Instr.loadAt,Instr.sureAddr,Sem.run_bind,Sem.run_pure,Result.andThen_ok];rw[eU cx.hT H Y S];rfl
  unfold Oper.quietAt;rw[Z];exact⟨U,U⟩) h
theorem WG {f:Operand}{e:Array Operand}{t:Array TypeId}{j:FuncId}{l m:Array Value}{p q:List Value}{x:Ent}(z:x∈L)(c:GT ds fr g->Fn cx.P j q C [x] fun u _ A=>u=v/\A=[x])(B:Z9 k 1 o.dst (some d) (gOf ds fr o.guard) (some g) o.op (.call ⟨.value f,e,t⟩) (ev fr g f) (some (.func (.func j) l m)) (lg (ev fr g) e.toList) (some p) (l.toList++p++m.toList) q (aX n ds ((d,g,v)::fr) d) true (wfG ds fr g) true)(h:D cx R its ((d,g,v)::fr) C L):D cx R ((i,k,o)::its) fr C L :=
 have ⟨b,E,F,G,H,I,J,K,M⟩:=B;VQ (by subst b;rfl) E F K M (fun r a hs O s w N=>by
  unfold Oper.quietAt;rw[oN G (hs _ _ H) (eZ (fun x y=>hs x y) I) J (c r).1 w];exact⟨U,(c r).quiet1 (s b).1 ((s b).2 _ z) N⟩) h
end
end Go.Jog
namespace Go.Jog
open Go
section
variable {cx:Cx} {n:Nat} {ds:List (Option Nat)} {R:Rg n ds} {its:List It} {fr:Fr} {C:Mem} {L:List Ent} {i k d:Nat} {o:Oper}
theorem Wo {t e h b:Nat}{A:Option Addr}{x:Operand}{g:GL}{c:TI}(j:Z9 (Nat.ble k 1) true o.dst (some d) o.op (.call ⟨.builtin .cap,#[x],#[t]⟩) (gOf ds fr o.guard) (some g) (ev fr g x) (some (.slice A h b)) (cx.T.get t) (some c) c.k (.slice e) (aX n ds ((d,g,i_ b)::fr) d) true (wfG ds fr g) true)(l:D cx R its ((d,g,i_ b)::fr) C L):D cx R ((i,k,o)::its) fr C L:=by
 have ⟨m,p,q,r,s,u,f,v,y⟩:=j;have z:cx.P.underlying t=some (.slice e):=by
  obtain⟨E,F,G,H,I⟩:=c;simp only at f;subst f;exact bX cx.hT u
 refine D.run _ m p r (fun J a hs w=>?_) v y l;have B:execOp a.eval o=(do let dd <- resolve a.eval ⟨.builtin .cap,#[x],#[t]⟩ o.type;invoke dd.target dd.args:Sem Next):=by unfold execOp;rw[q]
 rw[B];simp[resolve,invoke,builtin,Sem.run_bind,hs _ _ s,Builtin.cap_,run_underlying z,goInt]
theorem WP {t g e m:Nat}{x y:Operand}{s j:IntKind}{l p f:TI}(N:Z12 k 3 o.dst (some d) (gOn ds fr o.guard) true o.op (.call ⟨.builtin .append,#[x,y],#[t,g]⟩) (cx.T.get t) (some l) l.k (.slice e) (cx.T.get e) (some f) (Nat.beq f.size 0) false (cx.T.get g) (some p) p.k (.int j) (ev fr [] x) (some (.slice none 0 0)) (ev fr [] y) (some (.int s (m:Nat))))(O:0<m)(Q:m*f.bytes<=281474976710656)(V:m<=maxLen)(W:∀ v,aX n ds ((d,[],v)::fr) d=true)(h:∀ b c,m<=c->D cx R its ((d,[],s_ b m c)::fr) C (.arr (s_ b m c) e f.size m (kQ (f.zero.map Zv.val) m)::L)):D cx R ((i,k,o)::its) fr C L:=by
 have ⟨X,Y,Z,aa,ht,u,z,A,ab,B,hx,hy⟩:=N;have hu:cx.P.underlying t=some (.slice e):=by
  obtain⟨kk,s1,b1,z1,g1⟩:=l;simp only at u;subst u;exact bX cx.hT ht
 have ac:cx.P.underlying g=some (.int j):=by
  obtain⟨kk,s1,b1,z1,g1⟩:=p;simp only at B;subst B;exact pD cx.hT ab
 obtain⟨inf,hi,ad,ae,hz,E⟩:=(dS cx.hT z).info;have af:0<f.size:=Tr (fun e=>by rw[e]at A;cases A);have aj:=mx_
 refine VP (S:=fun F G H=>G=C/\∃ b c,m<=c/\F=s_ b m c/\H=.arr (s_ b m c) e f.size m (kQ (f.zero.map Zv.val) m)::L) (by subst X;rfl) Y Z W (fun a hs w _ hw=>?_) (fun F G H _ ⟨e0,b,c,hc,r,e2⟩=>by subst e0;subst r;subst e2;exact h b c hc);have hr:=Lib.run_append_nil_zeros (P:=cx.P) w t g o.type e inf f.zv s j hu ac hi hz m O (by rw[ad];exact af) om_ (by rw[ae];exact Q);have ag:(execOp a.eval o).run cx.P w=.ok (.value (.slice (some ⟨w.heap.size,0,none⟩) m (grownCap w m 0 e))) (w.drew.alloc (.cells (Builtin.zeroCells f.zv.cells m++Builtin.zeroCells f.zv.cells (grownCap w m 0 e-m)) e)):=by
  have r:execOp a.eval o=(do let dd <- resolve a.eval ⟨.builtin .append,#[x,y],#[t,g]⟩ o.type;invoke dd.target dd.args:Sem Next):=by unfold execOp;rw[aa]
  rw[r];simp only[resolve,invoke,builtin,Sem.run_bind,Sem.run_pure,Result.andThen_ok,Ts,R6,Tm,hs _ _ hx,hs _ _ hy,hr]
 unfold Oper.wp;rw[ag];have I:=grownCap_ge w m 0 e;have ah:=grownCap_le_maxLen w m 0 e V;have J:=St.alloc (St.drew hw) (.cells (Builtin.zeroCells f.zv.cells m++Builtin.zeroCells f.zv.cells (grownCap w m 0 e-m)) e);have K:(f.zero.map Zv.val).length=f.size:=by
  have:=(dS cx.hT z).zsize;rw[E]at this;simpa using this
 have M:∀ q,Builtin.zeroCells f.zv.cells q=⟨kQ (f.zero.map Zv.val) q⟩:=fun q=>by
  rw[<- Hj,E];rfl
 have ai:(⟨kQ (f.zero.map Zv.val) m⟩++⟨kQ (f.zero.map Zv.val) (grownCap w m 0 e-m)⟩:Array Value)=⟨kQ (f.zero.map Zv.val) m++kQ (f.zero.map Zv.val) (grownCap w m 0 e-m)⟩:=by simp
 rw[M,M,ai]at J⊢;refine⟨_,C,.arr (.slice (some ⟨w.heap.size,0,none⟩) m (grownCap w m 0 e)) e f.size m (kQ (f.zero.map Zv.val) m)::L,U,Mem.le.refl _,fun h2=>by omega,St.objArr J (List.take_left' (by rw[cV,K])) ?_ I ah,U,_,_,I,U,U⟩;rw[Ru,cV,cV,K,<- S2];congr 1;omega
end
end Go.Jog
namespace Go.Jog.Lp
def Sys.Hold (p:Sys):Prop:=∃ y:Nat->Rat,∀ r,r<p.m->sumN (fun j=>p.a r j*y j) p.n<=p.b r
theorem pI (g:Nat->Nat->Rat)(n:Nat):∀ m,sumN (fun r=>sumN (fun j=>g r j) n) m=sumN (fun j=>sumN (fun r=>g r j) m) n
|0=>(sumN_zero fun _ _=>rfl).symm
|m+1=>by
  show sumN (fun r=>sumN (fun j=>g r j) n) m+sumN (fun j=>g m j) n=_;rw[pI g n m,<- sumN_add];rfl
theorem wK {g h:Nat->Rat}{n:Nat}(e:∀ j,j<n->g j<=h j):sumN g n<=sumN h n:=by
 have h1:sumN (fun j=>g j + -1*h j) n<=0:=zr fun j a=>by have:=e j a;grind
 rw[sumN_add,sumN_mul]at h1;grind
section
variable {p:Sys} {cc:Nat->Rat} {k:Nat} {du pt ra:Nat->Rat} {val:Rat}
theorem InfR.not (h:InfR p k du):¬ p.Hold:=by
 rintro ⟨y,hy⟩;have h1:sumN (fun r=>du r*sumN (fun j=>p.a r j*y j) p.n) p.m<=sumN (fun r=>du r*p.b r) p.m:=wK fun r hr=>TV (hy r hr) (h.pos r);have h2:sumN (fun r=>du r*sumN (fun j=>p.a r j*y j) p.n) p.m=0:=by
  have c:sumN (fun r=>du r*sumN (fun j=>p.a r j*y j) p.n) p.m=sumN (fun r=>sumN (fun j=>du r*(p.a r j*y j)) p.n) p.m:=sumN_congr fun r _=>(sumN_mul _ _ _).symm;rw[c,pI];refine sumN_zero fun j d=>?_;have e:sumN (fun r=>du r*(p.a r j*y j)) p.m=y j*sumN (fun r=>du r*p.a r j) p.m:=by
   rw[<- sumN_mul];exact sumN_congr fun r _=>by grind
  rw[e,h.fac j d];grind
 have h3:=h.bnd;grind
end
end Go.Jog.Lp
namespace Go.Jog
open Go
theorem WC {F:Fx}{d:Fr}{C:Mem}{L:List Ent}{p q r s b t:Nat}{m:List Value}{z:TypeId}{A:Nat × Nat}{g:TI}{x y u v:Value}(B:Ent.obj b (.cells ⟨m⟩ z A)∈L)(D:Z7 F.fn.results (#[.tmp p,.cell r t,.tmp q,.tmp s]) (ev d [] (.tmp p)) (some x) (ev d [] (.tmp q)) (some y) (ev d [] (.tmp r)) (some (p_ b)) (ev d [] (.tmp s)) (some u) (F.cx.T.get t) (some g) (cI g (m.take g.size)) (some v))(h:F.post (.tuple #[x,v,y,u]) C [])(n:F.ends:=by exact⟨fun _ _ _ h=>h,rfl⟩):G F [] .ret d C L:=have ⟨E,c,H,hr,hs,I,J⟩:=D;fun _ a w f o=>by
 refine n.kq ?_;have i:=bN f (fun p c=>by cases c) c;have j:=bN f (fun p c=>by cases c) H;have k:=bN f (fun p c=>by cases c) hr;have l:=bN f (fun p c=>by cases c) hs;simp only[Act.eval]at i j k l;refine bodyPost_ret (v:=.tuple #[x,v,y,u]) ?_ (f.defers.trans n.2) ⟨_,C,[],U,St.dropAll o,h⟩;have K:=fC (F:=F) I (o.sep.e _ B) J;simp only[Sr]at i j k l;simp[results,E,i,j,k,l,asAddr,K]
end Go.Jog
namespace Go.Jog.Lp
section
variable {p:Sys} {cc:Nat->Rat} {k:Nat} {du pt ra:Nat->Rat} {vv:Rat}
def Sys.At (p:Sys)(y:Nat->Rat):Prop:=∀ r,r<p.m->sumN (fun j=>p.a r j*y j) p.n<=p.b r
theorem OptR.least (h:OptR p cc k vv pt du){y:Nat->Rat}(c:p.At y):vv<=sumN (fun j=>cc j*y j) p.n:=by
 have h1:sumN (fun r=>du r*sumN (fun j=>p.a r j*y j) p.n) p.m<=sumN (fun r=>du r*p.b r) p.m:=wK fun r hr=>TV (c r hr) (h.pos r);have h2:sumN (fun r=>du r*sumN (fun j=>p.a r j*y j) p.n) p.m=-1*sumN (fun j=>cc j*y j) p.n:=by
  have d:sumN (fun r=>du r*sumN (fun j=>p.a r j*y j) p.n) p.m=sumN (fun r=>sumN (fun j=>du r*(p.a r j*y j)) p.n) p.m:=sumN_congr fun r _=>(sumN_mul _ _ _).symm;rw[d,pI,<- sumN_mul];refine sumN_congr fun j e=>?_;have f:sumN (fun r=>du r*(p.a r j*y j)) p.m=y j*sumN (fun r=>du r*p.a r j) p.m:=by
   rw[<- sumN_mul];exact sumN_congr fun r _=>by grind
  rw[f,h.fac j e];grind
 have h3:=h.bnd;grind
theorem UnbR.hold (h:UnbR p cc k pt ra):p.Hold:=⟨pt,h.row⟩
theorem UnbR.below (h:UnbR p cc k pt ra)(M:Rat):∃ y,p.At y/\sumN (fun j=>cc j*y j) p.n<M:=by
 obtain⟨f,b⟩:∃ f,sumN (fun j=>cc j*ra j) p.n=f:=⟨_,rfl⟩;obtain⟨v,d⟩:∃ v,sumN (fun j=>cc j*pt j) p.n=v:=⟨_,rfl⟩;have g:=h.fall;rw[b]at g;have c:∀ t:Rat,0<=t->v+t*f<M->∃ y,p.At y/\sumN (fun j=>cc j*y j) p.n<M:=fun t i hm=>by
  refine⟨fun j=>pt j+t*ra j,fun r hr=>?_, ?_⟩
  ·have e:sumN (fun j=>p.a r j*(pt j+t*ra j)) p.n=sumN (fun j=>p.a r j*pt j) p.n+t*sumN (fun j=>p.a r j*ra j) p.n:=by
    rw[<- sumN_mul,<- sumN_add];exact sumN_congr fun j _=>by grind
   have h1:=h.row r hr;have h2:=TV (h.ray r hr) i;show sumN (fun j=>p.a r j*(pt j+t*ra j)) p.n<=_;rw[e];grind
  have e:sumN (fun j=>cc j*(pt j+t*ra j)) p.n=v+t*f:=by
   rw[<- b,<- d,<- sumN_mul,<- sumN_add];exact sumN_congr fun j _=>by grind
  show sumN (fun j=>cc j*(pt j+t*ra j)) p.n<M;rw[e];exact hm
 by_cases l:v<M
 ·exact c 0 dc_ (by grind)
 refine c ((v-M+1) / (-f)) ?_ ?_
 ·have h1:0<=v-M+1:=by grind
  have h2:0<=(-f)⁻¹:=by
   have:0<(-f)⁻¹:=Rat.inv_pos.2 (by grind);grind
  rw[Rat.div_def];exact Rat.mul_nonneg h1 h2
 have m:f≠0:=by grind
 have:(v-M+1) / (-f)*f=-(v-M+1):=by grind
 rw[this];grind
def Val (p:Sys)(cc:Nat->Rat)(kd:Int)(v:Rat):Prop :=
 (kd=1/\(∃ y,p.At y/\sumN (fun j=>cc j*y j) p.n=v)/\∀ y,p.At y->v<=sumN (fun j=>cc j*y j) p.n)∨(kd=2/\¬ p.Hold)∨(kd=3/\p.Hold/\∀ M,∃ y,p.At y/\sumN (fun j=>cc j*y j) p.n<M)
theorem OptR.val (h:OptR p cc k vv pt du):Val p cc 1 vv:=.inl ⟨rfl,⟨pt,h.row,h.wor⟩,fun _ hy=>h.least hy⟩
theorem InfR.val (h:InfR p k du)(v:Rat):Val p cc 2 v:=.inr (.inl ⟨rfl,h.not⟩)
theorem UnbR.val (h:UnbR p cc k pt ra)(v:Rat):Val p cc 3 v:=.inr (.inr ⟨rfl,h.hold,h.below⟩)
theorem Val.same {a d:Int}{v b:Rat}(h:Val p cc a v)(m:Val p cc d b):a=d/\(a=1->v=b):=by
 rcases h with⟨rfl,⟨y,hy,e⟩,f⟩|⟨rfl,g⟩|⟨rfl,hh,n⟩ <;> rcases m with⟨rfl,⟨i,j,s⟩,k⟩|⟨rfl,l⟩|⟨rfl,o,q⟩
 ·refine⟨U,fun _=>?_⟩;have h1:=f i j;have h2:=k y hy;grind
 ·exact absurd ⟨y,hy⟩ l
 ·obtain⟨z,c,r⟩:=q v;have:=f z c;grind
 ·exact absurd ⟨i,j⟩ g
 ·exact⟨U,fun h=>absurd h dc_⟩
 ·exact absurd o g
 ·obtain⟨z,c,r⟩:=n b;have:=k z c;grind
 ·exact absurd hh l
 exact⟨U,fun h=>absurd h dc_⟩
end
end Go.Jog.Lp
namespace Go.Jog
def ltP (x y:Nat × Nat):Prop:=x.1<y.1∨x.1=y.1/\x.2<y.2
theorem E5 {c:Type}{r:c->c->Prop}(d:∀ a,¬ r a a)(i:∀ a b,r a b->r b a->False){l m:List c}(f:l.Pairwise r)(g:m.Pairwise r)(h:∀ x,x∈l ↔ x∈m):l=m:=by
 have n1:l.Nodup:=f.imp fun {a b} h e=>by subst e;exact d _ h
 have n2:m.Nodup:=g.imp fun {a b} h e=>by subst e;exact d _ h
 exact((List.perm_ext_iff_of_nodup n1 n2).2 h).eq_of_pairwise (le:=r) (fun a b _ _ h1 h2=>(i a b h1 h2).elim) f g
theorem zT (a:Nat × Nat):¬ ltP a a:=by unfold ltP;omega
theorem KB (a b:Nat × Nat)(h:ltP a b)(k:ltP b a):False:=by unfold ltP at *;omega
def CF (n:Nat):List (Nat × Nat):=(List.range n).flatMap fun a=>((List.range n).filter fun b=>a<b).map fun b=>(a,b)
theorem GQ:∀ n,n<=6->(CF n).length<=15/\(n<=4->(CF n).length<=6):=by decide
theorem Hf {n:Nat}{e:Nat × Nat}(h:e.1<e.2)(a:e.2<n):e∈CF n:=by
 refine List.mem_flatMap.2 ⟨e.1,RL.2 om_,Rs.2 ⟨e.2,SY.2 ⟨RL.2 a,by simpa using h⟩,U⟩⟩
theorem Kk {n:Nat}{c:List (Nat × Nat)}(f:n<=6)(g:c.Pairwise ltP)(h:∀ e∈c,e.1<e.2/\e.2<n):c.length<=15/\(n<=4->c.length<=6):=by
 have n1:c.Nodup:=g.imp fun {a b} h e=>by subst e;exact zT _ h
 have h1:=List.Nodup.length_le_of_subset n1 (l₂:=CF n) fun e d=>Hf (h e d).1 (h e d).2;have h2:=GQ n f;exact⟨by omega,fun h4=>by have:=h2.2 h4;omega⟩
end Go.Jog
namespace Go.Jog
open Go
section
variable {P:Program} {ops:Array Oper} {ι:Type} {cls:ι->World->Prop} {le:ι->ι->Prop} {md:Region.Mode}
def ordB (md:Region.Mode)(ops:Array Oper):List Nat->List Nat->Bool
|_,[]=>true
|done,i::r=>(match ops[i]? with
 |some o=>o.after.all fun e=>!Region.binds md e || done.contains e.on
 |none=>false) && ordB md ops (i::done) r
end
end Go.Jog
namespace Go.Jog
open Go
def depB (l:List Oper)(rest:List Nat)(rd:List (Nat × List Nat)):Bool:=rd.all fun x=>x.2.all fun j=>rest.contains j && lO .any l.toArray l.toArray.size x.1 j
end Go.Jog
namespace Go.Jog
open Go
structure AL where
 a:Nat
 st:Nat
 y:Nat
 t:TypeId
 z:List Value
end Go.Jog
namespace Go.Jog
open Go
variable {C:Mem}{F:Fx}{L:List Ent}{fr:Fr}{t:Nat}{v:Value}
theorem XL {p r b:Nat}{d:List Value}{l:TypeId}{m:Nat × Nat}{f:TI}{x:Value}(j:Nat)(n:L[j]?=some (.obj b (.cells ⟨d⟩ l m)))(s:F.fn.results=#[.cell r t,.tmp p])
  (c:ev fr [] (.tmp p)=some x) (u:ev fr [] (.tmp r)=some (p_ b))
  (y:F.cx.T.get t=some f) (z:cI f (d.take f.size)=some v) (h:F.post (.tuple #[v,x]) C (L.eraseIdx j)) (o:F.ends:=by exact⟨fun _ _ _ h=>h,rfl⟩):G F [] .ret fr C L:=fun _ a w g q=>by
 refine o.kq ?_;have i:=bN g (fun p c=>by cases c) c;have k:=bN g (fun p c=>by cases c) u;simp only[Act.eval]at i k;have hm:Ent.obj b (.cells ⟨d⟩ l m)∈L:=aU n;refine bodyPost_ret (v:=.tuple #[v,x]) ?_ (g.defers.trans o.2) ⟨_,C,_,U,St.drop (St.perm q (al n)),h⟩;have A:=fC (F:=F) y (q.sep.e _ hm) z;simp only[Sr]at i k;simp[results,s,i,k,asAddr,A]
theorem WI {k:List KI}{e:Exit}{b a:Nat}{d:List Value}(f:Ent.arr v t b a d∈L)(h:∀ A c,v=.slice A a c->(0<a->∃ g,A=some ⟨g,0,none⟩)->G F k e fr C L):G F k e fr C L :=
 G.form f fun i _=>by
  rcases i with⟨h1,h2⟩|⟨g,c,h1,_,_⟩
  ·exact h none 0 (by rw[h1,h2]) om_
  exact h _ c h1 (fun _=>⟨g,U⟩)
end Go.Jog
