/- Laws that the proofs of this seat share, part 4. -/
import Derived.Test.YthnpijdjlddpmaaGreatDoorG3
import Derived.Shelf.SlSortCmp.NoneTotal
import Derived.Shelf.Sort.Plain
import Derived.Shelf.Slices.In.SortNone
import Derived.Shelf.Strings.Split
import Derived.Shelf.Slices.Delete
import Derived.Lib.AppendZeros
namespace Go.Jog
open Go Go.MapKept
section
variable {cx:Cx} {n:Nat} {ds:List (Option Nat)} {R:Rg n ds} {its:List It} {fr:Fr} {C:Mem} {L:List Ent} {i k d:Nat} {o:Oper} {g:GL} {v:Value}
variable {κ:Type} (enc:κ->Value)
theorem Bx {P:Program}{T:Tab}(d:nP P T=true){t e f:Nat}{c:TI}(g:T.get t=some c)(h:c.k=.map e f){a:Act}{o:Oper}{x:Operand}{b:Nat}{m:List (κ × Value)}(i:o.op=.call ⟨.builtin .len,#[x],#[t]⟩)(j:a.eval x=.map (some b)){w:World}(l:w.heap[b]?=some (aN enc m)) :
  (execOp a.eval o).run P w=.ok (.value (.int .i64 (m.length:Nat))) w:=by
 have n:=gp d g h;have p:execOp a.eval o=(do let dd <- resolve a.eval ⟨.builtin .len,#[x],#[t]⟩ o.type;invoke dd.target dd.args:Sem Next):=by unfold execOp;rw [i]
 have h1:(getObj b).run P w=.ok (.map ⟨bC enc m 0⟩ m.length) w:=Go.MapKept.run_getObj_map l;have q:(Builtin.len_ #[t] o.type #[.map (some b)]).run P w=.ok (.int .i64 (m.length:Nat)) w:=by
  simp [Builtin.len_,run_underlying n,h1,mG,goInt]
 rw [p];simp only [resolve,invoke,builtin,Sem.run_bind,Sem.run_pure,Result.andThen_ok,Qn,O1,Qt,j,q]
theorem Ua {b t j l:Nat}{x:Operand}{m:List (κ × Value)}{c:TI}(p:Ent.obj b (aN enc m)∈L)(f:k=1)(q:o.dst=some d)(r:o.op=.call ⟨.builtin .len,#[x],#[t]⟩)(s:gOf ds fr o.guard=some g)(u:ev fr g x=some (.map (some b)))
  (v:cx.T.get t=some c) (y:c.k=.map j l) (z:aP n ds ((d,g,.int .i64 (m.length:Nat))::fr) d=true) (A:wfG ds fr g=true)
  (h:D cx R its ((d,g,.int .i64 (m.length:Nat))::fr) C L):D cx R ((i,k,o)::its) fr C L :=
 SN (by subst f;rfl) q s z A (fun _ a hs F B w hw=>by
  have E:w.heap[b]?=some (aN enc m):=hw.sep.e _ ((B f).2 _ p);unfold Oper.quietAt;rw [Bx enc cx.hT v y r (hs _ _ u) E];exact ⟨Z,Z⟩) h
end
end Go.Jog
namespace Go.Jog
open Go Go.MapKept
variable {C:Mem}{b:Nat}{cs:List Value}{f first:Int}{k:Nat}{out:List Int}{p q:Int}{seen:List Nat}{t:TypeId}
def keyZ:KeyT (.int .i64) Int where
 enc z:=.int .i64 z
 isKey _:=rfl
 same a b:=by
  simp only [Instr.sameNow,Qa];congr 1
section
variable {κ β:Type} [DecidableEq κ]
theorem ck:∀ {m:List (κ × β)}{k:κ},cW m k=none ↔ k ∉ m.map (·.1)
 | [],k=>by simp [cW]
 | (a,v)::m,k=>by
  simp only [cW,O1,OE,not_or];by_cases h:a=k
  ·simp [h]
  rw [aA h,ck (m:=m)];exact ⟨fun h2=>⟨fun e=>h e.symm,h2⟩,fun h2=>h2.2⟩
theorem jl:∀ {m:List (κ × β)}{k:κ}{v:β},cW m k=none->fD m k v=m++[(k,v)]
 | [],k,v,_=>rfl
 | (b,c)::m,k,v,h=>by
  simp only [cW] at h;split at h
  ·cases h
  rename_i a;simp only [fD,aA a,PZ,jl h]
theorem gF:∀ {m:List (κ × β)}{k:κ}{v:β},cW m k=some v->(k,v)∈m
 | (a,b)::m,k,v,h=>by
  simp only [cW] at h;split at h
  ·rename_i e;cases h;subst e;exact aJ
  exact OA _ (gF h)
theorem fk:∀ {m:List (κ × β)}{k:κ}{v:β},(m.map (·.1)).Nodup->(k,v)∈m->cW m k=some v
 | (b,c)::m,k,v,a,h=>by
  simp only [O1,RK] at a;rcases OE.1 h with h | h
  ·cases h;simp [cW]
  have:b≠k:=fun e=>a.1 (e ▸ QE (f:=(·.1)) h);simp only [cW,aA this];exact fk a.2 h
theorem vy {m a:List (κ × β)}(h:m.Perm a)(c:(m.map (·.1)).Nodup)(k:κ):cW m k=cW a k:=by
 have d:(a.map (·.1)).Nodup:=(h.map (·.1)).nodup_iff.1 c;cases b:cW m k with
 | some v=>exact (fk d (h.mem_iff.1 (gF b))).symm
 | none =>
  cases e:cW a k with
  | none=>rfl
  | some v=>rw [fk c (h.mem_iff.2 (gF e))] at b;cases b
end
abbrev ik:=Int × Int
def Mt (s:ik):ik:=(s.2,s.1)
def jG (ks:List ik)(s:ik):Bool:=!(decide (Mt s∈ks))
def sR (B:List ik):List (Int × Value):=B.map fun s=>(s.1,.int .i64 s.2)
theorem zL (B:List ik):(sR B).length=B.length:=by simp [sR]
theorem gA (B:List ik)(p:Int):cW (sR B) p=(cW B p).map (.int .i64):=zQ (fun z:Int=>Value.int .i64 z) B p
theorem zK {B:List ik}(h:cW B p=none):fD (sR B) p (.int .i64 q)=sR (B++[(p,q)]):=by
 rw [jl (by rw [gA,h];rfl)];simp [sR]
def kT (B:List ik)(f:Int):Prop:=(B=[]/\f=-1)∨(0<=f/\f∈B.map (·.1)/\∀ s∈B,f<=s.1)
def FA (B:List ik):Int:=B.foldl (fun f s=>if f<0∨s.1<f then s.1 else f) (-1)
theorem oT {B:List ik}(h:kT B f)(s:ik)(b:0<=s.1):kT (B++[s]) (if f<0∨s.1<f then s.1 else f):=by
 right;rcases h with ⟨rfl,rfl⟩ | ⟨h1,h2,h3⟩
 ·rw [aI (.inl dc_)];exact ⟨b,by simp,by simp⟩
 by_cases c:s.1<f
 ·rw [aI (.inr c)];refine ⟨b,by simp,fun t a=>?_⟩;rcases OJ.1 a with a | a
  ·have:=h3 t a;omega
  rw [OP.1 a];exact Int.le_refl _
 rw [aA om_];refine ⟨h1,by rw [O7];exact PP _ h2,fun t a=>?_⟩;rcases OJ.1 a with a | a
 ·exact h3 t a
 rw [OP.1 a];omega
theorem vF {B:List ik}(h:∀ s∈B,0<=s.1):kT B (FA B):=by
 have c:∀ (a b:List ik)(f:Int),(∀ s∈a,0<=s.1)->kT b f->kT (b++a) (a.foldl (fun f s=>if f<0∨s.1<f then s.1 else f) f):=by
  intro a;induction a with
  | nil=>intro b f _ h;simpa using h
  | cons s a d =>
   intro b f h1 h2;have:=d (b++[s]) _ (fun t e=>h1 t (OA _ e)) (oT h2 s (h1 s aJ));simpa using this
 exact c B [] (-1) h (.inl ⟨Z,Z⟩)
theorem xz {B d:List ik}{e:Int}(c:B.Perm d)(h:kT B f)(g:kT d e):f=e:=by
 rcases h with ⟨rfl,rfl⟩ | ⟨h1,h2,h3⟩
 ·rcases g with ⟨_,rfl⟩ | ⟨_,h5,_⟩
  ·rfl
  rw [<- c.nil_eq] at h5;simp at h5
 rcases g with ⟨rfl,_⟩ | ⟨h4,h5,i⟩
 ·rw [c.eq_nil] at h2;simp at h2
 obtain ⟨s,hs,rfl⟩:=OB.1 h2;obtain ⟨t,j,rfl⟩:=OB.1 h5;have a:=h3 t (c.mem_iff.2 j);have b:=i s (c.mem_iff.1 hs);omega
def ip (B:List ik)(first:Int):Nat->Int->List Int->Option (List Int)
 | 0,_,out=>some out
 | k+1,p,out=>match cW B p with
  | none=>none
  | some q=>if p=first/\out≠[] then none else ip B first k q (out++[p])
theorem qE {B a:List ik}(c:B.Perm a)(d:(B.map (·.1)).Nodup)(b:Int):∀ (k:Nat)(p:Int)(out:List Int),ip B b k p out=ip a b k p out
 | 0,_,_=>rfl
 | k+1,p,out=>by
  simp only [ip,vy c d];cases cW a p with
  | none=>rfl
  | some q=>simp only [qE c d b k]
def Db (ks:List ik):Option (List Int) :=
 if ((ks.filter (jG ks)).map (·.1)).Nodup then ip (ks.filter (jG ks)) (FA (ks.filter (jG ks))) (ks.filter (jG ks)).length (FA (ks.filter (jG ks))) [] else none
def vo (ks:List ik):List Int:=(Db ks).getD []
theorem BM {a B:List ik}{s t:ik}(b:(B++[s]).Nodup)(c:∀ x∈B++[s],x∈a.filter (jG a))(d:t∈B)(e:t.1=s.1):Db a=none:=by
 unfold Db;rw [aA];intro f;have h1:=c s am;have h2:=c t (by simp [d]);have g:t≠s:=by
  rintro rfl;rw [P3] at b;exact b.2.2 t d t am Z
 have h3:=fk f (k:=s.1) (v:=s.2) h1;have h4:=fk f (k:=t.1) (v:=t.2) h2;rw [e,h3] at h4;exact g (Prod.ext e (PS h4).symm)
theorem HW {a B:List ik}(b:B.Perm (a.filter (jG a)))(c:(B.map (·.1)).Nodup)(d:∀ s∈a,0<=s.1)(e:kT B f):Db a=ip B f B.length f []:=by
 unfold Db;rw [aI ((b.map (·.1)).nodup_iff.1 c),<- qE b c,<- b.length_eq,<- xz b e (vF fun s hs=>d s (Qs.1 hs).1)]
theorem Bg {B:List ik}(h:cW B p=none∨(p=first/\out≠[])):ip B first (k+1) p out=none:=by
 simp only [ip];rcases h with h | h
 ·rw [h]
 cases cW B p with
 | none=>rfl
 | some q=>simp [h]
theorem Bf {B:List ik}(h:cW B p=some q)(a:¬ (p=first/\out≠[])):ip B first (k+1) p out=ip B first k q (out++[p]):=by
 simp only [ip,h];rw [aA a]
def eN (ks:List ik)(seen:List Nat):List ik:=(seen.map fun j=>ks.getD j (0,0)).filter (jG ks)
theorem uT {b:Type}{d:b}{a:List b}(c:seen.Nodup)(e:∀ j∈seen,j<a.length)(f:∀ j,j<a.length->j∈seen):(seen.map fun j=>a.getD j d).Perm a:=by
 have g:seen.Perm (List.range a.length):=(List.perm_ext_iff_of_nodup c List.nodup_range).2 (fun j=>by
  rw [ON];exact ⟨fun h=>e j h,fun h=>f j h⟩)
 refine (g.map _).trans (List.Perm.of_eq ?_);refine List.ext_getElem? (fun i=>?_);rw [Ou];rcases OZ i a.length with h | h
 ·rw [O5 h];simp [ak h]
 rw [OD (by simpa using h),OD h];rfl
theorem Bv {a:List ik}{j:Nat}{s:ik}(h:a[j]?=some s):eN a (seen++[j])=eN a seen++if jG a s then [s] else []:=by
 unfold eN;rw [O7,P8];congr 1;rw [O1,Qt,ax,h,List.filter_cons];rfl
theorem DZ {a:List ik}(c:∀ j∈seen,j<a.length):∀ x∈eN a seen,x∈a.filter (jG a):=by
 intro x b;rw [eN,Qs] at b;obtain ⟨j,d,rfl⟩:=OB.1 b.1;rw [Qs];refine ⟨?_,b.2⟩;rw [ax,ak (c j d)];exact Pn _
theorem xj {c:List ik}(f:c.Nodup):∀ {seen:List Nat},seen.Nodup->(∀ j∈seen,j<c.length)->(eN c seen).Nodup:=by
 intro seen g d;unfold eN;refine List.Pairwise.filter _ ?_;rw [List.pairwise_map];refine List.Pairwise.imp_of_mem ?_ g;intro a b h i k e;rw [ax,ax,ak (d a h),ak (d b i)] at e;exact k ((List.getElem_inj f).1 e)
theorem PtrTo.blockT {e:Nat × Nat}(h:C b=some (.cells ⟨cs⟩ t e))(d n:Nat):PtrTo C (.pointer (some ⟨b,d,none⟩)) ((cs.drop d).take n) :=
 let ⟨a,h1,h2,h3⟩:=PtrTo.block h d
 ⟨a,h1,h2,fun j v c=>h3 j v (by
  rw [O8] at c;split at c
  ·exact c
  cases c)⟩
theorem bkT {D:Mem}{c:Nat × Nat}(h:C b=some (.cells ⟨cs⟩ t c))(n:Nat){a:Nat}(d:C.le D:=by (repeat (first | exact Mem.le.refl _ | assumption | (apply Mem.le.trans;rotate_left;assumption)))):PtrTo D (.pointer (some ⟨b,a,none⟩)) ((cs.drop a).take n):=PtrTo.blockT (Mem.get h d) a n
theorem oN (z:Value)(o:Option Value):jZ z true o=.tuple #[o.getD z,.bool o.isSome]:=by cases o <;> rfl
section
variable {F:Fx} {k:List KI} {fr:Fr} {C:Mem} {L:List Ent}
theorem U1 {e:Exit}{v:Value}{t b a:Nat}{d:List Value}(i:Ent.arr v t b a d∈L)(h:∀ A c,v=.slice A a c->d.length=a*b->a<=c->c<=maxLen->G F k e fr C L):G F k e fr C L :=
 G.form i fun j f=>by
  rcases j with ⟨h1,h2⟩ | ⟨g,c,h1,h2,h3⟩
  ·exact h none 0 (by rw [h1,h2]) f om_ (Ow _)
  exact h _ c h1 f h2 h3
end
end Go.Jog
namespace Go.Jog.Lp
variable {N i j:Nat}{os:List Nat}{r s v:Nat}{x:Nat->Rat}
def sumN (g:Nat->Rat):Nat->Rat
 | 0=>0
 | n+1=>sumN g n+g n
theorem aO {g h:Nat->Rat}:∀ {n:Nat},(∀ j,j<n->g j=h j)->sumN g n=sumN h n
 | 0,_=>rfl
 | n+1,e=>by rw [sumN,sumN,aO fun j a=>e j om_,e n om_]
theorem dJ (g h:Nat->Rat):∀ n:Nat,sumN (fun j=>g j+h j) n=sumN g n+sumN h n
 | 0=>by simp only [sumN];grind
 | n+1=>by simp only [sumN];rw [dJ g h n];grind
theorem cN (k:Rat)(g:Nat->Rat):∀ n:Nat,sumN (fun j=>k*g j) n=k*sumN g n
 | 0=>by simp only [sumN];grind
 | n+1=>by simp only [sumN];rw [cN k g n];grind
theorem sumN_zero:∀ {g:Nat->Rat}{n:Nat},(∀ j,j<n->g j=0)->sumN g n=0
 | _,0,_=>rfl
 | g,n+1,e=>by rw [sumN,sumN_zero fun j a=>e j om_,e n om_];grind
theorem gr {g:Nat->Rat}{a:Nat}:∀ {n:Nat},a<n->sumN g n=g a+sumN (fun j=>if j=a then 0 else g j) n
 | n+1,h=>by
  rcases OZ a n with h1 | h1
  ·rw [sumN,gr h1,sumN,aA om_];grind
  have e:a=n:=by omega
  subst e;rw [sumN,sumN,aI rfl,aO (h:=g) fun j b=>aA om_];grind
theorem wZ:∀ {g:Nat->Rat}{n:Nat},(∀ j,j<n->g j<=0)->sumN g n<=0
 | _,0,_=>by simp only [sumN];grind
 | g,n+1,e=>by
  have h1:=wZ (g:=g) (n:=n) fun j a=>e j om_;have h2:=e n om_;rw [sumN];grind
structure Line where
 c:Rat
 f:List Rat
def Line.g (l:Line)(j:Nat):Rat:=l.f.getD j 0
structure Tab where
 basic:List Nat
 lines:List Line
 others:List Nat
 worth:Line
def Tab.line (t:Tab)(i:Nat):Line:=t.lines.getD i ⟨0,[]⟩
def Tab.bas (t:Tab)(i:Nat):Nat:=t.basic.getD i 0
def Tab.oth (t:Tab)(j:Nat):Nat:=t.others.getD j 0
def lv (l:Line)(os:List Nat)(x:Nat->Rat):Rat:=l.c+sumN (fun j=>l.g j*x (os.getD j 0)) os.length
structure Tab.Ok (t:Tab)(N:Nat):Prop where
 ll:t.lines.length=t.basic.length
 fl:∀ l∈t.lines,l.f.length=t.others.length
 wl:t.worth.f.length=t.others.length
 nd:(t.basic++t.others).Nodup
 lt:∀ v∈t.basic++t.others,v<N
def Tab.Sol (t:Tab)(x:Nat->Rat):Prop:=∀ i,i<t.basic.length->x (t.bas i)=lv (t.line i) t.others x
def Tab.W (t:Tab)(x:Nat->Rat):Rat:=lv t.worth t.others x
def putL (l:Line)(s:Nat)(b:Line):Line:=⟨l.c+l.g s*b.c,(List.range l.f.length).map fun j=>(if j=s then 0 else l.g j)+l.g s*b.g j⟩
def byL (l:Line)(s:Nat):Line:=⟨-l.c / l.g s,(List.range l.f.length).map fun j=>if j=s then 1 / l.g s else -l.g j / l.g s⟩
def Tab.pivot (t:Tab)(r s:Nat):Tab :=
 { basic:=t.basic.set r (t.oth s),others:=t.others.set s (t.bas r),lines:=(List.range t.lines.length).map fun i=>if i=r then byL (t.line r) s else putL (t.line i) s (byL (t.line r) s),worth:=putL t.worth s (byL (t.line r) s) }
theorem eF {f:Nat->Rat}{n:Nat}(h:j<n):((List.range n).map f).getD j 0=f j:=by
 rw [ax,Ou,O5 h];rfl
theorem JA {l b:Line}(h:j<l.f.length):(putL l s b).g j=(if j=s then 0 else l.g j)+l.g s*b.g j:=eF h
theorem byL_g {l:Line}(h:j<l.f.length):(byL l s).g j=if j=s then 1 / l.g s else -l.g j / l.g s:=eF h
theorem oa {l:List Nat}(h:s<l.length):(l.set s v).getD j 0=if j=s then v else l.getD j 0:=by
 rw [ax,ax,List.getElem?_set];by_cases e:s=j
 ·subst e;rw [aI rfl,aI h,aI rfl];rfl
 rw [aA e,aA (Ne.symm e)]
theorem BO {l:Line}(a:s<os.length):lv l os x=l.c+(l.g s*x (os.getD s 0)+sumN (fun j=>if j=s then 0 else l.g j*x (os.getD j 0)) os.length):=by
 unfold lv;rw [gr a]
theorem EX {l b:Line}(a:s<os.length)(d:l.f.length=os.length) :
  lv (putL l s b) (os.set s v) x=l.c+(l.g s*lv b (os.set s v) x+sumN (fun j=>if j=s then 0 else l.g j*x (os.getD j 0)) os.length):=by
 unfold lv;rw [Pm];have e:sumN (fun j=>(putL l s b).g j*x ((os.set s v).getD j 0)) os.length=sumN (fun j=>l.g s*(b.g j*x ((os.set s v).getD j 0))+(if j=s then 0 else l.g j*x (os.getD j 0))) os.length:=aO fun j i=>by
  rw [JA om_,oa a];by_cases h:j=s
  ·rw [aI h,aI h,aI h];grind
  rw [aA h,aA h,aA h];grind
 rw [e,dJ,cN];show l.c+l.g s*b.c+_=_;grind
theorem M4 {l:Line}(a:s<os.length)(d:l.f.length=os.length)(b:l.g s≠0) :
  (x v=lv l os x ↔ x (os.getD s 0)=lv (byL l s) (os.set s v) x):=by
 have h2:lv (byL l s) (os.set s v) x=-l.c / l.g s+(1 / l.g s*x v + -1 / l.g s*sumN (fun j=>if j=s then 0 else l.g j*x (os.getD j 0)) os.length):=by
  rw [BO (by rw [Pm];exact a),Pm,byL_g om_,aI rfl,oa a,aI rfl,<- cN];have e:sumN (fun j=>if j=s then 0 else (byL l s).g j*x ((os.set s v).getD j 0)) os.length=sumN (fun j=>-1 / l.g s*if j=s then 0 else l.g j*x (os.getD j 0)) os.length:=aO fun j i=>by
   by_cases h:j=s
   ·rw [aI h,aI h];grind
   rw [aA h,aA h,byL_g om_,aA h,oa a,aA h];grind
  rw [e];rfl
 rw [h2,BO a];generalize sumN (fun j=>if j=s then 0 else l.g j*x (os.getD j 0)) os.length=S;generalize l.g s=k at b;constructor <;> intro h <;> grind
theorem line_mem {t:Tab}(h:t.Ok N)(a:i<t.basic.length):t.line i∈t.lines:=by
 unfold Tab.line;rw [ax,ak (by rw [h.ll];exact a)];exact Pn _
theorem pivot_line {t:Tab}(a:i<t.lines.length):(t.pivot r s).line i=if i=r then byL (t.line r) s else putL (t.line i) s (byL (t.line r) s):=by
 unfold Tab.line Tab.pivot;rw [ax,Ou,O5 a];rfl
theorem vm {t:Tab}(h:t.Ok N)(b:r<t.basic.length)(c:s<t.others.length)(l:(t.line r).g s≠0):(t.pivot r s).Sol x ↔ t.Sol x:=by
 have m:=h.fl _ (line_mem h b);have k:=M4 (x:=x) (v:=t.bas r) c m l;have d:∀ i,(t.pivot r s).bas i=if i=r then t.oth s else t.bas i:=fun i=>oa b;have f:(t.pivot r s).others=t.others.set s (t.bas r):=rfl;have j:(t.pivot r s).basic.length=t.basic.length:=Pm;constructor
 ·intro hS i a;have h0:=hS r (by rw [j];exact b);rw [d,aI rfl,pivot_line (by rw [h.ll];exact b),aI rfl,f] at h0;by_cases e:i=r
  ·subst e;exact k.2 h0
  have h1:=hS i (by rw [j];exact a);rw [d,aA e,pivot_line (by rw [h.ll];exact a),aA e,f,EX c (h.fl _ (line_mem h a)),<- h0] at h1;rw [h1,BO c];rfl
 intro hS i a;rw [j] at a;have h0:=k.1 (hS r b);rw [d,pivot_line (by rw [h.ll];exact a),f];by_cases e:i=r
 ·rw [aI e,aI e];exact h0
 rw [aA e,aA e,EX c (h.fl _ (line_mem h a)),<- h0,hS i a,BO c]
theorem KT {t:Tab}(h:t.Ok N)(b:r<t.basic.length)(a:s<t.others.length)(c:(t.line r).g s≠0)(d:t.Sol x):(t.pivot r s).W x=t.W x:=by
 have e:=h.fl _ (line_mem h b);have h0:=(M4 (x:=x) (v:=t.bas r) a e c).1 (d r b);show lv (putL t.worth s (byL (t.line r) s)) (t.others.set s (t.bas r)) x=_;rw [EX a h.wl,<- h0];unfold Tab.W;rw [BO a]
theorem Hs {a b:List Nat}(c:r<a.length)(d:s<b.length):(a.set r (b.getD s 0)++b.set s (a.getD r 0)).Perm (a++b):=by
 have e:∀ {l:List Nat}{i:Nat}(_:i<l.length)(v:Nat),(v::l).Perm (l.getD i 0::l.set i v):=by
  intro l;induction l with
  | nil=>intro i h;exact absurd h (Nat.not_lt_zero _)
  | cons y l f =>
   intro i h v;cases i with
   | zero=>exact List.Perm.swap _ _ _
   | succ i =>
    have h1:=f (i:=i) (by simpa using h) v;show (v::y::l).Perm (l.getD i 0::y::l.set i v);exact (List.Perm.swap _ _ _).trans ((h1.cons y).trans (List.Perm.swap _ _ _))
 have h1:=e c (b.getD s 0);have h2:=e d (a.getD r 0);have h3:(b.getD s 0::a.getD r 0::(a++b)).Perm (a.getD r 0::b.getD s 0::(a.set r (b.getD s 0)++b.set s (a.getD r 0))):=by
  have g:(b.getD s 0::a.getD r 0::(a++b)).Perm ((b.getD s 0::a)++(a.getD r 0::b)):=by
   refine List.Perm.cons _ ?_;exact List.perm_middle.symm
  have j:=h1.append h2;have k:((a.getD r 0::a.set r (b.getD s 0))++(b.getD s 0::b.set s (a.getD r 0))).Perm (a.getD r 0::b.getD s 0::(a.set r (b.getD s 0)++b.set s (a.getD r 0))):=by
   refine List.Perm.cons _ ?_;exact List.perm_middle
  exact g.trans (j.trans k)
 exact ((h3.trans (List.Perm.swap _ _ _)).cons_inv.cons_inv).symm
theorem zC {t:Tab}(h:t.Ok N)(a:r<t.basic.length)(d:s<t.others.length):(t.pivot r s).Ok N:=by
 have b:((t.pivot r s).basic++(t.pivot r s).others).Perm (t.basic++t.others):=Hs a d;refine ⟨?_, ?_, ?_,(List.Perm.nodup_iff b).2 h.nd,fun v e=>h.lt v (b.mem_iff.1 e)⟩
 ·show ((List.range t.lines.length).map _).length=(t.basic.set _ _).length;rw [al,Pr,Pm,h.ll]
 ·intro l f;obtain ⟨i,c,rfl⟩:=OB.1 f;rw [ON] at c;show _=(t.others.set _ _).length;rw [Pm];split
  ·show ((List.range _).map _).length=_;rw [al,Pr];exact h.fl _ (line_mem h a)
  show ((List.range _).map _).length=_;rw [al,Pr];exact h.fl _ (line_mem h (by rw [<- h.ll];exact c))
 show ((List.range _).map _).length=(t.others.set _ _).length;rw [al,Pr,Pm,h.wl]
end Go.Jog.Lp
namespace Go.Jog.Lp
theorem dx:∀ {l:List Nat}{i:Nat},l.Nodup->i<l.length->l.idxOf (l.getD i 0)=i
 | x::l,0,_,_=>by simp []
 | x::l,i+1,c,d=>by
  have a:=RK.1 c;have b:i<l.length:=by simpa using d
  have hm:l.getD i 0∈l:=by
   rw [ax,ak b];exact Pn _
  show (x::l).idxOf (l.getD i 0)=i+1;rw [List.idxOf_cons];have e:(x == l.getD i 0)=false:=by
   rw [PN];rintro rfl;exact a.1 hm
  rw [e,dx a.2 b];rfl
theorem gM {l:List Nat}{i:Nat}(h:i<l.length):l.getD i 0∈l:=by
 rw [ax,ak h];exact Pn _
theorem ef {l:List Nat}{v:Nat}(h:v∈l):∃ i,i<l.length/\l.getD i 0=v:=by
 obtain ⟨i,a,e⟩:=List.getElem_of_mem h;exact ⟨i,a,by rw [ax,ak a,e];rfl⟩
section
variable {t:Tab} {N:Nat}
theorem Tab.Ok.nb (h:t.Ok N):t.basic.Nodup:=(P3.1 h.nd).1
theorem Tab.Ok.no (h:t.Ok N):t.others.Nodup:=(P3.1 h.nd).2.1
theorem Tab.Ok.dj (h:t.Ok N){v:Nat}(a:v∈t.basic)(b:v∈t.others):False:=(P3.1 h.nd).2.2 v a v b rfl
theorem bas_mem {i:Nat}(h:i<t.basic.length):t.bas i∈t.basic:=gM h
theorem oth_mem {j:Nat}(h:j<t.others.length):t.oth j∈t.others:=gM h
def Tab.ext (t:Tab)(y:Nat->Rat)(v:Nat):Rat:=if v∈t.basic then lv (t.line (t.basic.idxOf v)) t.others y else y v
theorem xN (_b:t.Ok N){y:Nat->Rat}{v:Nat}(a:v ∉ t.basic):t.ext y v=y v:=aA a
theorem xO (h:t.Ok N){y:Nat->Rat}{i:Nat}(a:i<t.basic.length):t.ext y (t.bas i)=lv (t.line i) t.others y:=by
 unfold Tab.ext;rw [aI (bas_mem a)];unfold Tab.bas;rw [dx h.nb a]
theorem zS (h:t.Ok N){y:Nat->Rat}(l:Line):lv l t.others (t.ext y)=lv l t.others y:=by
 unfold lv;congr 1;exact aO fun j a=>by rw [show t.ext y (t.others.getD j 0)=y (t.others.getD j 0) from xN h (fun b=>h.dj b (oth_mem a))]
theorem tx (h:t.Ok N)(y:Nat->Rat):t.Sol (t.ext y):=fun i a=>by rw [xO h a,zS h]
theorem EW (l:Line)(a:List Nat):lv l a (fun _=>0)=l.c:=by
 unfold lv;rw [sumN_zero fun j _=>by grind];grind
def Tab.sol (t:Tab):Nat->Rat:=t.ext fun _=>0
theorem sol_bas (h:t.Ok N){i:Nat}(a:i<t.basic.length):t.sol (t.bas i)=(t.line i).c:=by
 unfold Tab.sol;rw [xO h a,EW]
theorem sol_oth (h:t.Ok N){v:Nat}(a:v ∉ t.basic):t.sol v=0:=by unfold Tab.sol;rw [xN h a]
theorem gu (h:t.Ok N):t.Sol t.sol:=tx h _
theorem He (h:t.Ok N):t.W t.sol=t.worth.c:=by
 unfold Tab.W Tab.sol;rw [zS h,EW]
theorem ER {r s v:Nat}(h:t.Ok N)(d:r<t.basic.length)(_n:s<t.others.length):v∈(t.pivot r s).basic ↔ v=t.oth s∨v∈t.basic/\v≠t.bas r:=by
 have f:∀ i,(t.pivot r s).bas i=if i=r then t.oth s else t.bas i:=fun i=>oa d;have g:(t.pivot r s).basic.length=t.basic.length:=Pm;constructor
 ·intro j;obtain ⟨i,b,e⟩:=ef j;rw [g] at b;have a:(t.pivot r s).bas i=v:=e;rw [f] at a;by_cases c:i=r
  ·rw [aI c] at a;exact .inl a.symm
  rw [aA c] at a;refine .inr ⟨by rw [<- a];exact bas_mem b,fun k=>c ?_⟩;have h1:=dx h.nb b;have h2:=dx h.nb d;have l:t.basic.getD i 0=t.basic.getD r 0:=by rw [show t.basic.getD i 0=v from a];exact k
  rw [l,h2] at h1;exact h1.symm
 rintro (rfl | ⟨j,m⟩)
 ·have:=bas_mem (t:=t.pivot r s) (i:=r) (by rw [g];exact d);rw [f,aI rfl] at this;exact this
 obtain ⟨i,b,e⟩:=ef j;have c:i≠r:=by rintro rfl;exact m e.symm
 have:=bas_mem (t:=t.pivot r s) (i:=i) (by rw [g];exact b);rw [f,aA c] at this;rw [<- e];exact this
end
structure Way (F N:Nat)(T:Nat->Tab)(R S:Nat->Nat)(K:Nat):Prop where
 ok:(T 0).Ok N
 st:∀ k,k<K->T (k+1)=(T k).pivot (R k) (S k)
 r:∀ k,k<K->R k<(T k).basic.length
 s:∀ k,k<K->S k<(T k).others.length
 ne:∀ k,k<K->((T k).line (R k)).g (S k)≠0
 rs:∀ k,k<K->F<=(T k).bas (R k)
 ss:∀ k,k<K->F<=(T k).oth (S k)
section
variable {F N K:Nat} {T:Nat->Tab} {R S:Nat->Nat}
theorem Way.oks (h:Way F N T R S K):∀ k,k<=K->(T k).Ok N
 | 0,_=>h.ok
 | k+1,a=>by
  rw [h.st k a];exact zC (h.oks k om_) (h.r k a) (h.s k a)
theorem Way.sol1 (h:Way F N T R S K){x:Nat->Rat}:∀ k,k<=K->((T k).Sol x ↔ (T 0).Sol x)
 | 0,_=>Iff.rfl
 | k+1,a=>by
  rw [h.st k a,vm (h.oks k om_) (h.r k a) (h.s k a) (h.ne k a)];exact h.sol1 k om_
theorem Way.sols (h:Way F N T R S K){x:Nat->Rat}{k l:Nat}(a:k<=K)(b:l<=K):(T k).Sol x ↔ (T l).Sol x:=(h.sol1 k a).trans (h.sol1 l b).symm
def L4 (T:Nat->Tab)(R S:Nat->Nat)(a b v:Nat):Prop:=∃ k,a<=k/\k<b/\((T k).bas (R k)=v∨(T k).oth (S k)=v)
theorem Way.step (h:Way F N T R S K){k v:Nat}(a:k<K):v∈(T (k+1)).basic ↔ v=(T k).oth (S k)∨v∈(T k).basic/\v≠(T k).bas (R k):=by
 rw [h.st k a];exact ER (h.oks k om_) (h.r k a) (h.s k a)
theorem Way.still (h:Way F N T R S K){a b v:Nat}(f:b<=K)(c:¬ L4 T R S a b v):∀ k,a<=k->k<=b->(v∈(T k).basic ↔ v∈(T a).basic):=by
 intro k g;induction k with
 | zero=>intro _;rw [show a=0 by omega]
 | succ k d =>
  intro i;rcases OZ k a with h1 | h1
  ·rw [show a=k+1 by omega]
  rw [h.step om_,<- d h1 om_];constructor
  ·rintro (rfl | ⟨h2,_⟩)
   ·exact absurd ⟨k,h1,by omega,.inr Z⟩ c
   exact h2
  intro h2;exact .inr ⟨h2,fun e=>c ⟨k,h1,by omega,.inl e.symm⟩⟩
theorem Way.leaves (h:Way F N T R S K){a b v:Nat}(o:b<=K)(j:v∈(T a).basic ↔ v∈(T b).basic)(m:L4 T R S a b v):∃ k,a<=k/\k<b/\(T k).bas (R k)=v:=by
 apply O3;intro f;obtain ⟨k,h1,h2,h3 | h3⟩:=m
 ·exact f ⟨k,h1,h2,h3⟩
 have up:∀ l,k+1<=l->l<=b->v∈(T l).basic:=by
  intro l;induction l with
  | zero=>intro h4;omega
  | succ l g =>
   intro h4 h5;rw [h.step om_];rcases OZ l (k+1) with c | c
   ·rw [show l=k by omega];exact .inl h3.symm
   exact .inr ⟨g c om_,fun e=>f ⟨l,by omega,by omega,e.symm⟩⟩
 have d:=j.2 (up b om_ (Oo _));have n:∀ l,a<=l->l<=k->v∈(T l).basic:=by
  intro l;induction l with
  | zero=>intro h4 _;rw [show a=0 by omega] at d;exact d
  | succ l g =>
   intro h4 h5;rcases OZ l a with c | c
   ·rw [show a=l+1 by omega] at d;exact d
   rw [h.step om_];exact .inr ⟨g c om_,fun e=>f ⟨l,by omega,by omega,e.symm⟩⟩
 have i:=n k h1 (Oo _);rw [<- h3] at i;exact (h.oks k om_).dj i (oth_mem (h.s k om_))
theorem Way.enters (h:Way F N T R S K){a b v:Nat}(p:b<=K)(j:v∈(T a).basic ↔ v∈(T b).basic)(m:L4 T R S a b v):∃ k,a<=k/\k<b/\(T k).oth (S k)=v:=by
 apply O3;intro f;obtain ⟨k,h1,h2,h3 | h3⟩:=m
 ·have up:∀ l,k+1<=l->l<=b->v ∉ (T l).basic:=by
   intro l;induction l with
   | zero=>intro h4;omega
   | succ l g =>
    intro h4 h5 hm;rcases (h.step om_).1 hm with e | ⟨e,n⟩
    ·exact f ⟨l,by omega,by omega,e.symm⟩
    rcases OZ l (k+1) with c | c
    ·have:l=k:=by omega
     subst this;exact n h3.symm
    exact g c om_ e
  have d:v ∉ (T a).basic:=fun hm=>up b om_ (Oo _) (j.1 hm);have o:∀ l,a<=l->l<=k->v ∉ (T l).basic:=by
   intro l;induction l with
   | zero=>intro h4 _;rw [show a=0 by omega] at d;exact d
   | succ l g =>
    intro h4 h5 hm;rcases OZ l a with c | c
    ·rw [show a=l+1 by omega] at d;exact d hm
    rcases (h.step om_).1 hm with e | ⟨e,_⟩
    ·exact f ⟨l,by omega,by omega,e.symm⟩
    exact g c om_ e
  have i:=o k h1 (Oo _);rw [<- h3] at i;exact i (bas_mem (h.r k om_))
 exact f ⟨k,h1,h2,h3⟩
theorem Way.fick_slack (h:Way F N T R S K){a b v:Nat}(d:b<=K)(c:L4 T R S a b v):F<=v/\v<N:=by
 obtain ⟨k,h1,h2,h3 | h3⟩:=c
 ·rw [<- h3];exact ⟨h.rs k om_,(h.oks k om_).lt _ (PP _ (bas_mem (h.r k om_)))⟩
 rw [<- h3];exact ⟨h.ss k om_,(h.oks k om_).lt _ (Qb _ (oth_mem (h.s k om_)))⟩
theorem JI {p:Nat->Prop}:∀ N:Nat,(∀ v,p v->v<N)->(∃ v,p v)->∃ t,p t/\∀ u,p u->u<=t
 | 0,a,⟨v,b⟩=>absurd (a v b) (Nat.not_lt_zero _)
 | N+1,a,d=>by
  by_cases c:p N
  ·exact ⟨N,c,fun u e=>by have:=a u e;omega⟩
  exact JI N (fun v b=>by
   have:=a v b;rcases OZ v N with h1 | h1
   ·exact h1
   exact absurd (show p N by rwa [show N=v by omega]) c) d
theorem Way.moved (h:Way F N T R S K){a b k l v:Nat}(c:b<=K)(e:a<=k)(f:k<=b)(g:a<=l)(i:l<=b)(j:v∈(T k).basic)(m:v ∉ (T l).basic):L4 T R S a b v:=by
 apply O3;intro d;exact m (((h.still c d k e f).trans (h.still c d l g i).symm).1 j)
theorem Way.feas (h:Way F N T R S K)
  (q:∀ k,k<K->((T k).line (R k)).c<0/\∀ i,i<(T k).basic.length->F<=(T k).bas i->((T k).line i).c<0->(T k).bas (R k)<=(T k).bas i)
  (B:∀ k,k<K->0<((T k).line (R k)).g (S k)/\∀ j,j<(T k).others.length->F<=(T k).oth j->0<((T k).line (R k)).g j->(T k).oth (S k)<=(T k).oth j)
  {a b:Nat} (P:a<b) (d:b<=K):¬ ∀ v,v∈(T a).basic ↔ v∈(T b).basic:=by
 intro hs;obtain ⟨t,C,D⟩:=JI (p:=L4 T R S a b) N (fun v Q=>(h.fick_slack d Q).2) ⟨_,a,Oo _,P,.inl rfl⟩;obtain ⟨k,U,k2,E⟩:=h.leaves d (hs t) C;obtain ⟨l,l1,l2,w⟩:=h.enters d (hs t) C;have f:=h.oks k om_;have n:=h.oks l om_;have G:=h.r l om_;have H:=h.s l om_
 -- basic fickle slacks of the first one are not below 0,but t
 have pos:∀ u,L4 T R S a b u->u≠t->0<=(T k).sol u:=by
  intro u I V;by_cases m:u∈(T k).basic
  ·obtain ⟨i,J,e⟩:=ef m;have y:(T k).bas i=u:=e;rw [<- y,sol_bas f J];apply O3;intro L;have:=(q k om_).2 i J (by rw [y];exact (h.fick_slack d I).1) (by grind);rw [E,y] at this;exact V (Nat.le_antisymm (D u I) this)
  rw [sol_oth f m];exact Rat.le_refl
 have L:(T k).sol t<0:=by
  rw [<- E,sol_bas f (h.r k om_)];exact (q k om_).1
 have W:=(h.sols (x:=(T k).sol) om_ om_).1 (gu f) (R l) G;have X:(T l).bas (R l)≠t:=by
  intro e;have:=bas_mem G;rw [e,<- w] at this;exact n.dj this (oth_mem H)
 have M:=pos _ ⟨l,l1,l2,.inl rfl⟩ X;rw [W] at M;have hc:=(q l om_).1;have aa:sumN (fun j=>((T l).line (R l)).g j*(T k).sol ((T l).others.getD j 0)) (T l).others.length<=0:=by
  refine wZ fun j z=>?_;show ((T l).line (R l)).g j*(T k).sol ((T l).oth j)<=0;by_cases o:(T l).oth j=t
  ·have Y:0<((T l).line (R l)).g j:=by
    have e:j=S l:=by
     have O:=dx n.no z;have Z:=dx n.no H;have e3:(T l).others.getD j 0=(T l).others.getD (S l) 0:=o.trans w.symm;rw [e3,Z] at O;exact O.symm
    rw [e];exact (B l om_).1
   rw [o];have:=Rat.mul_lt_mul_of_pos_left L Y;grind
  by_cases m:(T l).oth j∈(T k).basic
  ·have A:=h.moved d U om_ l1 om_ m (fun hm=>n.dj hm (oth_mem z));have hx:=pos _ A o;have hg:((T l).line (R l)).g j<=0:=by
    apply O3;intro ab;have:=(B l om_).2 j z (h.fick_slack d A).1 (by grind);rw [w] at this;exact o (Nat.le_antisymm (D _ A) this)
   have:=Rat.mul_nonneg (show 0<=-((T l).line (R l)).g j by grind) hx;grind
  rw [sol_oth f m];grind
 unfold lv at M;grind
end
end Go.Jog.Lp
namespace Go.Jog.Lp
section
variable {t:Tab} {N:Nat}
theorem Lb {l:Line}{a:List Nat}{x:Nat->Rat}(h:∀ j,j<a.length->x (a.getD j 0)=0):lv l a x=l.c:=by
 unfold lv;rw [sumN_zero fun j b=>by rw [h j b];grind];grind
theorem Hc (h:t.Ok N){x:Nat->Rat}(d:t.Sol x)(b:∀ v,v ∉ t.basic->x v=0):∀ v,x v=t.sol v:=by
 intro v;by_cases a:v∈t.basic
 ·obtain ⟨i,c,e⟩:=ef a;have f:t.bas i=v:=e;rw [<- f,sol_bas h c,d i c,Lb fun j g=>b _ (fun k=>h.dj k (oth_mem g))]
 rw [b v a,sol_oth h a]
def eY (s:Nat)(v:Nat):Rat:=if v=s then 1 else 0
theorem xx (h:t.Ok N){l:Line}{s:Nat}(a:s<t.others.length):lv l t.others (eY (t.oth s))=l.c+l.g s:=by
 rw [BO a,sumN_zero fun j b=>?_]
 ·show l.c+(l.g s*eY (t.oth s) (t.oth s)+0)=_;unfold eY;rw [aI rfl];grind
 by_cases e:j=s
 ·rw [aI e]
 rw [aA e];unfold eY;rw [aA,Rat.mul_zero];intro d;have h1:=dx h.no b;rw [show t.others.getD j 0=t.others.getD s 0 from d,dx h.no a] at h1;exact e h1.symm
end
end Go.Jog.Lp
namespace Go.Jog.Lp
variable {F K N:Nat}{P:Tab->Nat->Nat->Prop}{r s:Nat}{t:Tab}
def cdN (p:Nat->Bool):Nat->Nat
 | 0=>0
 | n+1=>cdN p n+(if p n then 2 ^ n else 0)
theorem AI (p:Nat->Bool):∀ n,cdN p n<2 ^ n
 | 0=>Nat.one_pos
 | n+1=>by
  have:=AI p n;have e:2 ^ (n+1)=2 ^ n+2 ^ n:=by rw [PE];omega
  simp only [cdN];split <;> omega
theorem ye {p q:Nat->Bool}:∀ {n:Nat},cdN p n=cdN q n->∀ v,v<n->p v=q v
 | n+1,h,v,d=>by
  have h1:=AI p n;have h2:=AI q n;simp only [cdN] at h;have a:p n=q n:=by
   cases b:p n <;> cases c:q n <;> simp [b,c] at h ⊢ <;> omega
  rw [a] at h;rcases OZ v n with h3 | h3
  ·exact ye om_ v h3
  rw [show v=n by omega];exact a
theorem Way.len {T:Nat->Tab}{R S:Nat->Nat}(h:Way F N T R S K)(g:∀ a b,a<b->b<=K->¬ ∀ v,v∈(T a).basic ↔ v∈(T b).basic):K+1<=2 ^ N:=by
 have i:((List.range (K+1)).map fun k=>cdN (fun v=>decide (v∈(T k).basic)) N).Nodup:=by
  unfold List.Nodup;rw [List.pairwise_map];refine List.Pairwise.imp_of_mem ?_ List.pairwise_lt_range;intro a b _ d j e;refine g a b j (by rw [ON] at d;omega) fun v=>?_;have f:∀ k,k<=K->v∈(T k).basic->v<N:=fun k l c=>(h.oks k l).lt v (PP _ c);rw [ON] at d;constructor
  ·intro c;have:=ye e v (f a om_ c);rw [OK c] at this;exact NM this.symm
  intro c;have:=ye e v (f b om_ c);rw [OK c] at this;exact NM this
 have:=List.Nodup.length_le_of_subset (l₂:=List.range (2 ^ N)) i (fun x m=>by
  obtain ⟨k,_,rfl⟩:=OB.1 m;exact ON.2 (AI _ N))
 simpa using this
def Reach (P:Tab->Nat->Nat->Prop)(t:Tab)(K:Nat):Prop:=∃ (T:Nat->Tab)(R S:Nat->Nat),T 0=t/\∀ k,k<K->P (T k) (R k) (S k)/\T (k+1)=(T k).pivot (R k) (S k)
theorem Reach.cons (h:P t r s)(a:Reach P (t.pivot r s) K):Reach P t (K+1):=by
 obtain ⟨T,R,S,h0,h1⟩:=a;refine ⟨fun k=>match k with | 0=>t | k+1=>T k,fun k=>match k with | 0=>r | k+1=>R k,fun k=>match k with | 0=>s | k+1=>S k,Z,fun k a=>?_⟩;cases k with
 | zero=>exact ⟨h,h0⟩
 | succ k=>exact h1 k om_
theorem Reach.one (h:P t r s):Reach P t 1:=Reach.cons h ⟨fun _=>t.pivot r s,fun _=>0,fun _=>0,rfl,fun _b a=>absurd a (Nat.not_lt_zero _)⟩
theorem Reach.fall {m:Nat}(h:P t r s)(a:∀ K,Reach P t K->K<=m):0<m/\∀ K,Reach P (t.pivot r s) K->K<=m-1:=by
 have h1:=a 1 (Reach.one h);exact ⟨by omega,fun K b=>by have:=a _ (Reach.cons h b);omega⟩
structure FeasP (F:Nat)(t:Tab)(r s:Nat):Prop where
 hr:r<t.basic.length
 hs:s<t.others.length
 rs:F<=t.bas r
 ss:F<=t.oth s
 c:(t.line r).c<0
 rl:∀ i,i<t.basic.length->F<=t.bas i->(t.line i).c<0->t.bas r<=t.bas i
 g:0<(t.line r).g s
 sl:∀ j,j<t.others.length->F<=t.oth j->0<(t.line r).g j->t.oth s<=t.oth j
def Tab.Feas (F:Nat)(t:Tab):Prop:=∀ i,i<t.basic.length->F<=t.bas i->0<=(t.line i).c
structure MinP (F:Nat)(t:Tab)(r s:Nat):Prop where
 hr:r<t.basic.length
 hs:s<t.others.length
 rs:F<=t.bas r
 ss:F<=t.oth s
 w:t.worth.g s<0
 sl:∀ j,j<t.others.length->F<=t.oth j->t.worth.g j<0->t.oth s<=t.oth j
 g:(t.line r).g s<0
 rl:∀ i,i<t.basic.length->F<=t.bas i->(t.line i).g s<0->(t.line r).c / -(t.line r).g s<(t.line i).c / -(t.line i).g s∨(t.line r).c / -(t.line r).g s=(t.line i).c / -(t.line i).g s/\t.bas r<=t.bas i
 feas:t.Feas F
theorem feas_len (h:t.Ok N)(e:Reach (FeasP F) t K):K<=2 ^ N:=by
 obtain ⟨T,R,S,h0,h1⟩:=e;have hw:Way F N T R S K:=⟨by rw [h0];exact h,fun k d=>(h1 k d).2,fun k d=>(h1 k d).1.hr,fun k d=>(h1 k d).1.hs,fun k d=>by have:=(h1 k d).1.g;grind,fun k d=>(h1 k d).1.rs,fun k d=>(h1 k d).1.ss⟩;have:=hw.len fun a b f i=>hw.feas (fun k d=>⟨(h1 k d).1.c,(h1 k d).1.rl⟩) (fun k d=>⟨(h1 k d).1.g,(h1 k d).1.sl⟩) f i;omega
theorem Eo (a:r<t.basic.length)(i:Nat):(t.pivot r s).bas i=if i=r then t.oth s else t.bas i:=oa a
theorem vn (a:s<t.others.length)(j:Nat):(t.pivot r s).oth j=if j=s then t.bas r else t.oth j:=oa a
end Go.Jog.Lp
namespace Go.Jog.Lp
variable {i n:Nat}
abbrev Col:=Nat->Rat
def detN:Nat->Nat->List Col->Rat
 | 0,_,_=>1
 | n+1,r,l=>sumN (fun i=>(-1) ^ i*((l.getD i fun _=>0) r*detN n (r+1) (l.eraseIdx i))) (n+1)
def det (r:Nat)(l:List Col):Rat:=detN l.length r l
theorem gT {r:Nat}{l:List Col}(h:l.length=n+1):det r l=sumN (fun i=>(-1) ^ i*((l.getD i fun _=>0) r*det (r+1) (l.eraseIdx i))) (n+1):=by
 unfold det;rw [h];show sumN _ (n+1)=_;refine aO fun i a=>?_;rw [List.length_eraseIdx,aI om_,h];rfl
theorem iG (i:Nat):(-1:Rat) ^ (i+1)=-(-1) ^ i:=by rw [Rat.pow_succ];grind
theorem jp {a:Col}{b c:List Col}{d:Col}:(b++a::c).getD b.length d=a:=by
 rw [ax,OY (Oo _),QK];rfl
theorem vM {a b:Col}{c e:List Col}{d:Col}:(c++a::b::e).getD (c.length+1) d=b:=by
 rw [ax,OY om_,PT];rfl
theorem Ae {a b:Col}{c f:List Col}{d:Col}(h:i≠c.length):(c++a::f).getD i d=(c++b::f).getD i d:=by
 rw [ax,ax];rcases OZ i c.length with h1 | h1
 ·rw [Pi h1,Pi h1]
 rw [OY h1,OY h1];cases e:i-c.length with
 | zero=>omega
 | succ k=>rfl
theorem gc {a:Col}{b c:List Col}:(b++a::c).eraseIdx b.length=b++c:=by
 rw [List.eraseIdx_append_of_length_le (Oo _),QK];rfl
theorem rF {a b:Col}{c d:List Col}:(c++a::b::d).eraseIdx (c.length+1)=c++a::d:=by
 rw [List.eraseIdx_append_of_length_le om_,PT];rfl
theorem FC {l1 l2:List Col}(h:i≠l1.length)(e:i<l1.length+1+l2.length):∃ b c:List Col,b.length+1+c.length+1=l1.length+1+l2.length/\∀ a:Col,(l1++a::l2).eraseIdx i=b++a::c:=by
 rcases OZ i l1.length with h1 | h1
 ·refine ⟨l1.eraseIdx i,l2, ?_,fun a=>List.eraseIdx_append_of_lt_length h1 _⟩;rw [List.length_eraseIdx,aI h1];omega
 obtain ⟨k,d⟩:∃ k,i-l1.length=k+1:=⟨i-l1.length-1,by omega⟩;refine ⟨l1,l2.eraseIdx k, ?_,fun a=>?_⟩
 ·rw [List.length_eraseIdx,aI om_];omega
 rw [List.eraseIdx_append_of_length_le h1,d];rfl
theorem tE {p q:Rat}{a b:Col}:∀ (n r:Nat)(l1 l2:List Col),l1.length+1+l2.length=n->det r (l1++(fun k=>p*a k+q*b k)::l2)=p*det r (l1++a::l2)+q*det r (l1++b::l2)
 | 0,r,l1,l2,h=>by omega
 | n+1,r,l1,l2,h=>by
  rw [gT (n:=n) ap,gT (l:=l1++a::l2) (n:=n) ap,gT (l:=l1++b::l2) (n:=n) ap,<- cN,<- cN,<- dJ];refine aO fun i g=>?_;by_cases e:i=l1.length
  ·subst e;rw [jp,jp,jp,gc,gc,gc];grind
  rw [Ae (b:=a) e,Ae (a:=b) (b:=a) e];obtain ⟨d,f,hm,c⟩:=FC (l1:=l1) (l2:=l2) e om_;rw [c,c,c,tE n (r+1) d f om_];grind
theorem Fs {a b:Col}{c e:List Col}{d:Col}(h:i≠c.length)(g:i≠c.length+1):(c++a::b::e).getD i d=(c++b::a::e).getD i d:=by
 rw [ax,ax];rcases OZ i c.length with h1 | h1
 ·rw [Pi h1,Pi h1]
 rw [OY h1,OY h1];obtain ⟨k,f⟩:∃ k,i-c.length=k+2:=⟨i-c.length-2,by omega⟩;rw [f];rfl
theorem Ck {l1 l2:List Col}(h:i≠l1.length)(f:i≠l1.length+1)(g:i<l1.length+2+l2.length):∃ c d:List Col,c.length+2+d.length+1=l1.length+2+l2.length/\∀ a b:Col,(l1++a::b::l2).eraseIdx i=c++a::b::d:=by
 rcases OZ i l1.length with h1 | h1
 ·refine ⟨l1.eraseIdx i,l2, ?_,fun a b=>List.eraseIdx_append_of_lt_length h1 _⟩;rw [List.length_eraseIdx,aI h1];omega
 obtain ⟨k,e⟩:∃ k,i-l1.length=k+2:=⟨i-l1.length-2,by omega⟩;refine ⟨l1,l2.eraseIdx k, ?_,fun a b=>?_⟩
 ·rw [List.length_eraseIdx,aI om_];omega
 rw [List.eraseIdx_append_of_length_le h1,e];rfl
theorem yV (g:Nat->Rat):∀ n,sumN (fun j=>-g j) n=-sumN g n
 | 0=>by simp only [sumN];grind
 | n+1=>by simp only [sumN];rw [yV g n];grind
theorem yU {g:Nat->Rat}{a:Nat}(h:a+1<n):sumN g n=g a+g (a+1)+sumN (fun j=>if j=a∨j=a+1 then 0 else g j) n:=by
 rw [gr (a:=a) om_,gr (g:=fun j=>if j=a then 0 else g j) (a:=a+1) h,aA om_];have e:sumN (fun j=>if j=a+1 then 0 else if j=a then 0 else g j) n=sumN (fun j=>if j=a∨j=a+1 then 0 else g j) n:=aO fun j _=>by
  by_cases h1:j=a
  ·rw [aI (show j=a∨j=a+1 from .inl h1),aA om_,aI h1]
  by_cases h2:j=a+1
  ·rw [aI h2,aI (show j=a∨j=a+1 from .inr h2)]
  rw [aA h2,aA h1,aA om_]
 rw [e];grind
theorem tD {a b:Col}:∀ (n r:Nat)(l1 l2:List Col),l1.length+2+l2.length=n->det r (l1++a::b::l2)=-det r (l1++b::a::l2)
 | 0,r,l1,l2,h=>by omega
 | n+1,r,l1,l2,h=>by
  rw [gT (n:=n) ap,gT (l:=l1++b::a::l2) (n:=n) ap,yU (g:=fun i=>(-1) ^ i*((l1++a::b::l2).getD i (fun _=>0) r*det (r+1) ((l1++a::b::l2).eraseIdx i))) (a:=l1.length) om_,
   yU (g:=fun i=>(-1) ^ i*((l1++b::a::l2).getD i (fun _=>0) r*det (r+1) ((l1++b::a::l2).eraseIdx i))) (a:=l1.length) om_]
  rw [jp,vM,jp,vM,gc,rF,gc,rF,iG];have e:sumN (fun j=>if j=l1.length∨j=l1.length+1 then 0 else (-1) ^ j*((l1++a::b::l2).getD j (fun _=>0) r*det (r+1) ((l1++a::b::l2).eraseIdx j))) (n+1) =
    -sumN (fun j=>if j=l1.length∨j=l1.length+1 then 0 else (-1) ^ j*((l1++b::a::l2).getD j (fun _=>0) r*det (r+1) ((l1++b::a::l2).eraseIdx j))) (n+1):=by
   rw [<- yV];refine aO fun j k=>?_;by_cases h1:j=l1.length∨j=l1.length+1
   ·rw [aI h1,aI h1];grind
   rw [aA h1,aA h1,Fs om_ om_];obtain ⟨d,f,hm,c⟩:=Ck (l1:=l1) (l2:=l2) (i:=j) om_ om_ om_;rw [c,c,tD n (r+1) d f om_];grind
  rw [e];grind
theorem lk {a:Col}:∀ (l2:List Col)(r:Nat)(l1 c:List Col),det r (l1++a::(l2++a::c))=0
 | [],r,l1,c=>by
  have h:=tD (a:=a) (b:=a) _ r l1 c rfl;show det r (l1++a::a::c)=0;grind
 | b::l2,r,l1,c=>by
  have h:=tD (a:=a) (b:=b) _ r l1 (l2++a::c) rfl;have d:=lk (a:=a) l2 r (l1++[b]) c;rw [OU] at d;show det r (l1++a::b::(l2++a::c))=0;rw [h,show l1++b::a::(l2++a::c)=l1++([b]++a::(l2++a::c)) from rfl,d];grind
theorem LC {l:List Col}{j:Nat}(g:i<l.length)(k:j<l.length)(n:i≠j)(r:Nat):det r (l.set i (l.getD j fun _=>0))=0:=by
 have t:l[j]?=some (l.getD j fun _=>0):=by rw [ax,ak k];rfl
 have o:∀ {a b:Nat}{m:List Col}{x:Col},a<b->b<m.length->m[a]?=some x->m[b]?=some x->∃ c d f,m=c++x::(d++x::f):=by
  intro a b m x u p q s;refine ⟨m.take a,(m.drop (a+1)).take (b-a-1),m.drop (b+1), ?_⟩;have h1:m=m.take a++x::m.drop (a+1):=by
   have:=Pq a m;rw [OW om_] at this;rw [ak om_] at q;rw [PS q] at this;exact this.symm
  have h2:m.drop (a+1)=(m.drop (a+1)).take (b-a-1)++x::m.drop (b+1):=by
   have:=Pq (b-a-1) (m.drop (a+1));rw [List.drop_drop,show a+1+(b-a-1)=b by omega,OW p] at this;rw [ak p] at s;rw [PS s] at this;exact this.symm
  rw [<- h2];exact h1
 have h1:(l.set i (l.getD j fun _=>0))[i]?=some (l.getD j fun _=>0):=by rw [Rx g]
 have h2:(l.set i (l.getD j fun _=>0))[j]?=some (l.getD j fun _=>0):=by rw [RL n];exact t
 rcases Nat.lt_or_gt_of_ne n with h | h
 ·obtain ⟨c,d,f,e⟩:=o h (by rw [Pm];exact k) h1 h2;rw [e];exact lk d r c f
 obtain ⟨c,d,f,e⟩:=o h (by rw [Pm];exact g) h2 h1;rw [e];exact lk d r c f
theorem kI {l:List Col}{x:Col}(h:i<l.length):l.set i x=l.take i++x::l.drop (i+1):=List.set_eq_take_append_cons_drop.trans (aI h)
def IT (l:List Col)(x:Nat->Rat)(n:Nat):Col:=fun k=>sumN (fun j=>x j*(l.getD j fun _=>0) k) n
theorem Aq {l:List Col}{i:Nat}(c:i<l.length)(x:Nat->Rat)(r:Nat):∀ n,n<=l.length->det r (l.set i (IT l x n))=sumN (fun j=>x j*det r (l.set i (l.getD j fun _=>0))) n
 | 0,_=>by
  have h:=tE (p:=0) (q:=0) (a:=fun _=>0) (b:=fun _=>0) _ r (l.take i) (l.drop (i+1)) rfl;rw [kI c];have e:IT l x 0=fun k=>(0:Rat)*(fun _=>0:Col) k+0*(fun _=>0:Col) k:=by
   funext k;show (0:Rat)=_;grind
  rw [e,h];simp only [sumN];grind
 | n+1,h=>by
  have d:=Aq c x r n om_;have e:IT l x (n+1)=fun k=>1*IT l x n k+x n*(l.getD n fun _=>0) k:=by
   funext k;show sumN _ n+_=1*sumN _ n+_;grind
  rw [kI c,e,tE _ r _ _ rfl,<- kI c,<- kI c,d];simp only [sumN];grind
theorem Nk {l:List Col}(a:i<l.length)(x:Nat->Rat)(r:Nat):det r (l.set i (IT l x l.length))=x i*det r l:=by
 rw [Aq a x r _ (Oo _),gr a];have e:l.set i (l.getD i fun _=>0)=l:=by
  rw [ax,ak a];exact List.set_getElem_self a
 rw [e,sumN_zero fun j b=>?_]
 ·grind
 by_cases h:j=i
 ·rw [aI h]
 rw [aA h,LC a b (Ne.symm h)];grind
end Go.Jog.Lp
namespace Go.Jog.Lp
variable {a:Col}{f:Col->Rat}{l l1 l2:List Col}{r:Nat}{ys:List Rat}
def lH:List Rat->List Col->Col
 | y::ys,c::l,k=>y*c k+lH ys l k
 | _,_,_=>0
theorem zU {y1 y2:List Rat}(h:y1.length=l1.length)(k:Nat):lH (y1++y2) (l1++l2) k=lH y1 l1 k+lH y2 l2 k:=by
 induction l1 generalizing y1 with
 | nil =>
  have:y1=[]:=O6 h;subst this;show lH y2 l2 k=0+_;grind
 | cons c l1 a =>
  cases y1 with
  | nil=>cases h
  | cons y y1 =>
   have:=a (y1:=y1) (by simpa using h);show y*c k+lH (y1++y2) (l1++l2) k=y*c k+lH y1 l1 k+_;rw [this];grind
theorem H8 (h:ys.length=l.length)(k:Nat):lH ys (l.map fun c=>fun k=>c k-f c*a k) k=lH ys l k-(lH ys (l.map fun c=>fun _=>f c) k)*a k:=by
 induction l generalizing ys with
 | nil =>
  have:ys=[]:=O6 h;subst this;show (0:Rat)=0-0*a k;grind
 | cons c l b =>
  cases ys with
  | nil=>cases h
  | cons y ys =>
   have:=b (ys:=ys) (by simpa using h);show y*(c k-f c*a k)+lH ys _ k=y*c k+lH ys l k-(y*f c+lH ys _ k)*a k;rw [this];grind
theorem BQ (k a:Nat):lH ys (l.map fun c=>fun _=>f c) k=lH ys (l.map fun c=>fun _=>f c) a:=by
 induction l generalizing ys with
 | nil=>cases ys <;> rfl
 | cons c l b =>
  cases ys with
  | nil=>rfl
  | cons y ys =>
   show y*f c+lH ys _ k=y*f c+lH ys _ a;rw [b]
theorem oL {k:Nat}(h:∀ c∈l,c k=0):lH ys l k=0:=by
 induction l generalizing ys with
 | nil=>cases ys <;> rfl
 | cons c l a =>
  cases ys with
  | nil=>rfl
  | cons y ys =>
   show y*c k+lH ys l k=0;rw [h c aJ,a fun d b=>h d (OA _ b)];grind
def Ns (r m:Nat)(l:List Col):Prop:=∃ ys:List Rat,ys.length=l.length/\(∃ y∈ys,y≠0)/\∀ k,r<=k->k<r+m->lH ys l k=0
theorem zq {m:Nat}(s:a r≠0)(h:Ns (r+1) m ((l1++l2).map fun c=>fun k=>c k-c r / a r*a k)):Ns r (m+1) (l1++a::l2):=by
 obtain ⟨ys,g,⟨y,hy,i⟩,j⟩:=h;rw [al,Oy] at g;have b:ys=ys.take l1.length++ys.drop l1.length:=(Pq _ _).symm;have e:(ys.take l1.length).length=l1.length:=by rw [OG];omega
 have u:(ys.drop l1.length).length=l2.length:=by rw [Qv];omega
 have l:ys.length=(l1++l2).length:=by rw [Oy];omega
 obtain ⟨t,n⟩:∃ t:Rat,∀ k,lH ys ((l1++l2).map fun c=>fun _=>c r / a r) k=t:=⟨_,fun k=>BQ (f:=fun c=>c r / a r) k 0⟩;have o:∀ k,lH ys ((l1++l2).map fun c=>fun k=>c k-c r / a r*a k) k=lH ys (l1++l2) k-t*a k:=fun k=>by
  rw [H8 (f:=fun c=>c r / a r) l k,n]
 have p:∀ k,lH (ys.take l1.length++-t::ys.drop l1.length) (l1++a::l2) k=lH ys (l1++l2) k-t*a k:=fun k=>by
  rw [zU e];show _+(-t*a k+lH (ys.drop l1.length) l2 k)=_;have:=zU (y2:=ys.drop l1.length) (l2:=l2) e k;rw [<- b] at this;rw [this];grind
 refine ⟨ys.take l1.length++-t::ys.drop l1.length,by simp;omega,⟨y, ?_,i⟩,fun k h1 h2=>?_⟩
 ·rw [b] at hy;rcases OJ.1 hy with h | h
  ·exact PP _ h
  exact Qb _ (OA _ h)
 rw [p k,<- o k];rcases OZ r k with h3 | h3
 ·exact j k om_ om_
 have:k=r:=by omega
 subst this;refine oL fun c q=>?_;obtain ⟨d,_,rfl⟩:=OB.1 q;show d k-d k / a k*a k=0;grind
theorem yZ {p:Col->Prop}(h:∃ c∈l,p c):∃ l1 a l2,l=l1++a::l2/\p a:=by
 obtain ⟨c,b,d⟩:=h;obtain ⟨l1,l2,e⟩:=List.append_of_mem b;exact ⟨l1,c,l2,e,d⟩
theorem sC:∀ (m r:Nat)(l:List Col),m<l.length->Ns r m l
 | 0,r,l,h=>⟨List.replicate l.length 1,P1,⟨1,by rw [List.mem_replicate];exact ⟨by omega,rfl⟩,by decide⟩,fun k h1 h2=>by omega⟩
 | m+1,r,l,h=>by
  by_cases b:∃ c∈l,c r≠0
  ·obtain ⟨l1,a,l2,e,d⟩:=yZ b;subst e;exact zq d (sC m (r+1) _ (by simp at h ⊢;omega))
  obtain ⟨ys,h1,h2,h3⟩:=sC m (r+1) l om_;refine ⟨ys,h1,h2,fun k h4 h5=>?_⟩;rcases OZ r k with f | f
  ·exact h3 k om_ om_
  have:k=r:=by omega
  subst this;exact oL fun c g=>O3 fun i=>b ⟨c,g,i⟩
theorem FQ {t:Rat}{c:Col}{m1 m2:List Col}(h:a∈m1∨a∈m2):det r (m1++(fun k=>c k-t*a k)::m2)=det r (m1++c::m2):=by
 have e:(fun k=>c k-t*a k)=fun k=>1*c k + -t*a k:=by funext k;grind
 have h0:det r (m1++a::m2)=0:=by
  rcases h with h | h
  ·obtain ⟨b,d,e⟩:=List.append_of_mem h;rw [e,OU];exact lk d r b m2
  obtain ⟨b,d,e⟩:=List.append_of_mem h;rw [e];exact lk b r m1 d
 rw [e,tE _ r m1 m2 rfl,h0];grind
theorem rJ {r:Nat}{f:Col->Rat}{a:Col}{q:List Col}:∀ (l p:List Col),a∈q->det r (p++(l++q))=det r (p++(l.map (fun c=>fun k=>c k-f c*a k)++q))
 | [],p,h=>rfl
 | c::l,p,h=>by
  have h1:=rJ (r:=r) (f:=f) l (p++[c]) h;rw [OU,OU] at h1;have h2:=FQ (r:=r) (t:=f c) (c:=c) (a:=a) (m1:=p) (m2:=l.map (fun c=>fun k=>c k-f c*a k)++q) (.inr (Qb _ h));show det r (p++c::(l++q))=det r (p++(fun k=>c k-f c*a k)::(l.map (fun c=>fun k=>c k-f c*a k)++q));rw [h2];exact h1
theorem rI {r:Nat}{f:Col->Rat}{a:Col}:∀ (l p:List Col),a∈p->det r (p++l)=det r (p++l.map (fun c=>fun k=>c k-f c*a k))
 | [],p,h=>rfl
 | c::l,p,h=>by
  have h1:=rI (r:=r) (f:=f) l (p++[c]) (PP _ h);rw [OU,OU] at h1;have h2:=FQ (r:=r) (t:=f c) (c:=c) (a:=a) (m1:=p) (m2:=l.map (fun c=>fun k=>c k-f c*a k)) (.inl h);show det r (p++c::l)=det r (p++(fun k=>c k-f c*a k)::l.map (fun c=>fun k=>c k-f c*a k));rw [h2];exact h1
theorem FR (s:a r≠0):det r (l1++a::l2)=(-1) ^ l1.length*(a r*det (r+1) ((l1++l2).map fun c=>fun k=>c k-c r / a r*a k)):=by
 have h1:=rJ (r:=r) (f:=fun c=>c r / a r) (a:=a) (q:=a::l2) l1 [] aJ;have h2:=rI (r:=r) (f:=fun c=>c r / a r) (a:=a) l2 (l1.map (fun c=>fun k=>c k-c r / a r*a k)++[a]) (Qb _ aJ);rw [OU,OU] at h2;rw [P7,P7] at h1;rw [h1];show det r (_++([a]++l2))=_;rw [h2];show det r (l1.map (fun c=>fun k=>c k-c r / a r*a k)++a::l2.map (fun c=>fun k=>c k-c r / a r*a k))=_;have h:(l1.map (fun c=>fun k=>c k-c r / a r*a k)).length=l1.length:=al _;generalize i:l1.map (fun c=>fun k=>c k-c r / a r*a k)=L1 at h;generalize l:l2.map (fun c=>fun k=>c k-c r / a r*a k)=g;have m:∀ c,c∈L1∨c∈g->c r=0:=fun c b=>by
  rcases b with b | b
  ·rw [<- i] at b;obtain ⟨d,_,rfl⟩:=OB.1 b;show d r-d r / a r*a r=0;grind
  rw [<- l] at b;obtain ⟨d,_,rfl⟩:=OB.1 b;show d r-d r / a r*a r=0;grind
 rw [gT (n:=L1.length+g.length) ap,gr (a:=L1.length) om_,jp,gc,h,O7,i,l,sumN_zero fun j t=>?_]
 ·grind
 by_cases e:j=l1.length
 ·rw [aI e]
 rw [aA e];have h0:(L1++a::g).getD j (fun _=>0) r=0:=by
  rw [ax];rcases OZ j L1.length with h3 | h3
  ·rw [Pi h3,ak h3];exact m _ (.inl (Pn _))
  rw [OY h3];obtain ⟨k,o⟩:∃ k,j-L1.length=k+1:=⟨j-L1.length-1,by omega⟩;rw [o,Qq];cases p:g[k]? with
  | none=>rfl
  | some c=>exact m c (.inr (Oq p))
 rw [h0];grind
theorem qP:∀ (n r:Nat)(l:List Col),l.length=n->det r l=0->Ns r n l
 | 0,r,l,b,h=>by
  have:l=[]:=O6 b;subst this;exact absurd (show (1:Rat)=0 from h) dc_
 | n+1,r,l,b,h=>by
  by_cases f:∃ c∈l,c r≠0
  ·obtain ⟨l1,a,l2,e,d⟩:=yZ f;subst e;rw [FR d] at h;have h1:det (r+1) ((l1++l2).map fun c=>fun k=>c k-c r / a r*a k)=0:=by
    rcases Rat.mul_eq_zero.1 h with h2 | h2
    ·have g:∀ i:Nat,(-1:Rat) ^ i≠0:=fun i=>by
      induction i with
      | zero=>decide
      | succ i p=>rw [iG];grind
     exact absurd h2 (g _)
    rcases Rat.mul_eq_zero.1 h2 with h3 | h3
    ·exact absurd h3 d
    exact h3
   exact zq d (qP n (r+1) _ (by simp at b ⊢;omega) h1)
  obtain ⟨ys,h1,h2,h3⟩:=sC n (r+1) l om_;refine ⟨ys,h1,h2,fun k h4 h5=>?_⟩;rcases OZ r k with j | j
  ·exact h3 k om_ om_
  have:k=r:=by omega
  subst this;exact oL fun c m=>O3 fun o=>f ⟨c,m,o⟩
def fctM (M:Nat):Nat->Nat
 | 0=>1
 | n+1=>(n+1)*(M*fctM M n)
theorem xS {M:Nat}:∀ (n r:Nat)(l:List Col),l.length=n->(∀ c∈l,∀ k,r<=k->k<r+n->∃ z:Int,c k=z/\z.natAbs<=M)->∃ z:Int,det r l=z/\z.natAbs<=fctM M n
 | 0,r,l,b,_=>by
  have:l=[]:=O6 b;subst this;exact ⟨1,Z,Oo 1⟩
 | n+1,r,l,b,h=>by
  rw [gT b];have q:∀ m,m<=n+1->∃ z:Int,sumN (fun i=>(-1) ^ i*((l.getD i fun _=>0) r*det (r+1) (l.eraseIdx i))) m=z/\z.natAbs<=m*(M*fctM M n):=by
   intro m;induction m with
   | zero=>intro _;exact ⟨0,rfl,by simp⟩
   | succ m a =>
    intro hm;obtain ⟨z,e,d⟩:=a om_;have f:m<l.length:=by omega
    have g:l.getD m (fun _=>0)∈l:=by rw [ax,ak f];exact Pn _
    obtain ⟨u,j,o⟩:=h _ g r (Oo _) om_;obtain ⟨w,p,hw⟩:=xS (M:=M) n (r+1) (l.eraseIdx m) (by rw [List.length_eraseIdx,aI f];omega) (fun c t k h1 h2=>h c (List.mem_of_mem_eraseIdx t) k om_ om_);have hs:∃ s:Int,((-1:Rat) ^ m=s)/\s.natAbs=1:=by
     clear a e d hm f g j o p hw;induction m with
     | zero=>exact ⟨1,rfl,rfl⟩
     | succ m a =>
      obtain ⟨s,h1,h2⟩:=a;exact ⟨-s,by rw [iG,h1,Rat.intCast_neg],by omega⟩
    obtain ⟨s,v,hs⟩:=hs;refine ⟨z+s*(u*w), ?_, ?_⟩
    ·simp only [sumN];rw [e,j,p,v,Rat.intCast_add,QY,QY]
    have h1:=Q2 z (s*(u*w));have h2:(s*(u*w)).natAbs=u.natAbs*w.natAbs:=by rw [P5,P5,hs,Re]
    have h3:u.natAbs*w.natAbs<=M*fctM M n:=P4 o hw;rw [Nat.succ_mul];omega
  obtain ⟨z,e,d⟩:=q (n+1) (Oo _);exact ⟨z,e,d⟩
end Go.Jog.Lp
namespace Go.Jog.Lp
theorem nR (h:Nat->Rat):∀ n,sumN h (n+1)=h 0+sumN (fun p=>h (p+1)) n
 | 0=>by simp only [sumN];grind
 | n+1=>by
  have a:=nR h n;have e:sumN h (n+1+1)=sumN h (n+1)+h (n+1):=rfl;rw [e,a];simp only [sumN];grind
theorem xa {g:Nat->Rat}{n:Nat}:∀ {l:List Nat},l.Nodup->(∀ v∈l,v<n)->sumN (fun j=>if j∈l then g j else 0) n=sumN (fun p=>g (l.getD p 0)) l.length
 | [],_,_=>sumN_zero fun j _=>aA PL
 | v::l,c,a=>by
  have b:=RK.1 c;rw [OI,nR,gr (a v aJ),aI aJ];have d:=xa (g:=g) (n:=n) b.2 fun u e=>a u (OA _ e);show g v+_=g v+sumN (fun p=>g (l.getD p 0)) l.length;rw [<- d];congr 1;refine aO fun j _=>?_;by_cases h1:j=v
  ·subst h1;rw [aI rfl,aA b.1]
  rw [aA h1];by_cases h2:j∈l
  ·rw [aI (OA _ h2),aI h2]
  rw [aA h2,aA (fun h=>(OE.1 h).elim h1 h2)]
theorem zT:∀ {ys:List Rat}{l:List Col}(k:Nat),ys.length=l.length->lH ys l k=sumN (fun j=>ys.getD j 0*(l.getD j fun _=>0) k) l.length
 | [],[],k,_=>rfl
 | y::ys,c::l,k,h=>by
  have a:=zT (ys:=ys) (l:=l) k (by simpa using h);rw [OI,nR];show y*c k+lH ys l k=y*c k+sumN (fun p=>ys.getD p 0*(l.getD p fun _=>0) k) l.length;rw [a]
 | [],_::_,_,h=>by cases h
 | _::_,[],_,h=>by cases h
structure Sys where
 n:Nat
 m:Nat
 a:Nat->Nat->Rat
 b:Nat->Rat
def Sys.Sol (p:Sys)(x:Nat->Rat):Prop:=∀ r,r<p.m->x (p.n+r)=p.b r-sumN (fun j=>p.a r j*x j) p.n
structure Sys.Wh (p:Sys)(D:Nat->Int)(M:Nat):Prop where
 d:∀ r,r<p.m->D r≠0/\(D r).natAbs<=M
 a:∀ r j,r<p.m->j<p.n->∃ z:Int,D r*p.a r j=z/\z.natAbs<=M
 b:∀ r,r<p.m->∃ z:Int,D r*p.b r=z/\z.natAbs<=M
structure TabOf (p:Sys)(t:Tab):Prop where
 ok:t.Ok (p.n+p.m)
 lb:t.basic.length=p.m
 lo:t.others.length=p.n
 sol:∀ x,t.Sol x ↔ p.Sol x
def Quo (K:Nat)(q:Rat):Prop:=∃ z w:Int,w≠0/\q*w=z/\z.natAbs<=K/\w.natAbs<=K
section
variable {p:Sys} {t:Tab}
theorem TabOf.all (h:TabOf p t){v:Nat}(c:v<p.n+p.m):v∈t.basic∨v∈t.others:=by
 apply O3;intro b;have d:(v::(t.basic++t.others)).Nodup:=RK.2 ⟨fun hm=>by rcases OJ.1 hm with h1 | h1;exact b (.inl h1);exact b (.inr h1),h.ok.nd⟩;have:=List.Nodup.length_le_of_subset (l₂:=List.range (p.n+p.m)) d (fun u a=>by
  rcases OE.1 a with rfl | a
  ·exact ON.2 c
  exact ON.2 (h.ok.lt u a))
 simp only [OI,Oy,Pr,h.lb,h.lo] at this;omega
def FB (p:Sys)(t:Tab):List Nat:=t.basic.filter fun v=>decide (v<p.n)
def SO (p:Sys)(t:Tab):List Nat:=t.others.filter fun v=>decide (p.n<=v)
theorem rD {q:Nat->Bool}:∀ l:List Nat,(l.filter q).length+(l.filter fun v=>!q v).length=l.length
 | []=>rfl
 | x::l=>by
  have:=rD (q:=q) l;cases h:q x <;> simp [h] <;> omega
theorem TabOf.len (h:TabOf p t):(FB p t).length=(SO p t).length:=by
 have b:(t.basic++t.others).Perm (List.range (p.n+p.m)):=by
  refine (List.perm_ext_iff_of_nodup h.ok.nd List.nodup_range).2 fun v=>?_;rw [ON,OJ];exact ⟨fun a=>h.ok.lt v (OJ.2 a),h.all⟩
 have h1:=(b.filter fun v=>decide (v<p.n)).length_eq;rw [P8,Oy] at h1;have h2:((List.range (p.n+p.m)).filter fun v=>decide (v<p.n)).length=p.n:=by
  have e:∀ k,((List.range (p.n+k)).filter fun v=>decide (v<p.n))=List.range p.n:=fun k=>by
   induction k with
   | zero=>exact List.filter_eq_self.2 fun v a=>by rw [ON] at a;exact OK a
   | succ k c=>rw [<- Ra,PB,P8,c,List.filter_cons,aA am];simp
  rw [e,Pr]
 have h3:=rD (q:=fun v=>decide (v<p.n)) t.others;have h4:(t.others.filter fun v=>!decide (v<p.n))=SO p t:=by
  unfold SO;congr 1;funext v;by_cases a:v<p.n
  ·rw [OK a,OV om_];rfl
  rw [OV a,OK om_];rfl
 rw [h4,h.lo] at h3;unfold FB;omega
theorem kZ {v:Nat}:v∈FB p t ↔ v∈t.basic/\v<p.n:=by unfold FB;rw [Qs,Oz]
theorem Jr {v:Nat}:v∈SO p t ↔ v∈t.others/\p.n<=v:=by unfold SO;rw [Qs,Oz]
theorem IB (h:TabOf p t):(FB p t).Nodup:=h.ok.nb.filter _
def gX (p:Sys)(t:Tab)(D:Nat->Int):List Col:=(FB p t).map fun v=>fun k=>(D ((SO p t).getD k 0-p.n):Rat)*p.a ((SO p t).getD k 0-p.n) v
theorem tJ {D:Nat->Int}{i:Nat}(b:i<(FB p t).length)(k:Nat):((gX p t D).getD i fun _=>0) k=(D ((SO p t).getD k 0-p.n):Rat)*p.a ((SO p t).getD k 0-p.n) ((FB p t).getD i 0):=by
 unfold gX;have e:(FB p t)[i]?=some ((FB p t).getD i 0):=by rw [ax,ak b];rfl
 rw [ax,Ou,e];rfl
theorem My (h:TabOf p t){k:Nat}(a:k<(FB p t).length):(SO p t).getD k 0∈t.others/\p.n<=(SO p t).getD k 0/\(SO p t).getD k 0-p.n<p.m:=by
 have h1:=gM (l:=SO p t) (i:=k) (by rw [<- h.len];exact a);obtain ⟨h2,h3⟩:=Jr.1 h1;have h4:=h.ok.lt _ (Qb _ h2);exact ⟨h2,h3,by omega⟩
theorem JU (h:TabOf p t)(g:Nat->Rat):sumN (fun j=>if j∈FB p t then g j else 0) p.n=sumN (fun i=>g ((FB p t).getD i 0)) (FB p t).length:=xa (IB h) fun _ a=>(kZ.1 a).2
theorem LD (h:TabOf p t){D:Nat->Int}{M:Nat}(x:p.Wh D M):det 0 (gX p t D)≠0:=by
 intro h0;have f:(gX p t D).length=(FB p t).length:=al _;obtain ⟨ys,s,⟨y,hy,z⟩,A⟩:=qP _ 0 _ rfl h0
 -- a second assignment over the same values of the others
 let w:Nat->Rat:=fun v=>if v∈FB p t then ys.getD ((FB p t).idxOf v) 0 else 0
 let u:Nat->Rat:=fun v=>if v<p.n then w v else if v<p.n+p.m then -sumN (fun j=>p.a (v-p.n) j*w j) p.n else 0
 have g:∀ j,j<p.n->u j=w j:=fun j b=>aI b;have B:p.Sol fun v=>t.sol v+u v:=by
  intro r hr;have h1:=(h.sol _).1 (gu h.ok) r hr;have h2:u (p.n+r)=-sumN (fun j=>p.a r j*w j) p.n:=by
   show (if p.n+r<p.n then w (p.n+r) else if p.n+r<p.n+p.m then -sumN (fun j=>p.a (p.n+r-p.n) j*w j) p.n else 0)=_;rw [aA om_,aI om_,PT]
  show t.sol (p.n+r)+u (p.n+r)=_;have h3:sumN (fun j=>p.a r j*(t.sol j+u j)) p.n=sumN (fun j=>p.a r j*t.sol j) p.n+sumN (fun j=>p.a r j*w j) p.n:=by
   rw [<- dJ];exact aO fun j b=>by rw [g j b];grind
  rw [h1,h2,h3];grind
 have C:∀ v,v ∉ t.basic->t.sol v+u v=0:=by
  intro v l;rw [sol_oth h.ok l];have E:u v=0:=by
   by_cases h1:v<p.n
   ·rw [g v h1];exact aA fun hm=>l (kZ.1 hm).1
   by_cases h2:v<p.n+p.m
   ·have F:v∈t.others:=(h.all h2).resolve_left l;obtain ⟨k,G,e⟩:=ef ((Jr (p:=p) (t:=t)).2 ⟨F,by omega⟩);rw [<- h.len] at G;have o:=A k (Ow _) (by rw [f];omega);rw [zT k s,f] at o;have H:sumN (fun j=>ys.getD j 0*((gX p t D).getD j fun _=>0) k) (FB p t).length=(D (v-p.n):Rat)*sumN (fun i=>p.a (v-p.n) ((FB p t).getD i 0)*w ((FB p t).getD i 0)) (FB p t).length:=by
     rw [<- cN];refine aO fun i c=>?_;rw [tJ c,e];have I:w ((FB p t).getD i 0)=ys.getD i 0:=by
      show (if (FB p t).getD i 0∈FB p t then ys.getD ((FB p t).idxOf ((FB p t).getD i 0)) 0 else 0)=_;rw [aI (gM c),dx (IB h) c]
     rw [I];grind
    rw [H] at o;have J:(D (v-p.n):Rat)≠0:=by
     have:=(x.d (v-p.n) om_).1;simpa using this
    have hs:sumN (fun i=>p.a (v-p.n) ((FB p t).getD i 0)*w ((FB p t).getD i 0)) (FB p t).length=0:=by
     rcases Rat.mul_eq_zero.1 o with h3 | h3
     ·exact absurd h3 J
     exact h3
    have h4:sumN (fun j=>p.a (v-p.n) j*w j) p.n=0:=by
     rw [<- hs,<- JU h fun j=>p.a (v-p.n) j*w j];refine aO fun j _=>?_;by_cases b:j∈FB p t
     ·rw [aI b]
     rw [aA b,show w j=0 from aA b];grind
    show (if v<p.n then w v else if v<p.n+p.m then -sumN (fun j=>p.a (v-p.n) j*w j) p.n else 0)=0;rw [aA h1,aI h2,h4];grind
   show (if v<p.n then w v else if v<p.n+p.m then -sumN (fun j=>p.a (v-p.n) j*w j) p.n else 0)=0;rw [aA h1,aA h2]
  rw [E];grind
 have K:=Hc h.ok ((h.sol _).2 B) C;obtain ⟨i,c,e⟩:=List.getElem_of_mem hy;have q:i<(FB p t).length:=by rw [<- f,<- s];exact c
 have h5:=K ((FB p t).getD i 0);have L:u ((FB p t).getD i 0)=y:=by
  rw [g _ (kZ.1 (gM q)).2];show (if (FB p t).getD i 0∈FB p t then ys.getD ((FB p t).idxOf ((FB p t).getD i 0)) 0 else 0)=_;rw [aI (gM q),dx (IB h) q,ax,ak c,e];rfl
 exact z (by rw [<- L];grind)
end
end Go.Jog.Lp
namespace Go.Jog.Lp
theorem JT {M:Nat}(a:0<M):∀ {k n:Nat},k<=n->fctM M k<=fctM M n:=by
 intro k n h;induction h with
 | refl=>exact Oo _
 | @step m _ b =>
  refine OQ b ?_;show fctM M m<=(m+1)*(M*fctM M m);have:1*(1*fctM M m)<=(m+1)*(M*fctM M m):=P4 (Nat.le_add_left 1 _) (P4 a (Oo _));rw [Re,Re] at this;exact this
theorem yW {g:Nat->Rat}{B:Nat}:∀ {n:Nat},(∀ j,j<n->∃ z:Int,g j=z/\z.natAbs<=B)->∃ z:Int,sumN g n=z/\z.natAbs<=n*B
 | 0,_=>⟨0,rfl,by simp⟩
 | n+1,h=>by
  obtain ⟨z,e,b⟩:=yW (g:=g) (n:=n) fun j c=>h j om_;obtain ⟨w,a,hw⟩:=h n om_;refine ⟨z+w,by rw [sumN,e,a,Rat.intCast_add], ?_⟩;have:=Q2 z w;rw [Nat.succ_mul];omega
section
variable {p:Sys} {t:Tab} {D:Nat->Int} {M:Nat}
def bdT (p:Sys)(M:Nat):Nat:=fctM (2*M) p.n
theorem Ng (h:TabOf p t):(FB p t).length<=p.n:=by
 have:=List.Nodup.length_le_of_subset (l₂:=List.range p.n) (IB h) fun v a=>ON.2 (kZ.1 a).2
 rwa [Pr] at this
theorem AF (h:TabOf p t)(c:p.Wh D M){i k:Nat}(b:i<(FB p t).length)(d:k<(FB p t).length):∃ z:Int,((gX p t D).getD i fun _=>0) k=z/\z.natAbs<=2*M:=by
 rw [tJ b];obtain ⟨z,e,f⟩:=c.a _ _ (My h d).2.2 (kZ.1 (gM b)).2;exact ⟨z,e,by omega⟩
theorem Av (h:TabOf p t)(f:p.Wh D M)(l:0<M):∃ d:Int,det 0 (gX p t D)=d/\d≠0/\d.natAbs<=bdT p M:=by
 have a:(gX p t D).length=(FB p t).length:=al _;obtain ⟨d,e,g⟩:=xS (M:=2*M) (FB p t).length 0 (gX p t D) a fun c j k _ m=>by
  obtain ⟨i,b,e⟩:=List.getElem_of_mem j;rw [a] at b;have:=AF h f b (show k<(FB p t).length by omega);rw [ax,ak (by rw [a];exact b),e] at this;exact this
 refine ⟨d,e, ?_,OQ g (JT om_ (Ng h))⟩;rintro rfl;exact LD h f (by rw [e];rfl)
theorem Jy (h:TabOf p t)(s:p.Wh D M)(N:0<M){x g:Nat->Rat}(B:∀ r,r<p.m->x (p.n+r)=g r-sumN (fun j=>p.a r j*if j∈FB p t then x j else 0) p.n)
  (C:∀ r,r<p.m->∃ z:Int,D r*g r=z/\z.natAbs<=M) (E:∀ v,v∈t.others->p.n<=v->∃ z:Int,x v=z/\z.natAbs<=1) {i:Nat} (F:i<(FB p t).length) :
  ∃ z:Int,x ((FB p t).getD i 0)*det 0 (gX p t D)=z/\z.natAbs<=bdT p M:=by
 have b:(gX p t D).length=(FB p t).length:=al _;have q:=Nk (l:=gX p t D) (i:=i) (by rw [b];exact F) (fun j=>x ((FB p t).getD j 0)) 0;rw [<- q];have G:∀ k,k<(FB p t).length->∃ z:Int,IT (gX p t D) (fun j=>x ((FB p t).getD j 0)) (gX p t D).length k=z/\z.natAbs<=2*M:=by
  intro k u;obtain ⟨H,I,o⟩:=My h u;obtain ⟨r,hr⟩:∃ r,(SO p t).getD k 0-p.n=r:=⟨_,rfl⟩;rw [hr] at o;have J:(SO p t).getD k 0=p.n+r:=by omega
  have e:IT (gX p t D) (fun j=>x ((FB p t).getD j 0)) (gX p t D).length k=(D r:Rat)*(g r-x (p.n+r)):=by
   have h4:=B r o;have h5:sumN (fun j=>p.a r j*if j∈FB p t then x j else 0) p.n=sumN (fun j=>if j∈FB p t then p.a r j*x j else 0) p.n:=aO fun j _=>by
    split
    ·rfl
    grind
   rw [h5,JU h] at h4;have K:g r-x (p.n+r)=sumN (fun i=>p.a r ((FB p t).getD i 0)*x ((FB p t).getD i 0)) (FB p t).length:=by rw [h4];grind
   rw [K,<- cN];unfold IT;rw [b];refine aO fun j f=>?_;rw [tJ f,hr];grind
  obtain ⟨z,ez,y⟩:=C r o;obtain ⟨w,A,L⟩:=E _ H I;rw [J] at A;refine ⟨z-D r*w, ?_, ?_⟩
  ·rw [e,A,Rat.intCast_sub,QY,<- ez];grind
  have h5:=(s.d r o).2;have O:(D r*w).natAbs<=M*1:=by rw [P5];exact P4 h5 L
  omega
 obtain ⟨z,ez,y⟩:=xS (M:=2*M) (FB p t).length 0 ((gX p t D).set i (IT (gX p t D) (fun j=>x ((FB p t).getD j 0)) (gX p t D).length)) (by rw [Pm,b]) fun c q k _ u=>by
  rcases QQ q with hm | rfl
  ·obtain ⟨j,f,e⟩:=List.getElem_of_mem hm;rw [b] at f;have:=AF h s f (show k<(FB p t).length by omega);rw [ax,ak (by rw [b];exact f),e] at this;exact this
  exact G k om_
 exact ⟨z,ez,OQ y (JT om_ (Ng h))⟩
theorem xq (h:TabOf p t)(c:p.Wh D M)(f:0<M){x g:Nat->Rat}(q:∀ r,r<p.m->x (p.n+r)=g r-sumN (fun j=>p.a r j*if j∈FB p t then x j else 0) p.n)
  (s:∀ r,r<p.m->∃ z:Int,D r*g r=z/\z.natAbs<=M) (u:∀ v,v∈t.others->p.n<=v->∃ z:Int,x v=z/\z.natAbs<=1)
  {a0:Nat->Rat} {b0:Rat} {b:Int} (k:b≠0/\b.natAbs<=M) (w:∀ j,j<p.n->∃ z:Int,b*a0 j=z/\z.natAbs<=M) (y:∃ z:Int,b*b0=z/\z.natAbs<=M) :
  Quo ((p.n+1)*(M*bdT p M)) (b0-sumN (fun j=>a0 j*if j∈FB p t then x j else 0) p.n):=by
 obtain ⟨d,A,B,l⟩:=Av h c f;obtain ⟨o,C,E⟩:=y;have hs:∃ z:Int,sumN (fun j=>(b*a0 j)*((if j∈FB p t then x j else 0)*d)) p.n=z/\z.natAbs<=p.n*(M*bdT p M):=yW fun j F=>by
  obtain ⟨G,H,I⟩:=w j F;by_cases hm:j∈FB p t
  ·obtain ⟨i,J,e⟩:=ef hm;obtain ⟨z,ez,K⟩:=Jy h c f q s u J;rw [e,A] at ez;refine ⟨G*z, ?_, ?_⟩
   ·rw [aI hm,H,ez,QY]
   rw [P5];exact P4 I K
  refine ⟨0, ?_,Ow _⟩;rw [aA hm];show _=(0:Rat);grind
 obtain ⟨L,N,O⟩:=hs;refine ⟨o*d-L,b*d,Int.mul_ne_zero k.1 B, ?_, ?_, ?_⟩
 ·rw [Rat.intCast_sub,QY,QY,<- N,<- C];have e:sumN (fun j=>(b*a0 j)*((if j∈FB p t then x j else 0)*d)) p.n=(b*d:Rat)*sumN (fun j=>a0 j*if j∈FB p t then x j else 0) p.n:=by
   rw [<- cN];exact aO fun j _=>by grind
  rw [e];grind
 ·have h4:(o*d).natAbs<=M*bdT p M:=by rw [P5];exact P4 E l
  rw [Nat.succ_mul];omega
 have h4:(b*d).natAbs<=M*bdT p M:=by rw [P5];exact P4 k.2 l
 rw [Nat.succ_mul];omega
end
end Go.Jog.Lp
namespace Go.Jog.Lp
section
variable {p:Sys} {t:Tab} {D:Nat->Int} {M:Nat}
theorem TabOf.pivot (h:TabOf p t){r s:Nat}(a:r<t.basic.length)(b:s<t.others.length)(c:(t.line r).g s≠0):TabOf p (t.pivot r s) :=
 ⟨zC h.ok a b,List.length_set.trans h.lb,List.length_set.trans h.lo,fun x=>(vm h.ok a b c).trans (h.sol x)⟩
def ObjOf (p:Sys)(t:Tab)(w0:Rat)(cc:Nat->Rat):Prop:=∀ x,p.Sol x->t.W x=w0+sumN (fun j=>cc j*x j) p.n
theorem ObjOf.pivot {a:Rat}{b:Nat->Rat}(d:ObjOf p t a b)(h:TabOf p t){r s:Nat}(e:r<t.basic.length)(f:s<t.others.length)(i:(t.line r).g s≠0):ObjOf p (t.pivot r s) a b :=
 fun x c=>(KT h.ok e f i ((h.sol x).2 c)).trans (d x c)
def bdQ (p:Sys)(M:Nat):Nat:=(p.n+1)*(M*bdT p M)
theorem J2 (a:0<M):bdT p M<=bdQ p M:=by
 have:1*(1*bdT p M)<=(p.n+1)*(M*bdT p M):=P4 (Nat.le_add_left 1 _) (P4 a (Oo _))
 rwa [Re,Re] at this
theorem Eg (h:TabOf p t)(b:p.Wh D M)(c:0<M){x o:Nat->Rat}(g:∀ r,r<p.m->x (p.n+r)=o r-sumN (fun j=>p.a r j*if j∈FB p t then x j else 0) p.n)
  (l:∀ r,r<p.m->∃ z:Int,D r*o r=z/\z.natAbs<=M) (q:∀ v,v∈t.others->p.n<=v->∃ z:Int,x v=z/\z.natAbs<=1) {i:Nat} (s:i<t.basic.length):Quo (bdQ p M) (x (t.bas i)):=by
 by_cases u:t.bas i<p.n
 ·obtain ⟨k,w,e⟩:=ef (kZ.2 ⟨bas_mem s,u⟩:t.bas i∈FB p t);obtain ⟨z,ez,y⟩:=Jy h b c g l q w;obtain ⟨d,A,B,C⟩:=Av h b c;rw [e,A] at ez;exact ⟨z,d,B,ez,OQ y (J2 c),OQ C (J2 c)⟩
 have G:=h.ok.lt _ (OJ.2 (.inl (bas_mem s)));obtain ⟨r,hr⟩:∃ r,t.bas i-p.n=r:=⟨_,rfl⟩;have E:t.bas i=p.n+r:=by omega
 have f:r<p.m:=by omega
 rw [E,g r f];exact xq h b c g l q (b.d r f) (fun j F=>b.a r j f F) (l r f)
theorem Jq (h:TabOf p t){j:Nat}(a:j<p.n):t.sol j=if j∈FB p t then t.sol j else 0:=by
 split
 ·rfl
 next b=>exact sol_oth h.ok fun c=>b (kZ.2 ⟨c,a⟩)
theorem DM (h:TabOf p t)(r:Nat)(c:r<p.m):t.sol (p.n+r)=p.b r-sumN (fun j=>p.a r j*if j∈FB p t then t.sol j else 0) p.n:=by
 rw [(h.sol _).1 (gu h.ok) r c];congr 1;exact aO fun j d=>by rw [<- Jq h d]
theorem Jp (h:TabOf p t)(v:Nat)(a:v∈t.others):∃ z:Int,t.sol v=z/\z.natAbs<=1:=⟨0,by rw [sol_oth h.ok fun b=>h.ok.dj b a];rfl,by decide⟩
theorem LI (h:TabOf p t)(a:p.Wh D M)(e:0<M){i:Nat}(d:i<t.basic.length):Quo (bdQ p M) (t.line i).c:=by
 rw [<- sol_bas h.ok d];exact Eg h a e (DM h) a.b (fun v f _=>Jp h v f) d
def Tab.dir (t:Tab)(s v:Nat):Rat:=t.ext (eY (t.oth s)) v-t.sol v
theorem Ly (h:TabOf p t){s i:Nat}(b:s<t.others.length)(a:i<t.basic.length):t.dir s (t.bas i)=(t.line i).g s:=by
 unfold Tab.dir;rw [xO h.ok a,xx h.ok b,sol_bas h.ok a];grind
theorem FO (h:TabOf p t){s v:Nat}(a:v ∉ t.basic):t.dir s v=if v=t.oth s then 1 else 0:=by
 unfold Tab.dir;rw [xN h.ok a,sol_oth h.ok a];unfold eY;split <;> grind
theorem FM (h:TabOf p t){s:Nat}(d:s<t.others.length)(g:Nat->Rat) :
  sumN (fun j=>g j*t.dir s j) p.n=(if t.oth s<p.n then g (t.oth s) else 0)+sumN (fun j=>g j*if j∈FB p t then t.dir s j else 0) p.n:=by
 have f:t.oth s ∉ t.basic:=fun a=>h.ok.dj a (oth_mem d);have e:∀ j,j<p.n->g j*t.dir s j=(if j=t.oth s then g j else 0)+g j*(if j∈FB p t then t.dir s j else 0):=by
  intro j b;by_cases a:j∈FB p t
  ·rw [aI a,aA (fun e:j=t.oth s=>f (e ▸ (kZ.1 a).1))];grind
  rw [aA a,FO h fun i=>a (kZ.2 ⟨i,b⟩)];split <;> grind
 rw [aO e,dJ];congr 1;split
 ·next c =>
  rw [gr c,aI rfl,sumN_zero fun j _=>?_]
  ·grind
  split <;> rfl
 next c=>exact sumN_zero fun j b=>aA fun e:j=t.oth s=>c (e ▸ b)
def hhD (p:Sys)(t:Tab)(s r:Nat):Rat:=if t.oth s<p.n then -p.a r (t.oth s) else 0
theorem FN (h:TabOf p t){s:Nat}(d:s<t.others.length)(r:Nat)(c:r<p.m):t.dir s (p.n+r)=hhD p t s r-sumN (fun j=>p.a r j*if j∈FB p t then t.dir s j else 0) p.n:=by
 have h1:=(h.sol _).1 (tx h.ok (eY (t.oth s))) r c;have h2:=(h.sol _).1 (gu h.ok) r c;have h3:=FM h d (p.a r);have h4:sumN (fun j=>p.a r j*t.dir s j) p.n=sumN (fun j=>p.a r j*t.ext (eY (t.oth s)) j) p.n-sumN (fun j=>p.a r j*t.sol j) p.n:=by
  have h5:=dJ (fun j=>p.a r j*t.dir s j) (fun j=>p.a r j*t.sol j) p.n;rw [show sumN (fun j=>p.a r j*t.dir s j+p.a r j*t.sol j) p.n=sumN (fun j=>p.a r j*t.ext (eY (t.oth s)) j) p.n from aO fun j _=>by unfold Tab.dir;grind] at h5;grind
 have e:t.dir s (p.n+r)=t.ext (eY (t.oth s)) (p.n+r)-t.sol (p.n+r):=rfl;unfold hhD;rw [e,h1,h2];split at h3
 ·next b=>rw [aI b];grind
 next b=>rw [aA b];grind
theorem Fk (b:p.Wh D M)(s:Nat)(r:Nat)(c:r<p.m):∃ z:Int,D r*hhD p t s r=z/\z.natAbs<=M:=by
 unfold hhD;split
 ·next d =>
  obtain ⟨z,e,f⟩:=b.a r _ c d;exact ⟨-z,by rw [Rat.intCast_neg,<- e];grind,by omega⟩
 exact ⟨0,by show _=(0:Rat);grind,Ow _⟩
theorem JV (h:TabOf p t){s:Nat}(v:Nat)(a:v∈t.others):∃ z:Int,t.dir s v=z/\z.natAbs<=1:=by
 rw [FO h fun b=>h.ok.dj b a];split
 ·exact ⟨1,Z,by decide⟩
 exact ⟨0,Z,by decide⟩
theorem Lu (h:TabOf p t)(a:p.Wh D M)(d:0<M){i s:Nat}(b:i<t.basic.length)(c:s<t.others.length):Quo (bdQ p M) ((t.line i).g s):=by
 rw [<- Ly h c b];exact Eg h a d (FN h c) (Fk a s) (fun v e _=>JV h v e) b
variable {w0:Rat} {cc:Nat->Rat}
theorem GP (h:TabOf p t)(f:p.Wh D M)(g:0<M)(i:ObjOf p t w0 cc){a:Int}(k:a≠0/\a.natAbs<=M)(l:∀ j,j<p.n->∃ z:Int,a*cc j=z/\z.natAbs<=M)(m:∃ z:Int,a*w0=z/\z.natAbs<=M):Quo (bdQ p M) t.worth.c:=by
 rw [<- He h.ok,i _ ((h.sol _).1 (gu h.ok))];have:=xq h f g (DM h) f.b (fun v o _=>Jp h v o) (a0:=fun j=>-cc j) (b0:=w0) k (fun j d=>by obtain ⟨z,e,q⟩:=l j d;exact ⟨-z,by rw [Rat.intCast_neg,<- e];grind,by omega⟩) m;rw [show w0+sumN (fun j=>cc j*t.sol j) p.n=w0-sumN (fun j=>-cc j*if j∈FB p t then t.sol j else 0) p.n from ?_]
 ·exact this
 have e:sumN (fun j=>-cc j*if j∈FB p t then t.sol j else 0) p.n=-1*sumN (fun j=>cc j*t.sol j) p.n:=by
  rw [<- cN];exact aO fun j d=>by rw [<- Jq h d];grind
 rw [e];grind
theorem GO (h:TabOf p t)(d:p.Wh D M)(l:0<M)(f:ObjOf p t w0 cc){a:Int}(m:a≠0/\a.natAbs<=M)(i:∀ j,j<p.n->∃ z:Int,a*cc j=z/\z.natAbs<=M){s:Nat}(b:s<t.others.length):Quo (bdQ p M) (t.worth.g s):=by
 have h1:=f _ ((h.sol _).1 (tx h.ok (eY (t.oth s))));have h2:=f _ ((h.sol _).1 (gu h.ok));rw [He h.ok] at h2;have h3:t.W (t.ext (eY (t.oth s)))=t.worth.c+t.worth.g s:=by
  unfold Tab.W;rw [zS h.ok,xx h.ok b]
 have h4:sumN (fun j=>cc j*t.dir s j) p.n=sumN (fun j=>cc j*t.ext (eY (t.oth s)) j) p.n-sumN (fun j=>cc j*t.sol j) p.n:=by
  have h5:=dJ (fun j=>cc j*t.dir s j) (fun j=>cc j*t.sol j) p.n;rw [show sumN (fun j=>cc j*t.dir s j+cc j*t.sol j) p.n=sumN (fun j=>cc j*t.ext (eY (t.oth s)) j) p.n from aO fun j _=>by unfold Tab.dir;grind] at h5;grind
 have h5:t.worth.g s=(if t.oth s<p.n then cc (t.oth s) else 0)-sumN (fun j=>-cc j*if j∈FB p t then t.dir s j else 0) p.n:=by
  have e:sumN (fun j=>-cc j*if j∈FB p t then t.dir s j else 0) p.n=-1*sumN (fun j=>cc j*if j∈FB p t then t.dir s j else 0) p.n:=by
   rw [<- cN];exact aO fun j k=>by grind
  have r:=FM h b cc;rw [e];grind
 rw [h5];exact xq h d l (FN h b) (Fk d s) (fun v o _=>JV h v o) m (fun j k=>by obtain ⟨z,e,u⟩:=i j k;exact ⟨-z,by rw [Rat.intCast_neg,<- e];grind,by omega⟩) (by
  split
  ·next q=>exact i _ q
  exact ⟨0,by show _=(0:Rat);grind,Ow _⟩)
end
end Go.Jog.Lp
namespace Go.Jog.Lp
theorem qH (g:Nat->Rat)(n:Nat):∀ m,sumN g (n+m)=sumN g n+sumN (fun r=>g (n+r)) m
 | 0=>by show sumN g n=sumN g n+0;grind
 | m+1=>by
  show sumN g (n+m+1)=_;rw [sumN,sumN,qH g n m];grind
theorem nQ {g:Nat->Rat}{k n:Nat}(a:k<n):sumN (fun j=>g j*eY k j) n=g k:=by
 rw [gr a,sumN_zero fun j _=>?_]
 ·unfold eY;rw [aI rfl];grind
 unfold eY;split
 ·rfl
 grind
section
variable {p:Sys} {t:Tab}
def Sys.full (p:Sys)(y:Nat->Rat)(v:Nat):Rat:=if v<p.n then y v else p.b (v-p.n)-sumN (fun j=>p.a (v-p.n) j*y j) p.n
theorem vO {y:Nat->Rat}{v:Nat}(h:v<p.n):p.full y v=y v:=aI h
theorem rz {y:Nat->Rat}(r:Nat):p.full y (p.n+r)=p.b r-sumN (fun j=>p.a r j*y j) p.n:=by
 unfold Sys.full;rw [aA om_,PT]
theorem Iq (y:Nat->Rat):p.Sol (p.full y):=by
 intro r hr;rw [rz];congr 1;exact aO fun j a=>by rw [vO a]
def dualV (p:Sys)(t:Tab)(l:Line)(r:Nat):Rat:=if p.n+r∈t.others then l.g (t.others.idxOf (p.n+r)) else 0
theorem dualV_at (h:TabOf p t){l:Line}{s:Nat}(a:s<t.others.length)(b:p.n<=t.oth s):dualV p t l (t.oth s-p.n)=l.g s:=by
 unfold dualV;rw [show p.n+(t.oth s-p.n)=t.oth s by omega,aI (oth_mem a)];congr 1;exact dx h.ok.no a
theorem dualV_none {l:Line}{r:Nat}(h:p.n+r ∉ t.others):dualV p t l r=0:=aA h
theorem gS (h:TabOf p t)(l:Line)(r:Nat):dualV p t l r=0∨∃ s,s<t.others.length/\t.oth s=p.n+r/\dualV p t l r=l.g s:=by
 by_cases hm:p.n+r∈t.others
 ·obtain ⟨s,hs,e⟩:=ef hm;have a:t.oth s=p.n+r:=e;refine .inr ⟨s,hs,a, ?_⟩;have:=dualV_at h (l:=l) hs om_
  rwa [a,PT] at this
 exact .inl (dualV_none hm)
theorem EY (h:TabOf p t){l:Line}(b:∀ s,s<t.others.length->t.oth s<p.n->l.g s=0)(x:Nat->Rat):lv l t.others x=l.c+sumN (fun r=>dualV p t l r*x (p.n+r)) p.m:=by
 have h1:=xa (g:=fun v=>l.g (t.others.idxOf v)*x v) (n:=p.n+p.m) h.ok.no fun v a=>h.ok.lt v (OJ.2 (.inr a));have h2:sumN (fun j=>l.g j*x (t.others.getD j 0)) t.others.length=sumN (fun q=>(fun v=>l.g (t.others.idxOf v)*x v) (t.others.getD q 0)) t.others.length:=aO fun j d=>by
  show _=l.g (t.others.idxOf (t.others.getD j 0))*_;rw [dx h.ok.no d]
 unfold lv;rw [h2,<- h1,qH,sumN_zero fun v a=>?_]
 ·congr 1;rw [show (0:Rat)+sumN (fun r=>if p.n+r∈t.others then l.g (t.others.idxOf (p.n+r))*x (p.n+r) else 0) p.m=sumN (fun r=>if p.n+r∈t.others then l.g (t.others.idxOf (p.n+r))*x (p.n+r) else 0) p.m from by grind];refine aO fun r _=>?_;unfold dualV;split <;> grind
 split
 ·next hm =>
  obtain ⟨s,hs,e⟩:=ef hm;have f:t.oth s=v:=e;rw [<- e,dx h.ok.no hs,b s hs om_];grind
 rfl
theorem cert {y:Nat->Rat}{q0 e0:Rat}{ee:Nat->Rat}(h:∀ x,p.Sol x->q0+sumN (fun r=>y r*x (p.n+r)) p.m=e0+sumN (fun j=>ee j*x j) p.n) :
  q0+sumN (fun r=>y r*p.b r) p.m=e0/\∀ j,j<p.n->sumN (fun r=>y r*p.a r j) p.m=-ee j:=by
 have d:∀ u:Nat->Rat,q0+sumN (fun r=>y r*(p.b r-sumN (fun j=>p.a r j*u j) p.n)) p.m=e0+sumN (fun j=>ee j*u j) p.n:=by
  intro u;have:=h _ (Iq (p:=p) u);rw [aO (g:=fun r=>y r*p.full u (p.n+r)) (h:=fun r=>y r*(p.b r-sumN (fun j=>p.a r j*u j) p.n)) fun r _=>by rw [rz],aO (g:=fun j=>ee j*p.full u j) (h:=fun j=>ee j*u j) fun j c=>by rw [vO c]] at this;exact this
 have h0:q0+sumN (fun r=>y r*p.b r) p.m=e0:=by
  have:=d fun _=>0;rw [sumN_zero (g:=fun j=>ee j*(0:Rat)) fun j _=>by grind,aO (h:=fun r=>y r*p.b r) fun r _=>by rw [sumN_zero fun j _=>by grind];grind] at this;grind
 refine ⟨h0,fun j c=>?_⟩;have h1:=d (eY j);rw [nQ c,aO (h:=fun r=>y r*p.b r + -1*(y r*p.a r j)) fun r _=>by rw [nQ c];grind,dJ,cN] at h1;grind
def Rel (F:Nat)(t:Tab)(k:Nat):Prop:=∀ s,s<k->s<t.others.length->t.oth s<F->∀ i,i<t.basic.length->F<=t.bas i->(t.line i).g s=0
theorem rel_pivot {F N k r s:Nat}(h:t.Ok N)(n:Rel F t k)(d:r<t.basic.length)(q:s<t.others.length)(u:F<=t.bas r):Rel F (t.pivot r s) k:=by
 intro b o j a i c l;have v:(t.pivot r s).basic.length=t.basic.length:=Pm;have w:(t.pivot r s).others.length=t.others.length:=Pm;rw [w] at j;rw [v] at c;rw [vn q] at a;rw [Eo d] at l;have m:b≠s:=by
  intro e;rw [aI e] at a;omega
 rw [aA m] at a;have x:=n b o j a r d u;have z:(t.line r).f.length=t.others.length:=h.fl _ (line_mem h d);have A:(t.line i).f.length=t.others.length:=h.fl _ (line_mem h c);have p:(byL (t.line r) s).g b=0:=by
  rw [byL_g om_,aA m,x];grind
 rw [pivot_line (by rw [h.ll];exact c)];split
 ·exact p
 next y =>
 rw [aA y] at l;rw [JA om_,aA m,n b o j a i c l,p];grind
theorem rel_next {F N r s:Nat}(h:t.Ok N)(d:Rel F t s)(f:r<t.basic.length)(a:s<t.others.length)(g:F<=t.bas r):Rel F (t.pivot r s) (s+1):=by
 intro b m j c i k l;by_cases e:b=s
 ·rw [e,vn a,aI rfl] at c;omega
 exact rel_pivot h d f a g b om_ j c i k l
theorem rel_none {F s:Nat}(d:Rel F t s)(f:∀ i,i<t.basic.length->F<=t.bas i->(t.line i).g s=0):Rel F t (s+1):=by
 intro a k h j i b c;by_cases e:a=s
 ·rw [e];exact f i b c
 exact d a om_ h j i b c
theorem Hd (h:TabOf p t)(r:Nat)(c:r<p.m):t.sol (p.n+r)=p.b r-sumN (fun j=>p.a r j*t.sol j) p.n:=(h.sol _).1 (gu h.ok) r c
theorem Ci (h:TabOf p t)(f:t.Feas p.n)(r:Nat)(g:r<p.m):sumN (fun j=>p.a r j*t.sol j) p.n<=p.b r:=by
 have h1:=Hd h r g;have h2:0<=t.sol (p.n+r):=by
  by_cases c:p.n+r∈t.basic
  ·obtain ⟨i,d,e⟩:=ef c;have k:t.bas i=p.n+r:=e;rw [<- k,sol_bas h.ok d];exact f i d om_
  rw [sol_oth h.ok c];exact Rat.le_refl
 grind
def refV (p:Sys)(t:Tab)(i r:Nat):Rat:=if r=t.bas i-p.n then 1 else -dualV p t (t.line i) r
theorem MK (h:TabOf p t)(k:Rel p.n t p.n){i:Nat}(d:i<t.basic.length)(l:p.n<=t.bas i)(o:∀ s,s<t.others.length->p.n<=t.oth s->(t.line i).g s<=0) :
  (∀ r,0<=refV p t i r)/\sumN (fun r=>refV p t i r*p.b r) p.m=(t.line i).c/\∀ j,j<p.n->sumN (fun r=>refV p t i r*p.a r j) p.m=0:=by
 have B:=h.ok.lt _ (OJ.2 (.inl (bas_mem d)));have q:∀ s,s<t.others.length->t.oth s<p.n->(t.line i).g s=0:=fun s hs f=>k s (by rw [<- h.lo];exact hs) hs f i d l;have u:dualV p t (t.line i) (t.bas i-p.n)=0:=dualV_none (by rw [show p.n+(t.bas i-p.n)=t.bas i by omega];exact fun f=>h.ok.dj (bas_mem d) f);have v:∀ r,dualV p t (t.line i) r<=0:=fun r=>by
  rcases gS h (t.line i) r with e | ⟨s,hs,C,w⟩
  ·rw [e];exact Rat.le_refl
  rw [w];exact o s hs om_
 have y:∀ x,p.Sol x->-(t.line i).c+sumN (fun r=>refV p t i r*x (p.n+r)) p.m=0+sumN (fun j=>(0:Rat)*x j) p.n:=by
  intro x z;have h1:=(h.sol x).2 z i d;rw [EY h q] at h1;have h2:∀ r,r<p.m->refV p t i r*x (p.n+r)=x (p.n+r)*eY (t.bas i-p.n) r + -1*(dualV p t (t.line i) r*x (p.n+r)):=by
   intro r _;unfold refV eY;split
   ·next e=>rw [e,u];grind
   grind
  rw [aO h2,dJ,cN,nQ (g:=fun r=>x (p.n+r)) (show t.bas i-p.n<p.m by omega),sumN_zero (g:=fun j=>(0:Rat)*x j) fun j _=>by grind];rw [show p.n+(t.bas i-p.n)=t.bas i by omega,h1];grind
 obtain ⟨D,c2⟩:=cert y;refine ⟨fun r=>?_,by grind,fun j A=>by rw [c2 j A];decide⟩;unfold refV;split
 ·decide
 have:=v r;grind
theorem ID (h:TabOf p t){d:Rat}{f:Nat->Rat}(i:ObjOf p t d f)(k:∀ s,s<t.others.length->t.oth s<p.n->t.worth.g s=0)(l:∀ s,s<t.others.length->p.n<=t.oth s->0<=t.worth.g s) :
  (∀ r,0<=dualV p t t.worth r)/\t.worth.c+sumN (fun r=>dualV p t t.worth r*p.b r) p.m=d/\(∀ j,j<p.n->sumN (fun r=>dualV p t t.worth r*p.a r j) p.m=-f j)/\d+sumN (fun j=>f j*t.sol j) p.n=t.worth.c:=by
 obtain ⟨o,c2⟩:=cert (p:=p) (y:=dualV p t t.worth) (q0:=t.worth.c) (e0:=d) (ee:=f) fun x q=>by rw [<- i x q,<- EY h k];rfl
 refine ⟨fun r=>?_,o,c2, ?_⟩
 ·rcases gS h t.worth r with e | ⟨s,hs,v,u⟩
  ·rw [e];exact Rat.le_refl
  rw [u];exact l s hs om_
 rw [<- i _ ((h.sol _).1 (gu h.ok)),He h.ok]
end
end Go.Jog.Lp
namespace Go.Jog.Lp
section
variable {p:Sys} {t:Tab}
theorem dir_worth (h:TabOf p t){d:Rat}{a:Nat->Rat}(b:ObjOf p t d a){s:Nat}(e:s<t.others.length):sumN (fun j=>a j*t.dir s j) p.n=t.worth.g s:=by
 have h1:=b _ ((h.sol _).1 (tx h.ok (eY (t.oth s))));have h2:=b _ ((h.sol _).1 (gu h.ok));rw [He h.ok] at h2;have h3:t.W (t.ext (eY (t.oth s)))=t.worth.c+t.worth.g s:=by
  unfold Tab.W;rw [zS h.ok,xx h.ok e]
 have h5:=dJ (fun j=>a j*t.dir s j) (fun j=>a j*t.sol j) p.n;rw [show sumN (fun j=>a j*t.dir s j+a j*t.sol j) p.n=sumN (fun j=>a j*t.ext (eY (t.oth s)) j) p.n from aO fun j _=>by unfold Tab.dir;grind] at h5;grind
def RelW (F:Nat)(t:Tab):Prop:=∀ s,s<t.others.length->t.oth s<F->t.worth.g s=0
inductive LeastR (vs:List Nat) (q:Nat->Prop) (n:Nat):Int->Prop where
 | none:(∀ i,i<n->¬ q i)->LeastR vs q n (-1)
 | some (i:Nat):i<n->q i->(∀ j,j<n->q j->vs.getD i 0<=vs.getD j 0)->LeastR vs q n i
theorem LeastR.no {b:List Nat}{q:Nat->Prop}{n:Nat}{o:Int}(h:LeastR b q n o)(c:¬ q n):LeastR b q (n+1) o:=by
 cases h with
 | none h=>exact .none fun i d a=>by rcases Nat.lt_or_eq_of_le (Nat.le_of_lt_succ d) with h1 | h1;exact h i h1 a;exact c (h1 ▸ a)
 | some i d a hm=>exact .some i om_ a fun j f e=>by rcases Nat.lt_or_eq_of_le (Nat.le_of_lt_succ f) with h1 | h1;exact hm j h1 e;exact absurd (h1 ▸ e) c
theorem LeastR.first {a:List Nat}{q:Nat->Prop}{n:Nat}(h:LeastR a q n (-1))(b:q n):LeastR a q (n+1) n:=by
 have h1:∀ i,i<n->¬ q i:=by
  generalize e:(-1:Int)=o at h;cases h with
  | none h=>exact h
  | some i=>omega
 exact .some n om_ b fun j c d=>by rcases Nat.lt_or_eq_of_le (Nat.le_of_lt_succ c) with h2 | h2;exact absurd d (h1 j h2);rw [h2];exact Oo _
theorem LeastR.less {a:List Nat}{q:Nat->Prop}{n i:Nat}(h:LeastR a q n i)(c:q n)(e:a.getD n 0<a.getD i 0):LeastR a q (n+1) n:=by
 generalize f:(i:Int)=o at h;cases h with
 | none h=>omega
 | some k g b hm =>
  obtain rfl:i=k:=by omega
  exact .some n om_ c fun j d b=>by rcases Nat.lt_or_eq_of_le (Nat.le_of_lt_succ d) with h2 | h2;have:=hm j h2 b;omega;rw [h2];exact Oo _
theorem LeastR.keep {a:List Nat}{q:Nat->Prop}{n i:Nat}(h:LeastR a q n i)(d:¬ a.getD n 0<a.getD i 0):LeastR a q (n+1) i:=by
 generalize e:(i:Int)=o at h;cases h with
 | none h=>omega
 | some k f b hm =>
  obtain rfl:i=k:=by omega
  exact .some i om_ b fun j c b=>by rcases Nat.lt_or_eq_of_le (Nat.le_of_lt_succ c) with h2 | h2;exact hm j h2 b;rw [h2];omega
inductive LeaveR (F:Nat) (t:Tab) (s n:Nat):Int->Prop where
 | none:(∀ i,i<n->F<=t.bas i->0<=(t.line i).g s)->LeaveR F t s n (-1)
 | some (r:Nat):r<n->F<=t.bas r->(t.line r).g s<0 ->
   (∀ i,i<n->F<=t.bas i->(t.line i).g s<0->(t.line r).c / -(t.line r).g s<(t.line i).c / -(t.line i).g s∨(t.line r).c / -(t.line r).g s=(t.line i).c / -(t.line i).g s/\t.bas r<=t.bas i)->LeaveR F t s n r
end
end Go.Jog.Lp
namespace Go.Jog.Lp
theorem Quo.qb {K k:Nat}{q:Rat}(h:Quo K q)(g:K<B9 ^ k):QB k q:=by
 obtain ⟨z,w,h1,h2,h3,h4⟩:=h;have a:∀ (z:Int)(d:Nat),d≠0->q*(d:Int)=z->z.natAbs<=K->d<=K->QB k q:=by
  intro z d b e i j;have c:q=mkRat z d:=by
   rw [Rat.mkRat_eq_div,<- e];have:(d:Rat)≠0:=fun f=>b (by exact_mod_cast f);rw [Rat.intCast_natCast];grind
  rw [c];exact gE b om_ om_
 rcases Int.lt_or_gt_of_ne h1 with hw | hw
 ·refine a (-z) w.natAbs om_ ?_ om_ om_;rw [show ((w.natAbs:Nat):Int)=-w by omega,Rat.intCast_neg,Rat.intCast_neg,<- h2];grind
 refine a z w.natAbs om_ ?_ om_ om_;rw [show ((w.natAbs:Nat):Int)=w by omega];exact h2
structure Lim (p:Sys)(cc:Nat->Rat)(k:Nat):Prop where
 ex:∃ (D:Nat->Int)(M:Nat)(D0:Int),0<M/\p.Wh D M/\(D0≠0/\D0.natAbs<=M)/\(∀ j,j<p.n->∃ z:Int,D0*cc j=z/\z.natAbs<=M)/\bdQ p M<B9 ^ k
structure Inv (p:Sys)(cc:Nat->Rat)(t:Tab):Prop where
 tab:TabOf p t
 obj:ObjOf p t 0 cc
section
variable {p:Sys} {cc:Nat->Rat} {t:Tab} {k:Nat}
theorem Inv.con (h:Inv p cc t)(a:Lim p cc k){i:Nat}(b:i<t.basic.length):QB k (t.line i).c:=by
 obtain ⟨D,M,d,h1,h2,h3,h4,h5⟩:=a.ex;exact (LI h.tab h2 h1 b).qb h5
theorem Inv.fac (h:Inv p cc t)(a:Lim p cc k){i s:Nat}(b:i<t.basic.length)(c:s<t.others.length):QB k ((t.line i).g s):=by
 obtain ⟨D,M,d,h1,h2,h3,h4,h5⟩:=a.ex;exact (Lu h.tab h2 h1 b c).qb h5
theorem Inv.wcon (h:Inv p cc t)(a:Lim p cc k):QB k t.worth.c:=by
 obtain ⟨D,M,b,h1,h2,h3,h4,h5⟩:=a.ex;exact (GP h.tab h2 h1 h.obj h3 h4 ⟨0,by show _=(0:Rat);grind,Ow _⟩).qb h5
theorem Inv.wfac (h:Inv p cc t)(a:Lim p cc k){s:Nat}(b:s<t.others.length):QB k (t.worth.g s):=by
 obtain ⟨D,M,c,h1,h2,h3,h4,h5⟩:=a.ex;exact (GO h.tab h2 h1 h.obj h3 h4 b).qb h5
theorem Inv.pivot (h:Inv p cc t){r s:Nat}(a:r<t.basic.length)(b:s<t.others.length)(c:(t.line r).g s≠0):Inv p cc (t.pivot r s):=⟨h.tab.pivot a b c,h.obj.pivot h.tab a b c⟩
theorem I5 (a:1<=k):1<B9 ^ k:=PD (show 1<B9 ^ 1 from by decide) (OO dc_ a)
theorem qb_zero (a:1<=k):QB k 0:=⟨Qz Nat.one_pos (I5 a),I5 a⟩
theorem MM (a:1<=k):QB k 1:=⟨I5 a,I5 a⟩
theorem MN {q:Rat}(h:QB k q):QB k (-q):=⟨by rw [RT];have:=h.1;omega,h.2⟩
theorem Inv.sol (h:Inv p cc t)(c:Lim p cc k)(d:1<=k)(v:Nat):QB k (t.sol v):=by
 by_cases a:v∈t.basic
 ·obtain ⟨i,b,e⟩:=ef a;have f:t.bas i=v:=e;rw [<- f,sol_bas h.tab.ok b];exact h.con c b
 rw [sol_oth h.tab.ok a];exact qb_zero d
theorem Inv.dualQ (h:Inv p cc t)(a:Lim p cc k)(b:1<=k){i:Nat}(c:i<t.basic.length)(r:Nat):QB k (dualV p t (t.line i) r):=by
 rcases gS h.tab (t.line i) r with e | ⟨s,hs,_,d⟩
 ·rw [e];exact qb_zero b
 rw [d];exact h.fac a c hs
theorem Inv.dualW (h:Inv p cc t)(a:Lim p cc k)(b:1<=k)(r:Nat):QB k (dualV p t t.worth r):=by
 rcases gS h.tab t.worth r with e | ⟨s,hs,_,c⟩
 ·rw [e];exact qb_zero b
 rw [c];exact h.wfac a hs
theorem Inv.refQ (h:Inv p cc t)(b:Lim p cc k)(a:1<=k){i:Nat}(c:i<t.basic.length)(r:Nat):QB k (refV p t i r):=by
 unfold refV;split
 ·exact MM a
 exact MN (h.dualQ b a c r)
structure OptR (p:Sys)(cc:Nat->Rat)(k:Nat)(val:Rat)(pt du:Nat->Rat):Prop where
 row:∀ r,r<p.m->sumN (fun j=>p.a r j*pt j) p.n<=p.b r
 wor:sumN (fun j=>cc j*pt j) p.n=val
 pos:∀ r,0<=du r
 fac:∀ j,j<p.n->sumN (fun r=>du r*p.a r j) p.m=-cc j
 bnd:sumN (fun r=>du r*p.b r) p.m=-val
 qv:QB k val
 qp:∀ j,QB k (pt j)
 qd:∀ r,QB k (du r)
structure InfR (p:Sys)(k:Nat)(du:Nat->Rat):Prop where
 pos:∀ r,0<=du r
 fac:∀ j,j<p.n->sumN (fun r=>du r*p.a r j) p.m=0
 bnd:sumN (fun r=>du r*p.b r) p.m<0
 qd:∀ r,QB k (du r)
structure UnbR (p:Sys)(cc:Nat->Rat)(k:Nat)(pt ra:Nat->Rat):Prop where
 row:∀ r,r<p.m->sumN (fun j=>p.a r j*pt j) p.n<=p.b r
 ray:∀ r,r<p.m->sumN (fun j=>p.a r j*ra j) p.n<=0
 fall:sumN (fun j=>cc j*ra j) p.n<0
 qp:∀ j,QB k (pt j)
 qr:∀ j,QB k (ra j)
theorem Inv.opt (h:Inv p cc t)(a:Lim p cc k)(b:1<=k)(d:t.Feas p.n)(e:RelW p.n t)(f:∀ s,s<t.others.length->p.n<=t.oth s->0<=t.worth.g s):OptR p cc k t.worth.c t.sol (dualV p t t.worth):=by
 obtain ⟨h1,h2,h3,h4⟩:=ID h.tab h.obj e f;exact ⟨fun r hr=>Ci h.tab d r hr,by grind,h1,h3,by grind,h.wcon a,h.sol a b,h.dualW a b⟩
theorem Inv.inf (h:Inv p cc t)(b:Lim p cc k)(d:1<=k)(e:Rel p.n t p.n){i:Nat}(a:i<t.basic.length)(f:p.n<=t.bas i)(j:(t.line i).c<0)(l:∀ s,s<t.others.length->p.n<=t.oth s->(t.line i).g s<=0):InfR p k (refV p t i):=by
 obtain ⟨h1,h2,h3⟩:=MK h.tab e a f l;exact ⟨h1,h3,by rw [h2];exact j,h.refQ b d a⟩
end
def openT (p:Sys)(cc:Nat->Rat):Tab :=
 ⟨(List.range p.m).map fun r=>p.n+r,(List.range p.m).map fun r=>⟨p.b r,(List.range p.n).map fun j=>-p.a r j⟩,List.range p.n,⟨0,(List.range p.n).map cc⟩⟩
section
variable {p:Sys} {cc:Nat->Rat}
theorem zr {n j:Nat}(h:j<n):(List.range n).getD j 0=j:=by
 rw [ax,O5 h];rfl
theorem EF {r:Nat}(h:r<p.m):(openT p cc).bas r=p.n+r:=by
 show ((List.range p.m).map fun r=>p.n+r).getD r 0=_;rw [ax,Ou,O5 h];rfl
theorem openT_line {r:Nat}(h:r<p.m):(openT p cc).line r=⟨p.b r,(List.range p.n).map fun j=>-p.a r j⟩:=by
 show ((List.range p.m).map _).getD r _=_;rw [ax,Ou,O5 h];rfl
theorem openT_lb:(openT p cc).basic.length=p.m:=by show ((List.range p.m).map _).length=_;rw [al,Pr]
theorem openT_lo:(openT p cc).others.length=p.n:=Pr
theorem openT_inv:Inv p cc (openT p cc):=by
 have f:∀ x,(openT p cc).Sol x ↔ p.Sol x:=by
  intro x;unfold Tab.Sol Sys.Sol;rw [openT_lb];refine forall_congr' fun r=>imp_congr_right fun hr=>?_;have e:lv ((openT p cc).line r) (openT p cc).others x=p.b r-sumN (fun j=>p.a r j*x j) p.n:=by
   rw [openT_line hr];unfold lv;rw [openT_lo];have:sumN (fun j=>(-1:Rat)*(p.a r j*x j)) p.n=sumN (fun j=>(⟨p.b r,(List.range p.n).map fun j=>-p.a r j⟩:Line).g j*x ((openT p cc).others.getD j 0)) p.n:=aO fun j c=>by
    show _=((List.range p.n).map fun j=>-p.a r j).getD j 0*x ((List.range p.n).getD j 0);rw [eF c,zr c];grind
   rw [<- this,cN];show p.b r+_=_;grind
  rw [e,EF hr]
 refine ⟨⟨⟨?_, ?_, ?_, ?_, ?_⟩,openT_lb,openT_lo,f⟩,fun x _=>?_⟩
 ·show ((List.range p.m).map _).length=((List.range p.m).map _).length;rw [al,al]
 ·intro l i;obtain ⟨r,_,rfl⟩:=OB.1 i;show ((List.range p.n).map _).length=(List.range p.n).length;rw [al]
 ·show ((List.range p.n).map _).length=(List.range p.n).length;rw [al]
 ·refine P3.2 ⟨?_,List.nodup_range,fun a k b o=>?_⟩
  ·show ((List.range p.m).map fun r=>p.n+r).Nodup;rw [List.Nodup,List.pairwise_map];exact (List.nodup_range (n:=p.m)).imp fun h e=>h om_
  obtain ⟨r,_,rfl⟩:=OB.1 k;have:=ON.1 o;omega
 ·intro v d;rcases OJ.1 d with d | d
  ·obtain ⟨r,hr,rfl⟩:=OB.1 d;have:=ON.1 hr;omega
  have:=ON.1 d;omega
 show lv ⟨0,(List.range p.n).map cc⟩ (List.range p.n) x=_;unfold lv;rw [Pr];congr 1;refine aO fun j c=>?_;show ((List.range p.n).map cc).getD j 0*x ((List.range p.n).getD j 0)=_;rw [eF c,zr c]
end
end Go.Jog.Lp
namespace Go.Jog
open Go
section
variable {P:Program} {f:FuncId} {args:List Value} {C:Mem} {L:List Ent}
theorem UL {b:Nat}{c:Obj}{post:Value->List Ent->Prop}(e:Enters P f=true)(h:∀ C',C.le C'->C' b=some c->Fn P f args C' L fun u _ a=>post u a) :
  Fn P f args C (.obj b c::L) fun u _ g=>∃ a,g=.obj b c::a/\post u a:=by
 refine ⟨e,fun w hw=>?_⟩;have d:=St.start hw;have i:C b=none:=d.sep.n b ⟨_,aJ ..,rfl⟩;have j:=d.aside;refine ((h _ (Mem.le_set i) (Mem.set_self C b c)).2 w j.sep).mono fun ex w' ⟨v,C',a,k,l,m⟩=>?_;exact ⟨v,_,_,k,St.back d l,a,Z,m⟩
theorem UK {a g e s m:Nat}{b:List (List Value)}{l:Value->List Ent->Prop}(o:Enters P f=true)(p:∀ r∈b,r.length=s)(q:b.length=m)
  (h:∀ C',C.le C'->Sl C' s (.slice (some ⟨a,0,none⟩) m g) b->Fn P f args C' L fun u _ d=>l u d) :
  Fn P f args C (.arr (.slice (some ⟨a,0,none⟩) m g) e s m b.flatten::L) fun u _ t=>∃ d,t=.arr (.slice (some ⟨a,0,none⟩) m g) e s m b.flatten::d/\l u d:=by
 subst q;refine ⟨o,fun w hw=>?_⟩;obtain ⟨cs,h1,h2,h3,h4,k⟩:=(St.start hw).arrObj;have x:C a=none:=k.sep.n a ⟨_,aJ ..,rfl⟩;have y:=k.aside;have z:Sl (C.set a (.cells ⟨cs⟩ e (0,0))) s (.slice (some ⟨a,0,none⟩) b.length g) b :=
  Sl.ofBlock (c:=g) (Mem.set_self C a (.cells ⟨cs⟩ e (0,0))) p (fun j v i=>by
   rw [<- h2,O8] at i;split at i
   ·simpa using i
   cases i) h3 h4
 refine ((h _ (Mem.le_set x) z).2 w y.sep).mono fun ex w' ⟨v,C',d,A,B,D⟩=>?_;exact ⟨v,_,_,A,(St.back k B).objArr h2 h1 h3 h4,d,Z,D⟩
theorem Tq {v:Value}{e s m:Nat}{a:List (List Value)}{post:Value->List Ent->Prop}(c:Enters P f=true)(d:∀ r∈a,r.length=s)(i:a.length=m)
  (h:∀ C',C.le C'->Sl C' s v a->Fn P f args C' L fun u _ b=>post u b) :
  Fn P f args C (.arr v e s m a.flatten::L) fun u _ j=>∃ b,j=.arr v e s m a.flatten::b/\post u b:=by
 refine ⟨c,fun w hw=>?_⟩;have k:w.ownsRow 0 e s v m a.flatten:=hw.e _ (aJ ..);rcases k.2 with ⟨h1,h2⟩ | ⟨g,q,t,h1,_,_,h3,h4,_⟩
 ·have h0:a=[]:=O6 om_;have l:=h C (Mem.le.refl C) (by rw [h1,h0];exact Sl.nil C s);have hs:=St.perm (St.start hw) (O2 (l₁:=[Ent.arr v e s m a.flatten]) (l₂:=L));refine (l.callAt hs).mono fun ex w' ⟨u,C',b,n,_,o,p⟩=>?_;exact ⟨u,C',_,n,St.perm o (O2 (l₁:=b) (l₂:=[Ent.arr v e s m a.flatten])),b,Z,p⟩
 subst h1;exact (UK (e:=e) c d i h).2 w hw
end
inductive Lent where
 | obj (b:Nat) (cs:List Value) (t:TypeId)
 | arr (v:Value) (m s:Nat) (e:TypeId) (rows:List (List Value))
def Lent.ent:Lent->Ent
 | .obj b cs t=>.obj b (.cells ⟨cs⟩ t (0,0))
 | .arr v m s e rows=>.arr v e s m rows.flatten
def Lent.wf:Lent->Prop
 | .obj ..=>True
 | .arr _ m s _ rows=>rows.length=m/\∀ r∈rows,r.length=s
def Lent.seen (C:Mem):Lent->Prop
 | .obj b cs t=>C b=some (.cells ⟨cs⟩ t (0,0))
 | .arr v _ s _ rows=>Sl C s v rows
theorem Tx {P:Program}{f:FuncId}{args:List Value}{L:List Ent}{post:Value->List Ent->Prop}(i:Enters P f=true):∀ (ls:List Lent){C:Mem},(∀ x∈ls,x.wf) ->
  (∀ C',C.le C'->(∀ x∈ls,x.seen C')->Fn P f args C' L fun u _ a=>post u a)->Fn P f args C (ls.map Lent.ent++L) fun u _ d=>∃ a,d=ls.map Lent.ent++a/\post u a
 | [],C,_,h=>(h C (Mem.le.refl C) fun x c=>by cases c).mono fun v C' a _ g=>⟨a,rfl,g⟩
 | .obj b cs t::ls,C,hw,h=>by
  refine (UL (post:=fun u d=>∃ a,d=ls.map Lent.ent++a/\post u a) i fun C1 h1 j=>?_).mono fun v C' a _ ⟨L1,k,l,n,g⟩=>⟨l,by rw [k,n];rfl,g⟩;refine Tx i ls (fun x c=>hw x (OA _ c)) fun o h2 hs=>h o (h1.trans h2) fun x c=>?_;rcases OE.1 c with rfl | c
  ·exact h2 _ _ j
  exact hs x c
 | .arr v m s e rows::ls,C,hw,h=>by
  have p:=hw _ aJ;refine (Tq (e:=e) (post:=fun u d=>∃ a,d=ls.map Lent.ent++a/\post u a) i p.2 p.1 fun C1 h1 j=>?_).mono fun v C' a _ ⟨L1,k,l,n,g⟩=>⟨l,by rw [k,n];rfl,g⟩;refine Tx i ls (fun x c=>hw x (OA _ c)) fun o h2 hs=>h o (h1.trans h2) fun x c=>?_;rcases OE.1 c with rfl | c
  ·exact Sl.mono j h2
  exact hs x c
end Go.Jog
namespace Go.Jog
open Go
variable {C:Mem}{F:Fx}{L:List Ent}{P:Program}{args:List Value}{f:FuncId}{fr:Fr}{m s t:Nat}{v:Value}{xs:List Value}
theorem Fn.form {a:Value->Mem->List Ent->Prop}{e:Nat}(b:Enters P f=true)(j:0<m)
  (h:∀ g c,v=.slice (some ⟨g,0,none⟩) m c->Fn P f args C (.arr v e s m xs::L) a):Fn P f args C (.arr v e s m xs::L) a:=by
 refine ⟨b,fun w hw=>?_⟩;have d:w.ownsRow 0 e s v m xs:=hw.e _ (aJ ..);rcases d.2 with ⟨h1,_⟩ | ⟨g,i,k,h1,_⟩
 ·omega
 exact (h g i h1).2 w hw
theorem Fn.perm {P:Program}{f:FuncId}{a:List Value}{C:Mem}{L L2:List Ent}{post:Value->Mem->List Ent->Prop}(c:L.Perm L2)(h:Fn P f a C L2 post):Fn P f a C L post:=by
 refine ⟨h.1,fun w hw=>?_⟩;have hs:St w C L C (L2++[]) w:=by rw [OX];exact (St.start hw).perm c
 refine (h.callAt hs).mono fun ex w' ⟨u,C',L',d,_,b,e⟩=>?_;rw [OX] at b;exact ⟨u,C',L',d,b,e⟩
theorem Th {q:Value->Prop}(c:Enters P f=true)(a:List Lent)(d:∀ x∈a,x.wf)(h:∀ C',C.le C'->(∀ x∈a,x.seen C')->Pur P f args C' fun u _=>q u) :
  Fn P f args C (a.map Lent.ent) fun u _ b=>q u/\b=a.map Lent.ent:=by
 have h1:=Tx (L:=[]) (post:=fun u b=>b=[]/\q u) c a d fun C' e hs=>h C' e hs;rw [OX] at h1;refine h1.mono ?_;rintro u C' b _ ⟨i,rfl,rfl,g⟩;exact ⟨g,OX _⟩
theorem TM {k:List KI}{e:Exit}(j:Nat)(a:L[j]?=some (.arr v t s m xs))(b:0<m)(h:∀ g c,v=.slice (some ⟨g,0,none⟩) m c->G F k e fr C L):G F k e fr C L:=by
 cases m with
 | zero=>exact absurd b (Nat.lt_irrefl _)
 | succ m=>exact Ui j a h
theorem Uc (j:Nat){r b:Nat}{c:List Value}{l:TypeId}{m:Nat × Nat}{d:TI}{u:Value}(n:L[j]?=some (.obj b (.cells ⟨c⟩ l m)))(q:F.fn.results=#[.cell r t,.tmp s])(x:ev fr [] (.tmp r)=some (.pointer (some ⟨b,0,none⟩)))(y:ev fr [] (.tmp s)=some u)
  (z:F.cx.T.get t=some d) (A:bV d (c.take d.size)=some v) (h:F.post (.tuple #[v,u]) C (L.eraseIdx j)) (o:F.ends:=by exact ⟨fun _ _ _ h=>h,rfl⟩):G F [] .ret fr C L:=fun _ a w f hw=>by
 refine o.kq ?_;have g:=bx f (fun p i=>by cases i) x;have k:=bx f (fun p i=>by cases i) y;simp only [Act.eval] at g k;have hm:Ent.obj b (.cells ⟨c⟩ l m)∈L:=Oq n;refine bodyPost_ret (v:=.tuple #[v,u]) ?_ (f.defers.trans o.2) ⟨_,C,_,Z,St.drop (St.perm hw (aj n)),h⟩;have B:=dK (F:=F) z (hw.sep.e _ hm) A;simp only [Ph] at g k;simp [results,q,g,k,asAddr,B]
theorem kR {b:Type}{l:List Nat}(c:l.Nodup){i:Nat}(h:i∈l)(f g:Nat->b)(d:∀ j,j∈l->j≠i->f j=g j):(l.map f).Perm (f i::(l.erase i).map g):=by
 refine ((List.perm_cons_erase h).map f).trans ?_;rw [O1];refine List.Perm.cons _ (List.Perm.of_eq (List.map_congr_left fun j a=>?_));rw [c.mem_erase_iff] at a;exact d j a.2 a.1
end Go.Jog
namespace Go.Jog
open Go
section
variable {F:Fx} {fr:Fr} {C:Mem} {L:List Ent} {p q r s b t:Nat} {cs:List Value} {tb:TypeId} {fz:Nat × Nat} {ti:TI} {x y u v:Value}
theorem TN (j:Nat)(d:L[j]?=some (.obj b (.cells ⟨cs⟩ tb fz)))(i:F.fn.results=#[.cell r t])(k:ev fr [] (.tmp r)=some (.pointer (some ⟨b,0,none⟩)))
  (l:F.cx.T.get t=some ti) (m:bV ti (cs.take ti.size)=some v) (h:F.post v C (L.eraseIdx j)) (f:F.ends:=by exact ⟨fun _ _ _ h=>h,rfl⟩):G F [] .ret fr C L:=fun _ a w g hw=>by
 refine f.kq ?_;have c:=bx g (fun p n=>by cases n) k;simp only [Act.eval] at c;have hm:Ent.obj b (.cells ⟨cs⟩ tb fz)∈L:=Oq d;refine bodyPost_ret (v:=v) ?_ (g.defers.trans f.2) ⟨_,C,_,Z,St.drop (St.perm hw (aj d)),h⟩;have o:=dK (F:=F) l (hw.sep.e _ hm) m;simp only [Ph] at c;simp [results,i,c,asAddr,o]
theorem Uh (j:Nat)(l:L[j]?=some (.obj b (.cells ⟨cs⟩ tb fz)))(n:F.fn.results=#[.tmp p,.cell r t,.tmp q,.tmp s])
  (c:ev fr [] (.tmp p)=some x) (o:ev fr [] (.tmp q)=some y) (z:ev fr [] (.tmp r)=some (.pointer (some ⟨b,0,none⟩))) (A:ev fr [] (.tmp s)=some u)
  (B:F.cx.T.get t=some ti) (D:bV ti (cs.take ti.size)=some v) (h:F.post (.tuple #[x,v,y,u]) C (L.eraseIdx j)) (m:F.ends:=by exact ⟨fun _ _ _ h=>h,rfl⟩):G F [] .ret fr C L:=fun _ a w d hw=>by
 refine m.kq ?_;have f:=bx d (fun p c=>by cases c) c;have g:=bx d (fun p c=>by cases c) o;have i:=bx d (fun p c=>by cases c) z;have k:=bx d (fun p c=>by cases c) A;simp only [Act.eval] at f g i k;have hm:Ent.obj b (.cells ⟨cs⟩ tb fz)∈L:=Oq l;refine bodyPost_ret (v:=.tuple #[x,v,y,u]) ?_ (d.defers.trans m.2) ⟨_,C,_,Z,St.drop (St.perm hw (aj l)),h⟩;have E:=dK (F:=F) B (hw.sep.e _ hm) D;simp only [Ph] at f g i k;simp [results,n,f,g,i,k,asAddr,E]
end
theorem UJ {P:Program}{f:FuncId}{g:List Value}{C:Mem}{i:Value->Mem->List Ent->Prop}{Q:Value->Mem->Prop}(h:Fn P f g C [] i)
  (j:∀ v C' a,i v C' a->(a=[]/\Q v C')∨∃ u t s rows,a=[.arr u t s rows.length rows.flatten]/\(∀ r∈rows,r.length=s)/\∀ D,C'.le D->Sl D s u rows->Q v D):Pur P f g C Q:=by
 refine ⟨h.1,fun w hw=>(h.2 w hw).mono ?_⟩;rintro e w' ⟨v,C',a,rfl,c,k⟩;rcases j _ _ _ k with ⟨rfl,d⟩ | ⟨u,t,s,rows,rfl,hr,d⟩
 ·exact ⟨v,C',[],Z,c,Z,d⟩
 obtain ⟨D,h1,h2,h3⟩:=St.freezeArr c hr rfl;exact ⟨v,D,[],Z,⟨h3.sep,h3.ev,fun b o l=>h1 b o (c.c0 b o l),h3.cn,h3.ln⟩,Z,d D h1 h2⟩
end Go.Jog
namespace Go.Jog
open Go
theorem Ub {F:Fx}{k:List KI}{b:Fr}{C:Mem}{L:List Ent}{e:Exit}(j:Nat){v:Value}{t s m:Nat}{d:List Value}(i:L[j]?=some (.arr v t s m d))
  (h:∀ A c,v=.slice A m c->(0<m->A=some ⟨(A.getD ⟨0,0,none⟩).block,0,none⟩)->m<=c->c<=maxLen->G F k e b C L):G F k e b C L:=fun h0 a w f hw=>by
 have l:=St.perm hw (aj i);have n:w.ownsRow 0 t s v m d:=l.sep.e _ (aJ ..);rcases n.2 with ⟨h1,h2⟩ | ⟨g,o,p,h1,_,_,h3,h4,_⟩
 ·subst h2;exact h _ _ h1 (fun h=>absurd h om_) om_ (Ow _) h0 a w f hw
 exact h _ _ h1 fl_ h3 h4 h0 a w f hw
theorem TA {F:Fx}{k:List KI}{f:Fr}{e:Exit}:∀ (ls:List Lent){C:Mem}{L2:List Ent},(∀ x∈ls,x.wf)->(∀ C',C.le C'->(∀ x∈ls,x.seen C')->G F k e f C' L2)->G F k e f C (ls.map Lent.ent++L2)
 | [],C,_,_,h=>h C (Mem.le.refl C) fun x a=>by cases a
 | .obj b cs t::ls,C,L2,hw,h=>by
  refine G.freeze 0 Z fun C1 h1 c=>TA ls (fun x a=>hw x (OA _ a)) fun d h2 hs=>h d (h1.trans h2) fun x a=>?_;rcases OE.1 a with rfl | a
  ·exact h2 _ _ c
  exact hs x a
 | .arr v m s t rows::ls,C,L2,hw,h=>by
  have g:=hw _ aJ;refine G.freezeArr 0 rows Z Z g.2 g.1 fun C1 h1 c=>TA ls (fun x a=>hw x (OA _ a)) fun d h2 hs=>h d (h1.trans h2) fun x a=>?_;rcases OE.1 a with rfl | a
  ·exact Sl.mono c h2
  exact hs x a
section
variable {cx:Cx} {n:Nat} {ds:List (Option Nat)} {R:Rg n ds} {its:List It} {fr:Fr} {C:Mem} {L:List Ent} {i k d:Nat} {o:Oper} {g:GL} {v:Value}
theorem Uu (b c:Nat){t e j r l:Nat}{A:Option Addr}{x y:Operand}{s:IntKind}{m:Int}{f p:TI}(u:Nat.ble k 1=true)(v:o.dst=some d)(z:o.op=.indexAddr t x y)
  (B:gOf ds fr o.guard=some g) (E:ev fr g x=some (.slice A j r)) (F:ev fr g y=some (.int s m)) (G:cx.T.get t=some f) (q:f.k=.slice e) (H:cx.T.get e=some p) (I:p.size=l)
  (J:GT ds fr g->A=some ⟨b,0,none⟩/\0<=m/\m<j/\c=m.toNat*l) (K:aP n ds ((d,g,.pointer (some ⟨b,c,none⟩))::fr) d=true) (M:wfG ds fr g=true)
  (h:D cx R its ((d,g,.pointer (some ⟨b,c,none⟩))::fr) C L):D cx R ((i,k,o)::its) fr C L:=by
 have N:cx.P.underlying t=some (.slice e):=by
  obtain ⟨V,W,X,Y,Z⟩:=f;simp only at q;subst q;exact ci cx.hT G
 refine D.run _ u v B (fun O a hs w=>?_) K M h;obtain ⟨rfl,Q,S,rfl⟩:=J O;have U:execOp a.eval o=(do Pure.pure (.value (<- Instr.indexAt t (a.eval x) (a.eval y))):Sem Next):=by unfold execOp;rw [z]
 rw [U,hs _ _ E,hs _ _ F];have h2:=dY cx.hT H w;rw [I] at h2;simp [Instr.indexAt,asIntOf,run_underlying N,h2,Q,S,Addr.add_lit]
theorem Up {t c f e q r m s:Nat}{A:Option Addr}{x:Operand}{l:List Value}{p:TI}(z:Ent.arr (.slice A m s) e q r l∈L)(y:k=1)(B:o.dst=some d)(E:o.op=.load t x)(F:gOf ds fr o.guard=some g)(G:ev fr g x=some (.pointer (some ⟨c,f,none⟩)))
  (H:cx.T.get t=some p) (I:GT ds fr g->A=some ⟨c,0,none⟩/\bV p ((l.drop f).take p.size)=some v) (J:aP n ds ((d,g,v)::fr) d=true) (K:wfG ds fr g=true)
  (h:D cx R its ((d,g,v)::fr) C L):D cx R ((i,k,o)::its) fr C L :=
 SN (by subst y;rfl) B F J K (fun M a hs aa N w hw=>by
  obtain ⟨O,Q⟩:=I M;subst O;have S:w.ownsRow 0 e q (.slice (some ⟨c,0,none⟩) m s) r l:=hw.sep.e _ ((N y).2 _ z);obtain ⟨_,_,_,ab,U,_,V⟩:=cH S;have W:∀ j u,((l.drop f).take p.size)[j]?=some u->w.cell? ((⟨c,f,none⟩:Addr).add j)=some u:=fun j u b=>by
   rw [Addr.add_lit,cell_of_row w c (f+j) _ e (0,0) U];rw [O8] at b;split at b
   ·rw [List.getElem?_drop,<- V,O8] at b;split at b
    ·simpa using b
    cases b
   cases b
  have X:(execOp a.eval o).run cx.P w=.ok (.value v) w:=by
   have Y:execOp a.eval o=(do Pure.pure (.value (<- Instr.loadAt t (a.eval x))):Sem Next):=by unfold execOp;rw [E]
   rw [Y,hs _ _ G];simp only [Instr.loadAt,Instr.sureAddr,Sem.run_bind,Sem.run_pure,Result.andThen_ok];rw [ep cx.hT H W Q];rfl
  unfold Oper.quietAt;rw [X];exact ⟨Z,Z⟩) h
theorem TD {f:Operand}{e:Array Operand}{t:Array TypeId}{j:FuncId}{l m:Array Value}{p q:List Value}{x:Ent}(z:x∈L)(c:GT ds fr g->Fn cx.P j q C [x] fun u _ A=>u=v/\A=[x])(B:Z9 k 1 o.dst (some d) (gOf ds fr o.guard) (some g) o.op (.call ⟨.value f,e,t⟩) (ev fr g f) (some (.func (.func j) l m)) (jD (ev fr g) e.toList) (some p) (l.toList++p++m.toList) q (aP n ds ((d,g,v)::fr) d) true (wfG ds fr g) true)(h:D cx R its ((d,g,v)::fr) C L):D cx R ((i,k,o)::its) fr C L :=
 have ⟨b,E,F,G,H,I,J,K,M⟩:=B;SN (by subst b;rfl) E F K M (fun r a hs N s w hw=>by
  unfold Oper.quietAt;rw [mX G (hs _ _ H) (dV (fun x y=>hs x y) I) J (c r).1 w];exact ⟨Z,(c r).quiet1 (s b).1 ((s b).2 _ z) hw⟩) h
end
end Go.Jog
namespace Go.Jog
def cX (s:Nat):List Nat:=(List.range 5).filter fun i=>s.testBit i
def ie (s:Nat):Nat:=(cX s).length
def Lc:List Nat->List Nat->Int
 | [],[]=>0
 | [],_::_=>-1
 | _::_,[]=>1
 | x::a,y::b=>if x<y then -1 else if y<x then 1 else Lc a b
def IW (a b:Nat):Int:=if ie a=ie b then Lc (cX a) (cX b) else (ie a:Int)-ie b
def M9 (x:Nat):List Nat->List Nat
 | []=>[x]
 | y::l=>if IW x y<0 then x::y::l else y::M9 x l
def cq (n:Nat):List Nat:=(List.range (2 ^ n)).foldr M9 []
def BC (s:Nat):Nat:=(cq 5).idxOf s
theorem CJ:∀ s<32,s≠0->cX s=(cX s).headD 0::cX (s &&& (s-1)):=by decide +kernel
theorem CK:∀ s<32,s≠0->(s &&& (s-1))<s:=by decide +kernel
theorem eE:∀ a<32,∀ b<32,(IW a b<0 ↔ BC a<BC b):=by decide +kernel
theorem HA:∀ a<32,∀ b<32,BC a=BC b->a=b:=by decide +kernel
theorem zZ (x:Nat):∀ l:List Nat,(M9 x l).Perm (x::l)
 | []=>Ov _
 | y::l=>by
  unfold M9;split
  ·exact Ov _
  exact ((zZ x l).cons y).trans (List.Perm.swap _ _ _)
theorem rA:∀ l:List Nat,(l.foldr M9 []).Perm l
 | []=>Ov _
 | x::l=>(zZ x _).trans ((rA l).cons x)
theorem lR (n:Nat):(cq n).Perm (List.range (2 ^ n)):=rA _
theorem Hq:∀ n<6,(cq n).Pairwise fun a b=>BC a<BC b:=by decide +kernel
theorem gv {n s:Nat}(h:s∈cq n):s<2 ^ n:=ON.1 ((lR n).mem_iff.1 h)
theorem uR (n:Nat):(cq n).length=2 ^ n:=by rw [(lR n).length_eq,Pr]
theorem xr {n:Nat}(a:n<6):2 ^ n<=32:=by
 have:∀ n<6,2 ^ n<=32:=by decide
 exact this n a
theorem uQ {n:Nat}(g:n<6){l:List Nat}(i:l.Perm (List.range (2 ^ n)))(j:l.Pairwise fun x y=>¬ IW y x<0):l=cq n:=by
 have o:=xr g;have k:∀ x∈l,x<32:=fun x m=>by have:=ON.1 (i.mem_iff.1 m);omega
 refine (i.trans (lR n).symm).eq_of_pairwise (le:=fun a b=>¬ IW b a<0) (fun a b e f h1 h2=>?_) j ((Hq n g).imp_of_mem fun {a b} e f h=>?_)
 ·have c:=k a e;have d:b<32:=by have:=gv f;omega
  rw [eE b d a c] at h1;rw [eE a c b d] at h2;exact HA a c b d om_
 have c:a<32:=by have:=gv e;omega
 have d:b<32:=by have:=gv f;omega
 rw [eE b d a c];omega
def ir (h:Nat->Bool)(f:List Nat)(s:Nat):List Nat:=if (f.any fun x=>x &&& s == x) || h s then f else f++[s]
def iT (h:Nat->Bool)(l:List Nat):List Nat:=l.foldl (ir h) []
def oo (h:Nat->Bool)(f:List Nat)(s:Nat):List Nat:=if (f.head?.elim false fun x=>decide (ie x<ie s)) || !h s then f else f++[s]
def xn (h:Nat->Bool)(l:List Nat):List Nat:=l.foldl (oo h) []
theorem vQ {a c:Type}{f:c->a->c}{b:c}{l:List a}{i:Nat}{s:a}(d:l[i]?=some s):(l.take (i+1)).foldl f b=f ((l.take i).foldl f b) s:=by
 rw [OS,d,List.foldl_append];rfl
theorem F2 (h:Nat->Bool)(f:List Nat)(s:Nat):∃ t,ir h f s=f++t:=by
 unfold ir;split
 ·exact ⟨[],by simp⟩
 exact ⟨[s],Z⟩
theorem wa (h:Nat->Bool):∀ (l f:List Nat),∃ t,l.foldl (ir h) f=f++t
 | [],f=>⟨[],by simp⟩
 | s::l,f=>by
  obtain ⟨a,b⟩:=F2 h f s;obtain ⟨c,d⟩:=wa h l (ir h f s);exact ⟨a++c,by rw [Qc,d,b,OU]⟩
theorem vf {h:Nat->Bool}{f:List Nat}{x:Nat}(a:f.head?=some x):∀ l:List Nat,(∀ s∈l,ie x<ie s)->l.foldl (oo h) f=f
 | [],_=>rfl
 | s::l,b=>by
  have e:oo h f s=f:=by
   unfold oo;rw [a];have:=b s (aJ ..);simp [this]
  rw [Qc,e];exact vf a l fun s hs=>b s (OA _ hs)
theorem pp {h:Nat->Bool}:∀ (l f:List Nat){x:Nat},x∈l.foldl (ir h) f->x∈f∨x∈l
 | [],f,x,a=>.inl a
 | s::l,f,x,a=>by
  rcases pp l (ir h f s) a with h1 | h1
  ·unfold ir at h1;split at h1
   ·exact .inl h1
   rcases OJ.1 h1 with h2 | h2
   ·exact .inl h2
   rw [OP.1 h2];exact .inr aJ
  exact .inr (OA _ h1)
theorem wb {h:Nat->Bool}:∀ (l f:List Nat),(l.foldl (ir h) f).length<=f.length+l.length
 | [],f=>Oo _
 | s::l,f=>by
  have h1:=wb (h:=h) l (ir h f s);have h2:(ir h f s).length<=f.length+1:=by
   unfold ir;split
   ·omega
   rw [Oy];exact Oo _
  rw [Qc,OI];omega
theorem JD:∀ n<6,(cq n).Pairwise fun a b=>ie a<=ie b:=by decide +kernel
end Go.Jog
namespace Go.Jog
open Go Go.Proofs Go.Shelf
section
variable {α:Type} [Inhabited α]
theorem Im {a:Type}[Inhabited a](c:a->Value)(w:World)(m b:Nat)(F:Array a)(h:Array Obj){d:Array Value}{e:TypeId}{f:Nat × Nat}(g:w.heap[b]?=some (.cells d e f)) :
  (Sort.grow (Sort.putRow c (Sort.ahead w m) b 0 F) h).heap[b]?=some (.cells (Sort.putCells c 0 F d) e f):=by
 have i:=bX g;rw [Sort.heap_grow_old _ _ (by simpa [Sort.ahead] using i)];simp [Sort.putRow,Sort.mapBlock,Sort.ahead,QM,g,Sort.onCells]
theorem jO {a:Type}[Inhabited a](c:a->Value)(w:World)(m b:Nat)(F:Array a)(d:Array Obj){q:Nat}(e:q<w.heap.size)(f:q≠b) :
  (Sort.grow (Sort.putRow c (Sort.ahead w m) b 0 F) d).heap[q]?=w.heap[q]?:=by
 rw [Sort.heap_grow_old _ _ (by simpa [Sort.ahead] using e)];simp [Sort.putRow,Sort.mapBlock,Sort.ahead,QM,Ne.symm f]
theorem sK {b:Type}[Inhabited b](d:b->Value)(F:Array b)(c:Array Value)(h:F.size<=c.size):(Sort.putCells d 0 F c).toList.take F.size=F.toList.map d:=by
 apply List.ext_getElem?;intro q;rw [O8];split
 ·rename_i a;simp only [Sort.putCells,Array.getElem?_toList,Array.getElem?_mapIdx,Ou,Ow,PJ,true_and,a,Qa,Q4];rw [Array.getElem?_eq_getElem (by omega:q<c.size),Array.getElem?_eq_getElem a];simp [a]
 rename_i a;rw [OD ap]
theorem St.sorted {c:Type}[Inhabited c](b:c->Value){C:Mem}{w:World}{e s n g a m:Nat}{d:List Value}(j:Sep C [.arr (.slice (some ⟨g,0,none⟩) n a) e s n d] w)(F:Array c)(f:F.size=n*s)(i:Array Obj) :
  St w C [.arr (.slice (some ⟨g,0,none⟩) n a) e s n d] C [.arr (.slice (some ⟨g,0,none⟩) n a) e s n (F.toList.map b)] (Sort.grow (Sort.putRow b (Sort.ahead w m) g 0 F) i):=by
 have l:w.ownsRow 0 e s (.slice (some ⟨g,0,none⟩) n a) n d:=j.e _ (aJ ..);obtain ⟨_,h1,h2,o,p,k,_⟩:=cH l;have r:n*s<=a*s:=Po _ h1;refine St.turn (St.start j) ⟨by simpa using f,.inr ⟨g,a,_,Z,Ow _,Im b w m g F i p,h1,h2,by simpa [Sort.putCells] using k, ?_⟩⟩ ⟨Z,Z,Z,by simp [Sort.ahead],fun q t u=>jO b w m g F i t (fun h=>u (by simp [Value.ownBlock,h]))⟩ ?_ (.inl Z)
 ·rw [<- f];exact sK b F o (by rw [f,k];exact r)
 show w.drawn<=w.drawn+m;omega
theorem B7 {w a:World}{C c:Mem}(h:St w C [] c [] a):∃ q os,a=Sort.grow (w.drewN q) os:=by
 refine ⟨a.drawn-w.drawn,(a.heap.toList.drop w.heap.size).toArray, ?_⟩;have h1:a.heap=w.heap++(a.heap.toList.drop w.heap.size).toArray:=by
  apply Array.ext_getElem?;intro k;rw [Array.getElem?_append];split
  ·rename_i b;exact h.ev.block k b (fun ⟨x,d,_⟩=>by cases d)
  rename_i b;simp only [Px,List.getElem?_drop,Array.getElem?_toList];congr 1;omega
 have h2:w.drawn+(a.drawn-w.drawn)=a.drawn:=by have:=h.ev.drawn;omega
 obtain ⟨i,j,l,m,op⟩:=a;have e:=h.ev.os;have f:=h.ev.tape;have g:=h.ev.output;simp only at h1 h2 e f g;simp only [Sort.grow,World.drewN];congr 1
 ·exact h2.symm
end
section
variable {P:Program} {ρ:Ren}
theorem KU {a:Type}[Inhabited a]{l:List a}{d:Array a}(h:Sort.PermIn 0 l.toArray.size l.toArray d):d.toList.Perm l:=by
 obtain ⟨h1,_,h3⟩:=h;have b:d.extract 0 l.toArray.size=d:=by apply PW;rw [<- h1];simp
 have c:l.toArray.extract 0 l.toArray.size=l.toArray:=by apply PW;simp
 rw [b,c] at h3;simpa using h3
theorem DK {a:Type}[Inhabited a]{b:a->a->Bool}{d:Array a}(h:Sort.SortedIn b 0 d.size d):d.toList.Pairwise fun x y=>b y x=false:=by
 rw [List.pairwise_iff_getElem];intro i j e c f;have:=h i j (Ow _) f (by simpa using c);rw [getElem!_pos d j (by simpa using c),getElem!_pos d i (by simpa using e)] at this;simpa using this
theorem vJ (c:UInt8):∀ s:List UInt8,(c ∉ s/\Lib.index s [c]=-1)∨∃ a post,s=a++c::post/\c ∉ a/\Lib.index s [c]=a.length
 | []=>.inl ⟨by simp,by simp [Lib.index]⟩
 | b::s=>by
  by_cases d:b=c
  ·subst d;exact .inr ⟨[],s,Z,by simp,by simp [Lib.index]⟩
  have f:([c]:List UInt8).isPrefixOf (b::s)=false:=by simp [List.isPrefixOf,Ne.symm d]
  have e:Lib.index (b::s) [c]=if Lib.index s [c] == -1 then -1 else Lib.index s [c]+1:=by rw [Lib.index,f];simp
  rcases vJ c s with ⟨h1,h2⟩ | ⟨a,post,h1,h2,h3⟩
  ·exact .inl ⟨by simp [Ne.symm d,h1],by rw [e,h2];rfl⟩
  refine .inr ⟨b::a,post,by simp [h1],by simp [Ne.symm d,h2], ?_⟩;rw [e,h3];have:¬ ((a.length:Int) == -1)=true:=by simp
  rw [aA this];simp
theorem qI (c:UInt8):∀ (k:Nat)(s:List UInt8),s.count c=k->Lib.splitK [c] 0 k s=cE c s
 | 0,s,h=>by
  rw [mB c s (List.count_eq_zero.1 h)];rfl
 | k+1,s,h=>by
  rcases vJ c s with ⟨h1,_⟩ | ⟨a,post,h1,h2,h3⟩
  ·rw [List.count_eq_zero.2 h1] at h;omega
  have b:post.count c=k:=by
   rw [h1,List.count_append,List.count_eq_zero.2 h2,List.count_cons_self] at h;omega
  unfold Lib.splitK;rw [h3];have d:¬ ((a.length:Int) == -1)=true:=by simp
  rw [aA d];subst h1;have e:((a.length:Int).toNat+0)=a.length:=by simp
  have f:(a++c::post).drop ((a.length:Int).toNat+[c].length)=post:=by simp
  rw [e,f,qI c k post b,nU c a post h2];simp
theorem split_fn (e:Lays.n146 P ρ)(k:(P.info? (ρ.t 9)).map (fun i=>(i.zero,i.size,i.bytes))=some (some (.string ByteArray.empty),1,16))(C:Mem)(s:List UInt8)(c:UInt8){m:Int}(l:s.length<4294967281)(n:CCell C ⟨ρ.g 1,0,none⟩ (.int .i64 m))(o:Enters P (ρ.f 146)=true) :
  Pur P (ρ.f 146) [ai s,ai [c]] C fun v C'=>Sl C' 1 v ((cE c s).map fun p=>[ai p]):=by
 refine ⟨o,fun w hw=>?_⟩;have h:=Any.strings_Split e k ⟨s.toArray⟩ ⟨#[c]⟩ m w (by simpa [ByteArray.size] using l) (n.cell hw) (by simp [ByteArray.size]);have q:Lib.countB ⟨s.toArray⟩ ⟨#[c]⟩=s.count c:=by
  show Lib.count s [c]=_;exact Lib.count_one c s
 have r:(Lib.splitB ⟨#[c]⟩ 0 (s.count c) ⟨s.toArray⟩).map (fun b=>b.data.toList)=cE c s:=by
  rw [Lib.splitB_data];exact qI c _ s Z
 have x:(Lib.splitB ⟨#[c]⟩ 0 (s.count c) ⟨s.toArray⟩).map Value.string=(cE c s).map ai:=by
  rw [<- r,Pc];apply List.map_congr_left;intro b _;obtain ⟨⟨b⟩⟩:=b;rfl
 rw [q,x] at h;refine h.mono fun A w' ⟨h1,y⟩=>?_;subst y;have h2:=(St.alloc (St.start hw) (.cells ((cE c s).map ai).toArray (ρ.t 9))).freeze;refine ⟨_,_,_,h1,h2.2,Z, ?_⟩;have a:=jK c s;have B:s.count c<=s.length:=List.count_le_length;have z:=Sl.ofBlock (C:=C.set w.heap.size (.cells ((cE c s).map ai).toArray (ρ.t 9))) (c:=s.count c+1) (Mem.set_self C w.heap.size _) (rows:=(cE c s).map fun p=>[ai p]) (s:=1) am (fun j u d=>by rw [dW] at d;simpa using d) (by simp [a]) (by simp only [maxLen];omega);simpa [a] using z
end
end Go.Jog
namespace Go.Jog
open Go Go.Proofs Go.Shelf
section
variable {P:Program} {ρ:Ren}
theorem Bp {α:Type}[Inhabited α](F:SlLaysF.n6 P ρ)(a:α->Value)(d:∀ x,oF (a x)=true)(p:α->α->Int)(M:Sort.SWO (ltOf p))(g:FuncId)(i:List Value)(C:Mem)
  (N:∀ x y C',C.le C'->Gives P g ([a x,a y]++i) C' (.int .i64 (p x y))) (v:Value) (e:TypeId) (l:List α) (O:l.length<4611686018427387904) (Q:Enters P (ρ.f 6)=true) (R:Enters P g=true) :
  Fn P (ρ.f 6) [v,.func (.func g) #[] ⟨i⟩] C [.arr v e 1 l.length (l.map a)] fun u _ac G=>∃ r:List α,u=.tuple #[]/\G=[.arr v e 1 l.length (r.map a)]/\r.Perm l/\r.Pairwise (fun x y=>ltOf p y x=false):=by
 refine ⟨Q,fun w hw=>?_⟩;have S:w.ownsRow 0 e 1 v l.length (l.map a):=hw.e _ (aJ ..);rcases S.2 with ⟨rfl,T⟩ | ⟨b,U,s,rfl,_,t,h2,h3,h4,h5⟩
 ·have V:l=[]:=O6 T;subst V;refine (AnyF.slices_SortFunc_none ({ F with }:SlLaysF0.n6 P ρ) none 0 (.func (.func g) #[] ⟨i⟩) w).mono fun H w' ⟨d,h2⟩=>?_;subst h2;exact ⟨_,C,_,d,St.start hw,[],Z,Z,Ov _,List.Pairwise.nil⟩
 have W:b<w.heap.size:=bX t;have X:Sort.Holds a w b 0 l.toArray:=by
  intro j z;simp only [Qj] at z;have I:j<s.size:=by omega
  have A:(l.map a)[j]?=some s[j]:=by
   rw [<- h5,O8,aI om_,Array.getElem?_toList,Array.getElem?_eq_getElem I]
  rw [Ou,ak z] at A;simp only [PY,O0] at A;refine ⟨?_, ?_⟩
  ·rw [PJ,cell_of_row w b j s e (0,0) t,getElem!_pos l.toArray j (by simpa using z)];rw [Array.getElem?_eq_getElem I,<- A];simp
  simp [World.frozen?,t]
 have Y:CmpLays1 P g ⟨i⟩ a p b 0 l.toArray.size w:=by
  intro m os dk ad x y;have hW:Sep C [] (sortWorld a w b 0 m dk os):=⟨fun q o B=>by
    have J:=hw.c q o B;unfold sortWorld;rw [jO a w m b _ os (bX J) (fun h=>by
     subst h;have:=hw.n q ⟨_,aJ ..,rfl⟩;rw [this] at B;cases B)]
    exact J,fun x D=>(by cases D),List.Pairwise.nil,fun k ⟨x,D,_⟩=>(by cases D)⟩
  have ea:(#[a x,a y]++(⟨i⟩:Array Value))=([a x,a y]++i).toArray:=by apply PW;simp
  rw [ea];refine ((N x y C (Mem.le.refl _)).2 _ hW).mono fun H w' ⟨u,C',G,d,h2,h3,h4⟩=>?_;subst h3;subst h4;exact ⟨d,B7 h2⟩
 have aa:=Any.slices_SortFunc F a (fun x=>iJ (d x)) p M g ⟨i⟩ b 0 U l.toArray w (fun args w=>eG R args w) Y X W (by simpa using O);refine aa.mono fun H w' ⟨d,E,m,os,K,hs,ab⟩=>?_;subst ab;have L:E.size=l.length:=by simpa using K.1
 have hS:=St.sorted (m:=m) a hw E (by simp [L]) os;exact ⟨_,C,_,d,hS,E.toList,Z,Z,KU K,DK (by rw [L];simpa using hs)⟩
end
end Go.Jog
namespace Go.Jog
open Go
theorem UM {P:Program}{f:FuncId}{b:List Value}{C:Mem}{t s n:Nat}{a:List (List Value)}(d:∀ r∈a,r.length=s)(g:a.length=n)(h:Fn P f b C [] fun u _ c=>c=[.arr u t s n a.flatten]) :
  Pur P f b C fun u D=>Sl D s u a:=⟨h.1,fun w hw=>(h.2 w hw).mono fun e w' ⟨v,C',c,i,hs,j⟩=>by
 subst j;obtain ⟨k,h1,h2,h3⟩:=St.freezeArr hs d g;exact ⟨v,k,[],i,h3,Z,h2⟩⟩
end Go.Jog
namespace Go.Jog.Lp
def Sys.Hold (p:Sys):Prop:=∃ y:Nat->Rat,∀ r,r<p.m->sumN (fun j=>p.a r j*y j) p.n<=p.b r
theorem uH (g:Nat->Nat->Rat)(n:Nat):∀ m,sumN (fun r=>sumN (fun j=>g r j) n) m=sumN (fun j=>sumN (fun r=>g r j) m) n
 | 0=>(sumN_zero fun _ _=>rfl).symm
 | m+1=>by
  show sumN (fun r=>sumN (fun j=>g r j) n) m+sumN (fun j=>g m j) n=_;rw [uH g n m,<- dJ];rfl
theorem DF {g h:Nat->Rat}{n:Nat}(e:∀ j,j<n->g j<=h j):sumN g n<=sumN h n:=by
 have h1:sumN (fun j=>g j + -1*h j) n<=0:=wZ fun j a=>by have:=e j a;grind
 rw [dJ,cN] at h1;grind
section
variable {p:Sys} {cc:Nat->Rat} {k:Nat} {du pt ra:Nat->Rat} {val:Rat}
theorem InfR.not (h:InfR p k du):¬ p.Hold:=by
 rintro ⟨y,hy⟩;have h1:sumN (fun r=>du r*sumN (fun j=>p.a r j*y j) p.n) p.m<=sumN (fun r=>du r*p.b r) p.m:=DF fun r hr=>Rat.mul_le_mul_of_nonneg_left (hy r hr) (h.pos r);have h2:sumN (fun r=>du r*sumN (fun j=>p.a r j*y j) p.n) p.m=0:=by
  have c:sumN (fun r=>du r*sumN (fun j=>p.a r j*y j) p.n) p.m=sumN (fun r=>sumN (fun j=>du r*(p.a r j*y j)) p.n) p.m:=aO fun r _=>(cN _ _ _).symm;rw [c,uH];refine sumN_zero fun j d=>?_;have e:sumN (fun r=>du r*(p.a r j*y j)) p.m=y j*sumN (fun r=>du r*p.a r j) p.m:=by
   rw [<- cN];exact aO fun r _=>by grind
  rw [e,h.fac j d];grind
 have h3:=h.bnd;grind
theorem OptR.hold (h:OptR p cc k val pt du):p.Hold:=⟨pt,h.row⟩
end
end Go.Jog.Lp
namespace Go.Jog
open Go
section
variable {cx:Cx} {n:Nat} {ds:List (Option Nat)} {R:Rg n ds} {its:List It} {fr:Fr} {C:Mem} {L:List Ent} {i k d:Nat} {o:Oper}
theorem TS {t e h b:Nat}{A:Option Addr}{x:Operand}{g:GL}{c:TI}(j:Nat.ble k 1=true)(l:o.dst=some d)(m:o.op=.call ⟨.builtin .cap,#[x],#[t]⟩)(p:gOf ds fr o.guard=some g)(q:ev fr g x=some (.slice A h b))
  (r:cx.T.get t=some c) (f:c.k=.slice e) (s:aP n ds ((d,g,.int .i64 b)::fr) d=true) (u:wfG ds fr g=true)
  (v:D cx R its ((d,g,.int .i64 b)::fr) C L):D cx R ((i,k,o)::its) fr C L:=by
 have y:cx.P.underlying t=some (.slice e):=by
  obtain ⟨B,E,F,G,H⟩:=c;simp only at f;subst f;exact ci cx.hT r
 refine D.run _ j l p (fun I a hs w=>?_) s u v;have z:execOp a.eval o=(do let dd <- resolve a.eval ⟨.builtin .cap,#[x],#[t]⟩ o.type;invoke dd.target dd.args:Sem Next):=by unfold execOp;rw [m]
 rw [z];simp [resolve,invoke,builtin,Sem.run_bind,hs _ _ q,Builtin.cap_,run_underlying y,goInt]
theorem UB {t g e m:Nat}{x y:Operand}{s j:IntKind}{l p f:TI}(M:k=3)(N:o.dst=some d)(O:gOn ds fr o.guard=true)(Q:o.op=.call ⟨.builtin .append,#[x,y],#[t,g]⟩)
  (U:cx.T.get t=some l) (u:l.k=.slice e) (z:cx.T.get e=some f) (A:Nat.beq f.size 0=false) (V:cx.T.get g=some p) (B:p.k=.int j)
  (W:ev fr [] x=some (.slice none 0 0)) (X:ev fr [] y=some (.int s (m:Nat))) (Y:0<m) (hb:m*f.bytes<=281474976710656) (aa:m<=maxLen) (hp:∀ v,aP n ds ((d,[],v)::fr) d=true)
  (h:∀ b c,m<=c->D cx R its ((d,[],.slice (some ⟨b,0,none⟩) m c)::fr) C (.arr (.slice (some ⟨b,0,none⟩) m c) e f.size m (jH (f.zero.map Zv.val) m)::L)):D cx R ((i,k,o)::its) fr C L:=by
 have hu:cx.P.underlying t=some (.slice e):=by
  obtain ⟨kk,s1,b1,z1,g1⟩:=l;simp only at u;subst u;exact ci cx.hT U
 have ab:cx.P.underlying g=some (.int j):=by
  obtain ⟨kk,s1,b1,z1,g1⟩:=p;simp only at B;subst B;exact nL cx.hT V
 obtain ⟨inf,hi,ac,ad,hz,E⟩:=(dS cx.hT z).info;have ae:0<f.size:=Qd (fun e=>by rw [e] at A;cases A);have ai:maxLen<=9223372036854775807:=by simp [maxLen]
 refine SM (S:=fun F C' G=>C'=C/\∃ b c,m<=c/\F=.slice (some ⟨b,0,none⟩) m c/\G=.arr (.slice (some ⟨b,0,none⟩) m c) e f.size m (jH (f.zero.map Zv.val) m)::L) (by subst M;rfl) N O hp (fun a hs w _ hw=>?_) (fun F C' G _ ⟨e0,b,c,hc,r,e2⟩=>by subst e0;subst r;subst e2;exact h b c hc);have hr:=Lib.run_append_nil_zeros (P:=cx.P) w t g o.type e inf f.zv s j hu ab hi hz m Y (by rw [ac];exact ae) om_ (by rw [ad];exact hb);have af:(execOp a.eval o).run cx.P w=.ok (.value (.slice (some ⟨w.heap.size,0,none⟩) m (grownCap w m 0 e))) (w.drew.alloc (.cells (Builtin.zeroCells f.zv.cells m++Builtin.zeroCells f.zv.cells (grownCap w m 0 e-m)) e)):=by
  have r:execOp a.eval o=(do let dd <- resolve a.eval ⟨.builtin .append,#[x,y],#[t,g]⟩ o.type;invoke dd.target dd.args:Sem Next):=by unfold execOp;rw [Q]
  rw [r];simp only [resolve,invoke,builtin,Sem.run_bind,Sem.run_pure,Result.andThen_ok,Qn,O1,Qt,hs _ _ W,hs _ _ X,hr]
 unfold Oper.wp;rw [af];have H:=grownCap_ge w m 0 e;have ag:=grownCap_le_maxLen w m 0 e aa;have I:=St.alloc (St.drew hw) (.cells (Builtin.zeroCells f.zv.cells m++Builtin.zeroCells f.zv.cells (grownCap w m 0 e-m)) e);have J:(f.zero.map Zv.val).length=f.size:=by
  have:=(dS cx.hT z).zsize;rw [E] at this;simpa using this
 have K:∀ q,Builtin.zeroCells f.zv.cells q=⟨jH (f.zero.map Zv.val) q⟩:=fun q=>by
  rw [<- EV,E];rfl
 have ah:(⟨jH (f.zero.map Zv.val) m⟩++⟨jH (f.zero.map Zv.val) (grownCap w m 0 e-m)⟩:Array Value)=⟨jH (f.zero.map Zv.val) m++jH (f.zero.map Zv.val) (grownCap w m 0 e-m)⟩:=by simp
 rw [K,K,ah] at I ⊢;refine ⟨_,C,.arr (.slice (some ⟨w.heap.size,0,none⟩) m (grownCap w m 0 e)) e f.size m (jH (f.zero.map Zv.val) m)::L,Z,Mem.le.refl _,fun h2=>by omega,St.objArr I (List.take_left' (by rw [cI,J])) ?_ H ag,Z,_,_,H,Z,Z⟩;rw [Oy,cI,cI,J,<- P9];congr 1;omega
end
end Go.Jog
namespace Go.Jog
open Go
def keyU:KeyT (.int .u64) Nat where
 enc n:=.int .u64 (n:Int)
 isKey _:=rfl
 same a b:=by
  simp only [Instr.sameNow,Qa];congr 1;by_cases h:a=b
  ·subst h;simp
  have h2:¬ ((a:Int)=b):=fun e=>h (Int.ofNat_inj.1 e);simp only [PN,ne_eq,h,decide_false];exact h2
end Go.Jog
namespace Go.Jog
open Go
theorem om {c:Cx}{d:Func}{n s t b u B D p E G:Nat}{g:Fr}{C:Mem}{L:List Ent}{h:List Deferred}{i:World}{j:Mem}{k:List Ent}{K M N:TypeId}{O Q R:Nat × Nat}{H I J:List Value}{l m o:TI}{y z x:Value}(S:Ent.obj b (.cells ⟨H⟩ K O)∈L)(U:Ent.obj D (.cells ⟨I⟩ M Q)∈L)(V:Ent.obj G (.cells ⟨J⟩ N R)∈L)(W:d.results=#[.cell s t,.cell u B,.cell p E])
  (X:ev g [] (.tmp s)=some (.pointer (some ⟨b,0,none⟩))) (Y:ev g [] (.tmp u)=some (.pointer (some ⟨D,0,none⟩))) (Z:ev g [] (.tmp p)=some (.pointer (some ⟨G,0,none⟩))) (ht:c.T.get t=some l) (hv:bV l (H.take l.size)=some y) (aa:c.T.get B=some m) (ab:bV m (I.take m.size)=some z) (ac:c.T.get E=some o) (ad:bV o (J.take o.size)=some x) :
  ∀ a w,FrOk n [] h g a->St i j k C L w->(results d a.tmps).run c.P w=.ok (.tuple #[y,z,x]) w:=fun a w q hw=>by
 have r:=bx q (fun p f=>by cases f) X;have v:=bx q (fun p f=>by cases f) Y;have A:=bx q (fun p f=>by cases f) Z;simp only [Act.eval] at r v A;have hl:=dK (F:=⟨c,d,n,⟨i,j,k⟩,fun _ _ _=>True,Cw.plain c.P,h,fun _ _ _=>True⟩) ht (hw.sep.e _ S) hv;have ae:=dK (F:=⟨c,d,n,⟨i,j,k⟩,fun _ _ _=>True,Cw.plain c.P,h,fun _ _ _=>True⟩) aa (hw.sep.e _ U) ab;have af:=dK (F:=⟨c,d,n,⟨i,j,k⟩,fun _ _ _=>True,Cw.plain c.P,h,fun _ _ _=>True⟩) ac (hw.sep.e _ V) ad;simp only [Ph] at r v A;simp [results,W,r,v,A,asAddr,hl,ae,af]
end Go.Jog
namespace Go.Jog
open Go
theorem UV {F:Fx}{d:Fr}{C:Mem}{L:List Ent}{p q r b t:Nat}{l:List Value}{n:TypeId}{o:Nat × Nat}{g:TI}{x y v:Value}(s:Ent.obj b (.cells ⟨l⟩ n o)∈L)(u:F.fn.results=#[.cell r t,.tmp p,.tmp q])
  (c:ev d [] (.tmp p)=some x) (z:ev d [] (.tmp q)=some y) (A:ev d [] (.tmp r)=some (.pointer (some ⟨b,0,none⟩)))
  (B:F.cx.T.get t=some g) (D:bV g (l.take g.size)=some v) (h:F.post (.tuple #[v,x,y]) C []) (m:F.ends:=by exact ⟨fun _ _ _ h=>h,rfl⟩):G F [] .ret d C L:=fun _ a w f hw=>by
 refine m.kq ?_;have i:=bx f (fun p c=>by cases c) c;have j:=bx f (fun p c=>by cases c) z;have k:=bx f (fun p c=>by cases c) A;simp only [Act.eval] at i j k;refine bodyPost_ret (v:=.tuple #[v,x,y]) ?_ (f.defers.trans m.2) ⟨_,C,[],Z,St.dropAll hw,h⟩;have E:=dK (F:=F) B (hw.sep.e _ s) D;simp only [Ph] at i j k;simp [results,u,i,j,k,asAddr,E]
end Go.Jog
namespace Go.Jog
variable {f:List Nat}{h:Nat->Bool}{i n s:Nat}{z:Int}
def wC (f:List Nat)(z:Int):Prop:=(f=[]/\z=-1)∨∃ x,f.head?=some x/\z=(ie x:Int)/\∀ y∈f,ie y=ie x
theorem Br (h:wC f z)(a:∀ x∈f,ie x<=ie s)(c:¬ (0<=z/\z<(ie s:Int))):wC (f++[s]) (ie s):=by
 refine .inr ?_;rcases h with ⟨rfl,_⟩ | ⟨x,h1,h2,h3⟩
 ·exact ⟨s,Z,Z,by simp⟩
 have b:x∈f:=List.mem_of_mem_head? h1;have e:ie x=ie s:=by have:=a x b;omega
 refine ⟨x,by rw [List.head?_append,h1];rfl,by rw [e],fun y hy=>?_⟩;rcases OJ.1 hy with hy | hy
 ·exact h3 y hy
 rw [OP.1 hy,e]
theorem vg (a:h s=false):oo h f s=f:=by
 unfold oo;rw [a];simp
theorem zp (a:wC f z)(c:¬ (0<=z/\z<(ie s:Int)))(b:h s=true):oo h f s=f++[s]:=by
 unfold oo;rw [b];rcases a with ⟨rfl,_⟩ | ⟨x,h1,h2,_⟩
 ·simp
 rw [h1];have:¬ ie x<ie s:=by omega
 simp [this]
theorem zl {h:Nat->Bool}:∀ (l f:List Nat){x:Nat},x∈l.foldl (oo h) f->x∈f∨x∈l
 | [],f,x,a=>.inl a
 | s::l,f,x,a=>by
  rcases zl l (oo h f s) a with h1 | h1
  ·unfold oo at h1;split at h1
   ·exact .inl h1
   rcases OJ.1 h1 with h2 | h2
   ·exact .inl h2
   rw [OP.1 h2];exact .inr aJ
  exact .inr (OA _ h1)
theorem zm {h:Nat->Bool}:∀ (l f:List Nat),(l.foldl (oo h) f).length<=f.length+l.length
 | [],f=>Oo _
 | s::l,f=>by
  have h1:=zm (h:=h) l (oo h f s);have h2:(oo h f s).length<=f.length+1:=by
   unfold oo;split
   ·omega
   rw [Oy];exact Oo _
  rw [Qc,OI];omega
theorem BA {x:Nat}(c:n<6)(b:(cq n)[i]?=some s)(d:(((cq n).take i).foldl (oo h) []).head?=some x)(o:ie x<ie s):xn h (cq n)=((cq n).take i).foldl (oo h) []:=by
 have f:=JD n c;unfold xn
 conv=>lhs;rw [<- Pq i (cq n),List.foldl_append]
 refine vf d _ fun t g=>?_;obtain ⟨k,a⟩:=PQ g;rw [List.getElem?_drop] at a;obtain ⟨h5,j⟩:=aF.1 b;obtain ⟨l,m⟩:=aF.1 a;by_cases e:k=0
 ·subst e;rw [Qh,b] at a;cases a
  omega
 have:=List.pairwise_iff_getElem.1 f i (i+k) h5 l om_;rw [j,m] at this;omega
theorem D9 (a:n<6)(b:(cq n)[i]?=some s)(c:wC (((cq n).take i).foldl (oo h) []) z)(d:0<=z/\z<(ie s:Int)):xn h (cq n)=((cq n).take i).foldl (oo h) []:=by
 rcases c with ⟨_,e⟩ | ⟨x,h1,h2,_⟩
 ·omega
 exact BA a b h1 om_
theorem MR (b:n<6)(c:(cq n)[i]?=some s):∀ x∈((cq n).take i).foldl (oo h) [],ie x<=ie s:=fun x d=>by
 rcases zl _ _ d with h1 | h1
 ·cases h1
 obtain ⟨k,a⟩:=PQ h1;rw [O8] at a;split at a
 ·rename_i e;obtain ⟨h5,f⟩:=aF.1 c;obtain ⟨g,j⟩:=aF.1 a;have:=List.pairwise_iff_getElem.1 (JD n b) k i g h5 e;rw [f,j] at this;exact this
 cases a
end Go.Jog
