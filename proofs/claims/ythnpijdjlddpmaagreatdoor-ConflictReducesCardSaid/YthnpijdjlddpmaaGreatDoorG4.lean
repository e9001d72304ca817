/- Laws that the proofs of this seat share, part 4. -/
import Derived.Test.YthnpijdjlddpmaaGreatDoorG3
import Derived.Shelf.SlSortCmp.NoneTotal
import Derived.Shelf.Sort.Plain
import Derived.Shelf.Slices.In.SortNone
import Derived.Shelf.Strings.Split
import Derived.Shelf.Slices.Delete
import Derived.Lib.AppendZeros
import Derived.RangeFuncSeq
namespace Go.Jog
open Go Go.MapKept
section
variable {cx:Cx} {n:Nat} {ds:List (Option Nat)} {R:Rg n ds} {its:List It} {fr:Fr} {C:Mem} {L:List Ent} {i k d:Nat} {o:Oper} {g:GL} {v:Value}
variable {κ:Type} (enc:κ->Value)
theorem Df {P:Program}{T:Tab}(d:oN P T=true){t e f:Nat}{c:TI}(g:T.get t=some c)(h:c.k=.map e f){a:Act}{o:Oper}{x:Operand}{b:Nat}{m:List (κ × Value)}(i:o.op=.call ⟨.builtin .len,#[x],#[t]⟩)(j:a.eval x=.map (some b)){w:World}(l:w.heap[b]?=some (aR enc m)) :
  (execOp a.eval o).run P w=.ok (.value (.int .i64 (m.length:Nat))) w:=by
 have n:=gT d g h;have p:execOp a.eval o=(do let dd <- resolve a.eval ⟨.builtin .len,#[x],#[t]⟩ o.type;invoke dd.target dd.args:Sem Next):=by unfold execOp;rw [i]
 have h1:(getObj b).run P w=.ok (.map ⟨bG enc m 0⟩ m.length) w:=Go.MapKept.run_getObj_map l;have q:(Builtin.len_ #[t] o.type #[.map (some b)]).run P w=.ok (.int .i64 (m.length:Nat)) w:=by
  simp [Builtin.len_,run_underlying n,h1,nC,goInt]
 rw [p];simp only [resolve,invoke,builtin,Sem.run_bind,Sem.run_pure,Result.andThen_ok,SY,Rs,S4,j,q]
theorem Wu {b t j l:Nat}{x:Operand}{m:List (κ × Value)}{c:TI}(p:Ent.obj b (aR enc m)∈L)(f:k=1)(q:o.dst=some d)(r:o.op=.call ⟨.builtin .len,#[x],#[t]⟩)(s:gOf ds fr o.guard=some g)(u:ev fr g x=some (.map (some b)))
  (v:cx.T.get t=some c) (y:c.k=.map j l) (z:aQ n ds ((d,g,.int .i64 (m.length:Nat))::fr) d=true) (A:wfG ds fr g=true)
  (h:D cx R its ((d,g,.int .i64 (m.length:Nat))::fr) C L):D cx R ((i,k,o)::its) fr C L :=
 Vl (by subst f;rfl) q s z A (fun _ a hs G B w E=>by
  have F:w.heap[b]?=some (aR enc m):=E.sep.e _ ((B f).2 _ p);unfold Oper.quietAt;rw [Df enc cx.hT v y r (hs _ _ u) F];exact ⟨Z,Z⟩) h
end
end Go.Jog
namespace Go.Jog
open Go Go.MapKept
variable {C:Mem}{b:Nat}{cs:List Value}{f first:Int}{k:Nat}{out:List Int}{p q:Int}{seen:List Nat}{t:TypeId}
def keyZ:KeyT (.int .i64) Int where
 enc z:=.int .i64 z
 isKey _:=rfl
 same a b:=by
  simp only [Instr.sameNow,SL];congr 1
section
variable {κ β:Type} [DecidableEq κ]
theorem cH:∀ {m:List (κ × β)}{k:κ},dq m k=none ↔ k ∉ m.map (·.1)
 | [],k=>by simp [dq]
 | (a,v)::m,k=>by
  simp only [dq,Rs,Q3,not_or];by_cases h:a=k
  ·simp [h]
  rw [az h,cH (m:=m)];exact ⟨fun h2=>⟨fun e=>h e.symm,h2⟩,fun h2=>h2.2⟩
theorem jJ:∀ {m:List (κ × β)}{k:κ}{v:β},dq m k=none->fU m k v=m++[(k,v)]
 | [],k,v,_=>rfl
 | (b,c)::m,k,v,h=>by
  simp only [dq] at h;split at h
  ·cases h
  rename_i a;simp only [fU,az a,SD,jJ h]
theorem ga:∀ {m:List (κ × β)}{k:κ}{v:β},dq m k=some v->(k,v)∈m
 | (a,b)::m,k,v,h=>by
  simp only [dq] at h;split at h
  ·rename_i e;cases h;subst e;exact Qb
  exact Q0 _ (ga h)
theorem fN:∀ {m:List (κ × β)}{k:κ}{v:β},(m.map (·.1)).Nodup->(k,v)∈m->dq m k=some v
 | (b,c)::m,k,v,a,h=>by
  simp only [Rs,TV] at a;rcases Q3.1 h with h | h
  ·cases h;simp [dq]
  have:b≠k:=fun e=>a.1 (e ▸ Tf (f:=(·.1)) h);simp only [dq,az this];exact fN a.2 h
theorem wN {m a:List (κ × β)}(h:m.Perm a)(c:(m.map (·.1)).Nodup)(k:κ):dq m k=dq a k:=by
 have d:(a.map (·.1)).Nodup:=(h.map (·.1)).nodup_iff.1 c;cases b:dq m k with
 | some v=>exact (fN d (h.mem_iff.1 (ga b))).symm
 | none =>
  cases e:dq a k with
  | none=>rfl
  | some v=>rw [fN c (h.mem_iff.2 (ga e))] at b;cases b
end
abbrev iL:=Int × Int
def ON (s:iL):iL:=(s.2,s.1)
def kh (ks:List iL)(s:iL):Bool:=!(decide (ON s∈ks))
def ul (B:List iL):List (Int × Value):=B.map fun s=>(s.1,.int .i64 s.2)
theorem Bz (B:List iL):(ul B).length=B.length:=by simp [ul]
theorem hU (B:List iL)(p:Int):dq (ul B) p=(dq B p).map (.int .i64):=BE (fun z:Int=>Value.int .i64 z) B p
theorem By {B:List iL}(h:dq B p=none):fU (ul B) p (.int .i64 q)=ul (B++[(p,q)]):=by
 rw [jJ (by rw [hU,h];rfl)];simp [ul]
def lR (B:List iL)(f:Int):Prop:=(B=[]/\f=-1)∨(0<=f/\f∈B.map (·.1)/\∀ s∈B,f<=s.1)
def Hm (B:List iL):Int:=B.foldl (fun f s=>if f<0∨s.1<f then s.1 else f) (-1)
theorem pW {B:List iL}(h:lR B f)(s:iL)(b:0<=s.1):lR (B++[s]) (if f<0∨s.1<f then s.1 else f):=by
 right;rcases h with ⟨rfl,rfl⟩ | ⟨h1,h2,h3⟩
 ·rw [aW (.inl dc_)];exact ⟨b,by simp,by simp⟩
 by_cases c:s.1<f
 ·rw [aW (.inr c)];refine ⟨b,by simp,fun t a=>?_⟩;rcases Q6.1 a with a | a
  ·have:=h3 t a;omega
  rw [Rc.1 a];exact Int.le_refl _
 rw [az om_];refine ⟨h1,by rw [Ru];exact Sp _ h2,fun t a=>?_⟩;rcases Q6.1 a with a | a
 ·exact h3 t a
 rw [Rc.1 a];omega
theorem wT {B:List iL}(h:∀ s∈B,0<=s.1):lR B (Hm B):=by
 have c:∀ (a b:List iL)(f:Int),(∀ s∈a,0<=s.1)->lR b f->lR (b++a) (a.foldl (fun f s=>if f<0∨s.1<f then s.1 else f) f):=by
  intro a;induction a with
  | nil=>intro b f _ h;simpa using h
  | cons s a d =>
   intro b f h1 h2;have:=d (b++[s]) _ (fun t e=>h1 t (Q0 _ e)) (pW h2 s (h1 s Qb));simpa using this
 exact c B [] (-1) h (.inl ⟨Z,Z⟩)
theorem yG {B d:List iL}{e:Int}(c:B.Perm d)(h:lR B f)(g:lR d e):f=e:=by
 rcases h with ⟨rfl,rfl⟩ | ⟨h1,h2,h3⟩
 ·rcases g with ⟨_,rfl⟩ | ⟨_,h5,_⟩
  ·rfl
  rw [<- c.nil_eq] at h5;simp at h5
 rcases g with ⟨rfl,_⟩ | ⟨h4,h5,i⟩
 ·rw [c.eq_nil] at h2;simp at h2
 obtain ⟨s,hs,rfl⟩:=QX.1 h2;obtain ⟨t,j,rfl⟩:=QX.1 h5;have a:=h3 t (c.mem_iff.2 j);have b:=i s (c.mem_iff.1 hs);omega
def iM (B:List iL)(first:Int):Nat->Int->List Int->Option (List Int)
 | 0,_,out=>some out
 | k+1,p,out=>match dq B p with
  | none=>none
  | some q=>if p=first/\out≠[] then none else iM B first k q (out++[p])
theorem rH {B a:List iL}(c:B.Perm a)(d:(B.map (·.1)).Nodup)(b:Int):∀ (k:Nat)(p:Int)(out:List Int),iM B b k p out=iM a b k p out
 | 0,_,_=>rfl
 | k+1,p,out=>by
  simp only [iM,wN c d];cases dq a p with
  | none=>rfl
  | some q=>simp only [rH c d b k]
def EF (ks:List iL):Option (List Int) :=
 if ((ks.filter (kh ks)).map (·.1)).Nodup then iM (ks.filter (kh ks)) (Hm (ks.filter (kh ks))) (ks.filter (kh ks)).length (Hm (ks.filter (kh ks))) [] else none
def wE (ks:List iL):List Int:=(EF ks).getD []
theorem Dz {a B:List iL}{s t:iL}(b:(B++[s]).Nodup)(c:∀ x∈B++[s],x∈a.filter (kh a))(d:t∈B)(e:t.1=s.1):EF a=none:=by
 unfold EF;rw [az];intro f;have h1:=c s am;have h2:=c t (by simp [d]);have g:t≠s:=by
  rintro rfl;rw [Sy] at b;exact b.2.2 t d t am Z
 have h3:=fN f (k:=s.1) (v:=s.2) h1;have h4:=fN f (k:=t.1) (v:=t.2) h2;rw [e,h3] at h4;exact g (Prod.ext e (Ss h4).symm)
theorem JL {a B:List iL}(b:B.Perm (a.filter (kh a)))(c:(B.map (·.1)).Nodup)(d:∀ s∈a,0<=s.1)(e:lR B f):EF a=iM B f B.length f []:=by
 unfold EF;rw [aW ((b.map (·.1)).nodup_iff.1 c),<- rH b c,<- b.length_eq,<- yG b e (wT fun s hs=>d s (SV.1 hs).1)]
theorem CQ {B:List iL}(h:dq B p=none∨(p=first/\out≠[])):iM B first (k+1) p out=none:=by
 simp only [iM];rcases h with h | h
 ·rw [h]
 cases dq B p with
 | none=>rfl
 | some q=>simp [h]
theorem CP {B:List iL}(h:dq B p=some q)(a:¬ (p=first/\out≠[])):iM B first (k+1) p out=iM B first k q (out++[p]):=by
 simp only [iM,h];rw [az a]
def fu (ks:List iL)(seen:List Nat):List iL:=(seen.map fun j=>ks.getD j (0,0)).filter (kh ks)
theorem wc {b:Type}{d:b}{a:List b}(c:seen.Nodup)(e:∀ j∈seen,j<a.length)(f:∀ j,j<a.length->j∈seen):(seen.map fun j=>a.getD j d).Perm a:=by
 have g:seen.Perm (List.range a.length):=(List.perm_ext_iff_of_nodup c List.nodup_range).2 (fun j=>by
  rw [Q9];exact ⟨fun h=>e j h,fun h=>f j h⟩)
 refine (g.map _).trans (List.Perm.of_eq ?_);refine List.ext_getElem? (fun i=>?_);rw [QU];rcases Rr i a.length with h | h
 ·rw [Rw h];simp [aj h]
 rw [QY (by simpa using h),QY h];rfl
theorem Dd {a:List iL}{j:Nat}{s:iL}(h:a[j]?=some s):fu a (seen++[j])=fu a seen++if kh a s then [s] else []:=by
 unfold fu;rw [Ru,Si];congr 1;rw [Rs,S4,au,h,List.filter_cons];rfl
theorem Ft {a:List iL}(c:∀ j∈seen,j<a.length):∀ x∈fu a seen,x∈a.filter (kh a):=by
 intro x b;rw [fu,SV] at b;obtain ⟨j,d,rfl⟩:=QX.1 b.1;rw [SV];refine ⟨?_,b.2⟩;rw [au,aj (c j d)];exact RP _
theorem yn {c:List iL}(f:c.Nodup):∀ {seen:List Nat},seen.Nodup->(∀ j∈seen,j<c.length)->(fu c seen).Nodup:=by
 intro seen g d;unfold fu;refine List.Pairwise.filter _ ?_;rw [List.pairwise_map];refine List.Pairwise.imp_of_mem ?_ g;intro a b h i k e;rw [au,au,aj (d a h),aj (d b i)] at e;exact k ((List.getElem_inj f).1 e)
theorem PtrTo.blockT {e:Nat × Nat}(h:C b=some (.cells ⟨cs⟩ t e))(d n:Nat):PtrTo C (.pointer (some ⟨b,d,none⟩)) ((cs.drop d).take n) :=
 let ⟨a,h1,h2,h3⟩:=PtrTo.block h d
 ⟨a,h1,h2,fun j v c=>h3 j v (by
  rw [Rx] at c;split at c
  ·exact c
  cases c)⟩
theorem bkT {D:Mem}{c:Nat × Nat}(h:C b=some (.cells ⟨cs⟩ t c))(n:Nat){a:Nat}(d:C.le D:=by (repeat (first | exact Mem.le.refl _ | assumption | (apply Mem.le.trans;rotate_left;assumption)))):PtrTo D (.pointer (some ⟨b,a,none⟩)) ((cs.drop a).take n):=PtrTo.blockT (Mem.get h d) a n
theorem pQ (z:Value)(o:Option Value):kN z true o=.tuple #[o.getD z,.bool o.isSome]:=by cases o <;> rfl
section
variable {F:Fx} {k:List KI} {fr:Fr} {C:Mem} {L:List Ent}
theorem Xp {e:Exit}{v:Value}{t b a:Nat}{d:List Value}(i:Ent.arr v t b a d∈L)(h:∀ A c,v=.slice A a c->d.length=a*b->a<=c->c<=maxLen->G F k e fr C L):G F k e fr C L :=
 G.form i fun j f=>by
  rcases j with ⟨h1,h2⟩ | ⟨g,c,h1,h2,h3⟩
  ·exact h none 0 (by rw [h1,h2]) f om_ (QT _)
  exact h _ c h1 f h2 h3
end
end Go.Jog
namespace Go.Jog.Lp
variable {N i j:Nat}{os:List Nat}{r s v:Nat}{x:Nat->Rat}
def sumN (g:Nat->Rat):Nat->Rat
 | 0=>0
 | n+1=>sumN g n+g n
theorem aO {g h:Nat->Rat}:∀ {n:Nat},(∀ j,j<n->g j=h j)->sumN g n=sumN h n
 | 0,_=>rfl
 | n+1,e=>by rw [sumN,sumN,aO fun j a=>e j om_,e n om_]
theorem dv (g h:Nat->Rat):∀ n:Nat,sumN (fun j=>g j+h j) n=sumN g n+sumN h n
 | 0=>by simp only [sumN];grind
 | n+1=>by simp only [sumN];rw [dv g h n];grind
theorem cT (k:Rat)(g:Nat->Rat):∀ n:Nat,sumN (fun j=>k*g j) n=k*sumN g n
 | 0=>by simp only [sumN];grind
 | n+1=>by simp only [sumN];rw [cT k g n];grind
theorem ci:∀ {g:Nat->Rat}{n:Nat},(∀ j,j<n->g j=0)->sumN g n=0
 | _,0,_=>rfl
 | g,n+1,e=>by rw [sumN,ci fun j a=>e j om_,e n om_];grind
theorem gU {g:Nat->Rat}{a:Nat}:∀ {n:Nat},a<n->sumN g n=g a+sumN (fun j=>if j=a then 0 else g j) n
 | n+1,h=>by
  rcases Rr a n with h1 | h1
  ·rw [sumN,gU h1,sumN,az om_];grind
  have e:a=n:=by omega
  subst e;rw [sumN,sumN,aW rfl,aO (h:=g) fun j b=>az om_];grind
theorem yf:∀ {g:Nat->Rat}{n:Nat},(∀ j,j<n->g j<=0)->sumN g n<=0
 | _,0,_=>by simp only [sumN];grind
 | g,n+1,e=>by
  have h1:=yf (g:=g) (n:=n) fun j a=>e j om_;have h2:=e n om_;rw [sumN];grind
theorem E8:∀ {g:Nat->Rat}{n:Nat},(∀ j,j<n->0<=g j)->0<=sumN g n
 | _,0,_=>by simp only [sumN];grind
 | g,n+1,e=>by
  have h1:=E8 (g:=g) (n:=n) fun j a=>e j om_;have h2:=e n om_;rw [sumN];grind
structure Line where
 c:Rat
 f:List Rat
def Line.g (l:Line)(j:Nat):Rat:=l.f.getD j 0
structure Tab where
 basic:List Nat
 lines:List Line
 others:List Nat
 worth:Line
def Tab.line (t:Tab)(i:Nat):Line:=t.lines.getD i ⟨0,[]⟩
def Tab.bas (t:Tab)(i:Nat):Nat:=t.basic.getD i 0
def Tab.oth (t:Tab)(j:Nat):Nat:=t.others.getD j 0
def lv (l:Line)(os:List Nat)(x:Nat->Rat):Rat:=l.c+sumN (fun j=>l.g j*x (os.getD j 0)) os.length
structure Tab.Ok (t:Tab)(N:Nat):Prop where
 ll:t.lines.length=t.basic.length
 fl:∀ l∈t.lines,l.f.length=t.others.length
 wl:t.worth.f.length=t.others.length
 nd:(t.basic++t.others).Nodup
 lt:∀ v∈t.basic++t.others,v<N
def Tab.Sol (t:Tab)(x:Nat->Rat):Prop:=∀ i,i<t.basic.length->x (t.bas i)=lv (t.line i) t.others x
def Tab.W (t:Tab)(x:Nat->Rat):Rat:=lv t.worth t.others x
def putL (l:Line)(s:Nat)(b:Line):Line:=⟨l.c+l.g s*b.c,(List.range l.f.length).map fun j=>(if j=s then 0 else l.g j)+l.g s*b.g j⟩
def byL (l:Line)(s:Nat):Line:=⟨-l.c / l.g s,(List.range l.f.length).map fun j=>if j=s then 1 / l.g s else -l.g j / l.g s⟩
def Tab.pivot (t:Tab)(r s:Nat):Tab :=
 { basic:=t.basic.set r (t.oth s),others:=t.others.set s (t.bas r),lines:=(List.range t.lines.length).map fun i=>if i=r then byL (t.line r) s else putL (t.line i) s (byL (t.line r) s),worth:=putL t.worth s (byL (t.line r) s) }
theorem eW {f:Nat->Rat}{n:Nat}(h:j<n):((List.range n).map f).getD j 0=f j:=by
 rw [au,QU,Rw h];rfl
theorem FT {l b:Line}(h:j<l.f.length):(putL l s b).g j=(if j=s then 0 else l.g j)+l.g s*b.g j:=eW h
theorem byL_g {l:Line}(h:j<l.f.length):(byL l s).g j=if j=s then 1 / l.g s else -l.g j / l.g s:=eW h
theorem oZ {l:List Nat}(h:s<l.length):(l.set s v).getD j 0=if j=s then v else l.getD j 0:=by
 rw [au,au,List.getElem?_set];by_cases e:s=j
 ·subst e;rw [aW rfl,aW h,aW rfl];rfl
 rw [az e,az (Ne.symm e)]
theorem DE {l:Line}(a:s<os.length):lv l os x=l.c+(l.g s*x (os.getD s 0)+sumN (fun j=>if j=s then 0 else l.g j*x (os.getD j 0)) os.length):=by
 unfold lv;rw [gU a]
theorem GF {l b:Line}(a:s<os.length)(d:l.f.length=os.length) :
  lv (putL l s b) (os.set s v) x=l.c+(l.g s*lv b (os.set s v) x+sumN (fun j=>if j=s then 0 else l.g j*x (os.getD j 0)) os.length):=by
 unfold lv;rw [RK];have e:sumN (fun j=>(putL l s b).g j*x ((os.set s v).getD j 0)) os.length=sumN (fun j=>l.g s*(b.g j*x ((os.set s v).getD j 0))+(if j=s then 0 else l.g j*x (os.getD j 0))) os.length:=aO fun j i=>by
  rw [FT om_,oZ a];by_cases h:j=s
  ·rw [aW h,aW h,aW h];grind
  rw [az h,az h,az h];grind
 rw [e,dv,cT];show l.c+l.g s*b.c+_=_;grind
theorem Ps {l:Line}(a:s<os.length)(d:l.f.length=os.length)(b:l.g s≠0) :
  (x v=lv l os x ↔ x (os.getD s 0)=lv (byL l s) (os.set s v) x):=by
 have h2:lv (byL l s) (os.set s v) x=-l.c / l.g s+(1 / l.g s*x v + -1 / l.g s*sumN (fun j=>if j=s then 0 else l.g j*x (os.getD j 0)) os.length):=by
  rw [DE (by rw [RK];exact a),RK,byL_g om_,aW rfl,oZ a,aW rfl,<- cT];have e:sumN (fun j=>if j=s then 0 else (byL l s).g j*x ((os.set s v).getD j 0)) os.length=sumN (fun j=>-1 / l.g s*if j=s then 0 else l.g j*x (os.getD j 0)) os.length:=aO fun j i=>by
   by_cases h:j=s
   ·rw [aW h,aW h];grind
   rw [az h,az h,byL_g om_,az h,oZ a,az h];grind
  rw [e];rfl
 rw [h2,DE a];generalize sumN (fun j=>if j=s then 0 else l.g j*x (os.getD j 0)) os.length=S;generalize l.g s=k at b;constructor <;> intro h <;> grind
theorem line_mem {t:Tab}(h:t.Ok N)(a:i<t.basic.length):t.line i∈t.lines:=by
 unfold Tab.line;rw [au,aj (by rw [h.ll];exact a)];exact RP _
theorem pivot_line {t:Tab}(a:i<t.lines.length):(t.pivot r s).line i=if i=r then byL (t.line r) s else putL (t.line i) s (byL (t.line r) s):=by
 unfold Tab.line Tab.pivot;rw [au,QU,Rw a];rfl
theorem wC {t:Tab}(h:t.Ok N)(b:r<t.basic.length)(c:s<t.others.length)(l:(t.line r).g s≠0):(t.pivot r s).Sol x ↔ t.Sol x:=by
 have m:=h.fl _ (line_mem h b);have k:=Ps (x:=x) (v:=t.bas r) c m l;have d:∀ i,(t.pivot r s).bas i=if i=r then t.oth s else t.bas i:=fun i=>oZ b;have f:(t.pivot r s).others=t.others.set s (t.bas r):=rfl;have j:(t.pivot r s).basic.length=t.basic.length:=RK;constructor
 ·intro hS i a;have h0:=hS r (by rw [j];exact b);rw [d,aW rfl,pivot_line (by rw [h.ll];exact b),aW rfl,f] at h0;by_cases e:i=r
  ·subst e;exact k.2 h0
  have h1:=hS i (by rw [j];exact a);rw [d,az e,pivot_line (by rw [h.ll];exact a),az e,f,GF c (h.fl _ (line_mem h a)),<- h0] at h1;rw [h1,DE c];rfl
 intro hS i a;rw [j] at a;have h0:=k.1 (hS r b);rw [d,pivot_line (by rw [h.ll];exact a),f];by_cases e:i=r
 ·rw [aW e,aW e];exact h0
 rw [az e,az e,GF c (h.fl _ (line_mem h a)),<- h0,hS i a,DE c]
theorem F3 {t:Tab}(h:t.Ok N)(b:r<t.basic.length)(a:s<t.others.length)(c:(t.line r).g s≠0)(d:t.Sol x):(t.pivot r s).W x=t.W x:=by
 have e:=h.fl _ (line_mem h b);have h0:=(Ps (x:=x) (v:=t.bas r) a e c).1 (d r b);show lv (putL t.worth s (byL (t.line r) s)) (t.others.set s (t.bas r)) x=_;rw [GF a h.wl,<- h0];unfold Tab.W;rw [DE a]
theorem Ji {a b:List Nat}(c:r<a.length)(d:s<b.length):(a.set r (b.getD s 0)++b.set s (a.getD r 0)).Perm (a++b):=by
 have e:∀ {l:List Nat}{i:Nat}(_:i<l.length)(v:Nat),(v::l).Perm (l.getD i 0::l.set i v):=by
  intro l;induction l with
  | nil=>intro i h;exact absurd h (Nat.not_lt_zero _)
  | cons y l f =>
   intro i h v;cases i with
   | zero=>exact List.Perm.swap _ _ _
   | succ i =>
    have h1:=f (i:=i) (by simpa using h) v;show (v::y::l).Perm (l.getD i 0::y::l.set i v);exact (List.Perm.swap _ _ _).trans ((h1.cons y).trans (List.Perm.swap _ _ _))
 have h1:=e c (b.getD s 0);have h2:=e d (a.getD r 0);have h3:(b.getD s 0::a.getD r 0::(a++b)).Perm (a.getD r 0::b.getD s 0::(a.set r (b.getD s 0)++b.set s (a.getD r 0))):=by
  have g:(b.getD s 0::a.getD r 0::(a++b)).Perm ((b.getD s 0::a)++(a.getD r 0::b)):=by
   refine List.Perm.cons _ ?_;exact List.perm_middle.symm
  have j:=h1.append h2;have k:((a.getD r 0::a.set r (b.getD s 0))++(b.getD s 0::b.set s (a.getD r 0))).Perm (a.getD r 0::b.getD s 0::(a.set r (b.getD s 0)++b.set s (a.getD r 0))):=by
   refine List.Perm.cons _ ?_;exact List.perm_middle
  exact g.trans (j.trans k)
 exact ((h3.trans (List.Perm.swap _ _ _)).cons_inv.cons_inv).symm
theorem Bo {t:Tab}(h:t.Ok N)(a:r<t.basic.length)(d:s<t.others.length):(t.pivot r s).Ok N:=by
 have b:((t.pivot r s).basic++(t.pivot r s).others).Perm (t.basic++t.others):=Ji a d;refine ⟨?_, ?_, ?_,(List.Perm.nodup_iff b).2 h.nd,fun v e=>h.lt v (b.mem_iff.1 e)⟩
 ·show ((List.range t.lines.length).map _).length=(t.basic.set _ _).length;rw [al,RL,RK,h.ll]
 ·intro l f;obtain ⟨i,c,rfl⟩:=QX.1 f;rw [Q9] at c;show _=(t.others.set _ _).length;rw [RK];split
  ·show ((List.range _).map _).length=_;rw [al,RL];exact h.fl _ (line_mem h a)
  show ((List.range _).map _).length=_;rw [al,RL];exact h.fl _ (line_mem h (by rw [<- h.ll];exact c))
 show ((List.range _).map _).length=(t.others.set _ _).length;rw [al,RL,RK,h.wl]
end Go.Jog.Lp
namespace Go.Jog.Lp
theorem cU:∀ {l:List Nat}{i:Nat},l.Nodup->i<l.length->l.idxOf (l.getD i 0)=i
 | x::l,0,_,_=>by simp []
 | x::l,i+1,c,d=>by
  have a:=TV.1 c;have b:i<l.length:=by simpa using d
  have hm:l.getD i 0∈l:=by
   rw [au,aj b];exact RP _
  show (x::l).idxOf (l.getD i 0)=i+1;rw [List.idxOf_cons];have e:(x == l.getD i 0)=false:=by
   rw [RT];rintro rfl;exact a.1 hm
  rw [e,cU a.2 b];rfl
theorem im {l:List Nat}{i:Nat}(h:i<l.length):l.getD i 0∈l:=by
 rw [au,aj h];exact RP _
theorem dw {l:List Nat}{v:Nat}(h:v∈l):∃ i,i<l.length/\l.getD i 0=v:=by
 obtain ⟨i,a,e⟩:=List.getElem_of_mem h;exact ⟨i,a,by rw [au,aj a,e];rfl⟩
section
variable {t:Tab} {N:Nat}
theorem Tab.Ok.nb (h:t.Ok N):t.basic.Nodup:=(Sy.1 h.nd).1
theorem Tab.Ok.no (h:t.Ok N):t.others.Nodup:=(Sy.1 h.nd).2.1
theorem Tab.Ok.dj (h:t.Ok N){v:Nat}(a:v∈t.basic)(b:v∈t.others):False:=(Sy.1 h.nd).2.2 v a v b rfl
theorem bas_mem {i:Nat}(h:i<t.basic.length):t.bas i∈t.basic:=im h
theorem oth_mem {j:Nat}(h:j<t.others.length):t.oth j∈t.others:=im h
def Tab.ext (t:Tab)(y:Nat->Rat)(v:Nat):Rat:=if v∈t.basic then lv (t.line (t.basic.idxOf v)) t.others y else y v
theorem uG (_b:t.Ok N){y:Nat->Rat}{v:Nat}(a:v ∉ t.basic):t.ext y v=y v:=az a
theorem uH (h:t.Ok N){y:Nat->Rat}{i:Nat}(a:i<t.basic.length):t.ext y (t.bas i)=lv (t.line i) t.others y:=by
 unfold Tab.ext;rw [aW (bas_mem a)];unfold Tab.bas;rw [cU h.nb a]
theorem wQ (h:t.Ok N){y:Nat->Rat}(l:Line):lv l t.others (t.ext y)=lv l t.others y:=by
 unfold lv;congr 1;exact aO fun j a=>by rw [show t.ext y (t.others.getD j 0)=y (t.others.getD j 0) from uG h (fun b=>h.dj b (oth_mem a))]
theorem nf (h:t.Ok N)(y:Nat->Rat):t.Sol (t.ext y):=fun i a=>by rw [uH h a,wQ h]
theorem GE (l:Line)(a:List Nat):lv l a (fun _=>0)=l.c:=by
 unfold lv;rw [ci fun j _=>by grind];grind
def Tab.sol (t:Tab):Nat->Rat:=t.ext fun _=>0
theorem sol_bas (h:t.Ok N){i:Nat}(a:i<t.basic.length):t.sol (t.bas i)=(t.line i).c:=by
 unfold Tab.sol;rw [uH h a,GE]
theorem sol_oth (h:t.Ok N){v:Nat}(a:v ∉ t.basic):t.sol v=0:=by unfold Tab.sol;rw [uG h a]
theorem eM (h:t.Ok N):t.Sol t.sol:=nf h _
theorem CY (h:t.Ok N):t.W t.sol=t.worth.c:=by
 unfold Tab.W Tab.sol;rw [wQ h,GE]
theorem Gy {r s v:Nat}(h:t.Ok N)(d:r<t.basic.length)(_n:s<t.others.length):v∈(t.pivot r s).basic ↔ v=t.oth s∨v∈t.basic/\v≠t.bas r:=by
 have f:∀ i,(t.pivot r s).bas i=if i=r then t.oth s else t.bas i:=fun i=>oZ d;have g:(t.pivot r s).basic.length=t.basic.length:=RK;constructor
 ·intro j;obtain ⟨i,b,e⟩:=dw j;rw [g] at b;have a:(t.pivot r s).bas i=v:=e;rw [f] at a;by_cases c:i=r
  ·rw [aW c] at a;exact .inl a.symm
  rw [az c] at a;refine .inr ⟨by rw [<- a];exact bas_mem b,fun k=>c ?_⟩;have h1:=cU h.nb b;have h2:=cU h.nb d;have l:t.basic.getD i 0=t.basic.getD r 0:=by rw [show t.basic.getD i 0=v from a];exact k
  rw [l,h2] at h1;exact h1.symm
 rintro (rfl | ⟨j,m⟩)
 ·have:=bas_mem (t:=t.pivot r s) (i:=r) (by rw [g];exact d);rw [f,aW rfl] at this;exact this
 obtain ⟨i,b,e⟩:=dw j;have c:i≠r:=by rintro rfl;exact m e.symm
 have:=bas_mem (t:=t.pivot r s) (i:=i) (by rw [g];exact b);rw [f,az c] at this;rw [<- e];exact this
end
structure Way (F N:Nat)(T:Nat->Tab)(R S:Nat->Nat)(K:Nat):Prop where
 ok:(T 0).Ok N
 st:∀ k,k<K->T (k+1)=(T k).pivot (R k) (S k)
 r:∀ k,k<K->R k<(T k).basic.length
 s:∀ k,k<K->S k<(T k).others.length
 ne:∀ k,k<K->((T k).line (R k)).g (S k)≠0
 rs:∀ k,k<K->F<=(T k).bas (R k)
 ss:∀ k,k<K->F<=(T k).oth (S k)
section
variable {F N K:Nat} {T:Nat->Tab} {R S:Nat->Nat}
theorem Way.oks (h:Way F N T R S K):∀ k,k<=K->(T k).Ok N
 | 0,_=>h.ok
 | k+1,a=>by
  rw [h.st k a];exact Bo (h.oks k om_) (h.r k a) (h.s k a)
theorem Way.sol1 (h:Way F N T R S K){x:Nat->Rat}:∀ k,k<=K->((T k).Sol x ↔ (T 0).Sol x)
 | 0,_=>Iff.rfl
 | k+1,a=>by
  rw [h.st k a,wC (h.oks k om_) (h.r k a) (h.s k a) (h.ne k a)];exact h.sol1 k om_
theorem Way.sols (h:Way F N T R S K){x:Nat->Rat}{k l:Nat}(a:k<=K)(b:l<=K):(T k).Sol x ↔ (T l).Sol x:=(h.sol1 k a).trans (h.sol1 l b).symm
theorem Way.w1 (h:Way F N T R S K){x:Nat->Rat}(b:(T 0).Sol x):∀ k,k<=K->(T k).W x=(T 0).W x
 | 0,_=>rfl
 | k+1,a=>by
  rw [h.st k a,F3 (h.oks k om_) (h.r k a) (h.s k a) (h.ne k a) ((h.sol1 k om_).2 b)];exact h.w1 b k om_
theorem Way.ws (h:Way F N T R S K){x:Nat->Rat}{k l:Nat}(a:k<=K)(b:l<=K)(c:(T k).Sol x):(T k).W x=(T l).W x :=
 have h0:=(h.sol1 k a).1 c
 (h.w1 h0 k a).trans (h.w1 h0 l b).symm
def Il (T:Nat->Tab)(R S:Nat->Nat)(a b v:Nat):Prop:=∃ k,a<=k/\k<b/\((T k).bas (R k)=v∨(T k).oth (S k)=v)
theorem Way.step (h:Way F N T R S K){k v:Nat}(a:k<K):v∈(T (k+1)).basic ↔ v=(T k).oth (S k)∨v∈(T k).basic/\v≠(T k).bas (R k):=by
 rw [h.st k a];exact Gy (h.oks k om_) (h.r k a) (h.s k a)
theorem Way.still (h:Way F N T R S K){a b v:Nat}(f:b<=K)(c:¬ Il T R S a b v):∀ k,a<=k->k<=b->(v∈(T k).basic ↔ v∈(T a).basic):=by
 intro k g;induction k with
 | zero=>intro _;rw [show a=0 by omega]
 | succ k d =>
  intro i;rcases Rr k a with h1 | h1
  ·rw [show a=k+1 by omega]
  rw [h.step om_,<- d h1 om_];constructor
  ·rintro (rfl | ⟨h2,_⟩)
   ·exact absurd ⟨k,h1,by omega,.inr Z⟩ c
   exact h2
  intro h2;exact .inr ⟨h2,fun e=>c ⟨k,h1,by omega,.inl e.symm⟩⟩
theorem Way.leaves (h:Way F N T R S K){a b v:Nat}(o:b<=K)(j:v∈(T a).basic ↔ v∈(T b).basic)(m:Il T R S a b v):∃ k,a<=k/\k<b/\(T k).bas (R k)=v:=by
 apply Rq;intro f;obtain ⟨k,h1,h2,h3 | h3⟩:=m
 ·exact f ⟨k,h1,h2,h3⟩
 have up:∀ l,k+1<=l->l<=b->v∈(T l).basic:=by
  intro l;induction l with
  | zero=>intro h4;omega
  | succ l g =>
   intro h4 h5;rw [h.step om_];rcases Rr l (k+1) with c | c
   ·rw [show l=k by omega];exact .inl h3.symm
   exact .inr ⟨g c om_,fun e=>f ⟨l,by omega,by omega,e.symm⟩⟩
 have d:=j.2 (up b om_ (QO _));have n:∀ l,a<=l->l<=k->v∈(T l).basic:=by
  intro l;induction l with
  | zero=>intro h4 _;rw [show a=0 by omega] at d;exact d
  | succ l g =>
   intro h4 h5;rcases Rr l a with c | c
   ·rw [show a=l+1 by omega] at d;exact d
   rw [h.step om_];exact .inr ⟨g c om_,fun e=>f ⟨l,by omega,by omega,e.symm⟩⟩
 have i:=n k h1 (QO _);rw [<- h3] at i;exact (h.oks k om_).dj i (oth_mem (h.s k om_))
theorem Way.enters (h:Way F N T R S K){a b v:Nat}(p:b<=K)(j:v∈(T a).basic ↔ v∈(T b).basic)(m:Il T R S a b v):∃ k,a<=k/\k<b/\(T k).oth (S k)=v:=by
 apply Rq;intro f;obtain ⟨k,h1,h2,h3 | h3⟩:=m
 ·have up:∀ l,k+1<=l->l<=b->v ∉ (T l).basic:=by
   intro l;induction l with
   | zero=>intro h4;omega
   | succ l g =>
    intro h4 h5 hm;rcases (h.step om_).1 hm with e | ⟨e,n⟩
    ·exact f ⟨l,by omega,by omega,e.symm⟩
    rcases Rr l (k+1) with c | c
    ·have:l=k:=by omega
     subst this;exact n h3.symm
    exact g c om_ e
  have d:v ∉ (T a).basic:=fun hm=>up b om_ (QO _) (j.1 hm);have o:∀ l,a<=l->l<=k->v ∉ (T l).basic:=by
   intro l;induction l with
   | zero=>intro h4 _;rw [show a=0 by omega] at d;exact d
   | succ l g =>
    intro h4 h5 hm;rcases Rr l a with c | c
    ·rw [show a=l+1 by omega] at d;exact d hm
    rcases (h.step om_).1 hm with e | ⟨e,_⟩
    ·exact f ⟨l,by omega,by omega,e.symm⟩
    exact g c om_ e
  have i:=o k h1 (QO _);rw [<- h3] at i;exact i (bas_mem (h.r k om_))
 exact f ⟨k,h1,h2,h3⟩
theorem Way.fick_slack (h:Way F N T R S K){a b v:Nat}(d:b<=K)(c:Il T R S a b v):F<=v/\v<N:=by
 obtain ⟨k,h1,h2,h3 | h3⟩:=c
 ·rw [<- h3];exact ⟨h.rs k om_,(h.oks k om_).lt _ (Sp _ (bas_mem (h.r k om_)))⟩
 rw [<- h3];exact ⟨h.ss k om_,(h.oks k om_).lt _ (SN _ (oth_mem (h.s k om_)))⟩
theorem GA {p:Nat->Prop}:∀ N:Nat,(∀ v,p v->v<N)->(∃ v,p v)->∃ t,p t/\∀ u,p u->u<=t
 | 0,a,⟨v,b⟩=>absurd (a v b) (Nat.not_lt_zero _)
 | N+1,a,d=>by
  by_cases c:p N
  ·exact ⟨N,c,fun u e=>by have:=a u e;omega⟩
  exact GA N (fun v b=>by
   have:=a v b;rcases Rr v N with h1 | h1
   ·exact h1
   exact absurd (show p N by rwa [show N=v by omega]) c) d
theorem Way.moved (h:Way F N T R S K){a b k l v:Nat}(c:b<=K)(e:a<=k)(f:k<=b)(g:a<=l)(i:l<=b)(j:v∈(T k).basic)(m:v ∉ (T l).basic):Il T R S a b v:=by
 apply Rq;intro d;exact m (((h.still c d k e f).trans (h.still c d l g i).symm).1 j)
theorem Way.feas (h:Way F N T R S K)
  (q:∀ k,k<K->((T k).line (R k)).c<0/\∀ i,i<(T k).basic.length->F<=(T k).bas i->((T k).line i).c<0->(T k).bas (R k)<=(T k).bas i)
  (B:∀ k,k<K->0<((T k).line (R k)).g (S k)/\∀ j,j<(T k).others.length->F<=(T k).oth j->0<((T k).line (R k)).g j->(T k).oth (S k)<=(T k).oth j)
  {a b:Nat} (P:a<b) (d:b<=K):¬ ∀ v,v∈(T a).basic ↔ v∈(T b).basic:=by
 intro hs;obtain ⟨t,C,D⟩:=GA (p:=Il T R S a b) N (fun v Q=>(h.fick_slack d Q).2) ⟨_,a,QO _,P,.inl rfl⟩;obtain ⟨k,k1,k2,E⟩:=h.leaves d (hs t) C;obtain ⟨l,l1,l2,w⟩:=h.enters d (hs t) C;have f:=h.oks k om_;have n:=h.oks l om_;have G:=h.r l om_;have H:=h.s l om_
 -- basic fickle slacks of the first one are not below 0,but t
 have pos:∀ u,Il T R S a b u->u≠t->0<=(T k).sol u:=by
  intro u I U;by_cases m:u∈(T k).basic
  ·obtain ⟨i,J,e⟩:=dw m;have y:(T k).bas i=u:=e;rw [<- y,sol_bas f J];apply Rq;intro L;have:=(q k om_).2 i J (by rw [y];exact (h.fick_slack d I).1) (by grind);rw [E,y] at this;exact U (Nat.le_antisymm (D u I) this)
  rw [sol_oth f m];exact Rat.le_refl
 have L:(T k).sol t<0:=by
  rw [<- E,sol_bas f (h.r k om_)];exact (q k om_).1
 have V:=(h.sols (x:=(T k).sol) om_ om_).1 (eM f) (R l) G;have W:(T l).bas (R l)≠t:=by
  intro e;have:=bas_mem G;rw [e,<- w] at this;exact n.dj this (oth_mem H)
 have M:=pos _ ⟨l,l1,l2,.inl rfl⟩ W;rw [V] at M;have hc:=(q l om_).1;have aa:sumN (fun j=>((T l).line (R l)).g j*(T k).sol ((T l).others.getD j 0)) (T l).others.length<=0:=by
  refine yf fun j z=>?_;show ((T l).line (R l)).g j*(T k).sol ((T l).oth j)<=0;by_cases o:(T l).oth j=t
  ·have X:0<((T l).line (R l)).g j:=by
    have e:j=S l:=by
     have O:=cU n.no z;have Y:=cU n.no H;have Z:(T l).others.getD j 0=(T l).others.getD (S l) 0:=o.trans w.symm;rw [Z,Y] at O;exact O.symm
    rw [e];exact (B l om_).1
   rw [o];have:=Rat.mul_lt_mul_of_pos_left L X;grind
  by_cases m:(T l).oth j∈(T k).basic
  ·have A:=h.moved d k1 om_ l1 om_ m (fun hm=>n.dj hm (oth_mem z));have hx:=pos _ A o;have hg:((T l).line (R l)).g j<=0:=by
    apply Rq;intro ab;have:=(B l om_).2 j z (h.fick_slack d A).1 (by grind);rw [w] at this;exact o (Nat.le_antisymm (D _ A) this)
   have:=Rat.mul_nonneg (show 0<=-((T l).line (R l)).g j by grind) hx;grind
  rw [sol_oth f m];grind
 unfold lv at M;grind
end
end Go.Jog.Lp
namespace Go.Jog.Lp
section
variable {t:Tab} {N:Nat}
theorem GG {l:Line}{a:List Nat}{x:Nat->Rat}(h:∀ j,j<a.length->x (a.getD j 0)=0):lv l a x=l.c:=by
 unfold lv;rw [ci fun j b=>by rw [h j b];grind];grind
theorem AJ (h:t.Ok N){x:Nat->Rat}(d:t.Sol x)(b:∀ v,v ∉ t.basic->x v=0):∀ v,x v=t.sol v:=by
 intro v;by_cases a:v∈t.basic
 ·obtain ⟨i,c,e⟩:=dw a;have f:t.bas i=v:=e;rw [<- f,sol_bas h c,d i c,GG fun j g=>b _ (fun k=>h.dj k (oth_mem g))]
 rw [b v a,sol_oth h a]
theorem PP (h:t.Ok N){x:Nat->Rat}(a:∀ v,v ∉ t.basic->x v=0):t.W x=t.worth.c:=GG fun _e b=>a _ (fun d=>h.dj d (oth_mem b))
def dx (s:Nat)(v:Nat):Rat:=if v=s then 1 else 0
theorem pN (h:t.Ok N){l:Line}{s:Nat}(a:s<t.others.length):lv l t.others (dx (t.oth s))=l.c+l.g s:=by
 rw [DE a,ci fun j b=>?_]
 ·show l.c+(l.g s*dx (t.oth s) (t.oth s)+0)=_;unfold dx;rw [aW rfl];grind
 by_cases e:j=s
 ·rw [aW e]
 rw [az e];unfold dx;rw [az,Rat.mul_zero];intro d;have h1:=cU h.no b;rw [show t.others.getD j 0=t.others.getD s 0 from d,cU h.no a] at h1;exact e h1.symm
end
section
variable {F N K:Nat} {T:Nat->Tab} {R S:Nat->Nat}
theorem Way.mini (h:Way F N T R S K)
  (y:∀ k,k<K->(T k).worth.g (S k)<0/\∀ j,j<(T k).others.length->F<=(T k).oth j->(T k).worth.g j<0->(T k).oth (S k)<=(T k).oth j)
  (G:∀ k,k<K->((T k).line (R k)).g (S k)<0/\∀ i,i<(T k).basic.length->F<=(T k).bas i->((T k).line i).g (S k)<0->((T k).line (R k)).c=0->((T k).line i).c=0->(T k).bas (R k)<=(T k).bas i)
  (h3:∀ k,k<K->∀ i,i<(T k).basic.length->F<=(T k).bas i->0<=((T k).line i).c)
  {a b:Nat} (ae:a<b) (n:b<=K):¬ ∀ v,v∈(T a).basic ↔ v∈(T b).basic:=by
 intro hs
 -- the worth of the basic solutions
 have P:∀ k,k<K->(T (k+1)).worth.c=(T k).worth.c+(T k).worth.g (S k)*(-((T k).line (R k)).c / ((T k).line (R k)).g (S k)):=fun k f=>by
  rw [h.st k f];rfl
 have Q:∀ k,k<K->0<=-((T k).line (R k)).c / ((T k).line (R k)).g (S k)/\(-((T k).line (R k)).c / ((T k).line (R k)).g (S k)=0->((T k).line (R k)).c=0):=fun k f=>by
  have U:=h3 k f (R k) (h.r k f) (h.rs k f);have hg:=(G k f).1;generalize ((T k).line (R k)).c=c at U;generalize ((T k).line (R k)).g (S k)=g at hg;have e:-c / g=c*(-g)⁻¹:=by grind
  have hp:0<(-g)⁻¹:=Rat.inv_pos.2 (by grind);refine ⟨by rw [e];exact Rat.mul_nonneg U (by grind),fun h0=>?_⟩;grind
 have V:∀ k,k<K->(T (k+1)).worth.c<=(T k).worth.c:=fun k f=>by
  rw [P k f];have:=Rat.mul_nonneg (show 0<=-(T k).worth.g (S k) by have:=(y k f).1;grind) (Q k f).1;grind
 have X:∀ d k,k+d<=K->(T (k+d)).worth.c<=(T k).worth.c:=by
  intro d;induction d with
  | zero=>intro k _;exact Rat.le_refl
  | succ d H =>
   intro k f;exact Rat.le_trans (V (k+d) om_) (H k om_)
 have I:=h.oks a om_;have af:=h.oks b n;have au:(T a).worth.c=(T b).worth.c:=by
  rw [<- CY I,h.ws om_ n (eM I)];exact PP af fun v z=>sol_oth I (fun hm=>z ((hs v).1 hm))
 have Y:∀ k,a<=k->k<b->((T k).line (R k)).c=0:=by
  intro k k1 k2;have o:=X (k-a) a om_;rw [show a+(k-a)=k by omega] at o;have q:=X (b-(k+1)) (k+1) om_;rw [show k+1+(b-(k+1))=b by omega] at q;have e3:=P k om_;have e4:=V k om_;have e5:(T k).worth.g (S k)*(-((T k).line (R k)).c / ((T k).line (R k)).g (S k))=0:=by grind
  refine (Q k om_).2 ?_;rcases Rat.mul_eq_zero.1 e5 with J | J
  ·have:=(y k om_).1;rw [J] at this;exact absurd this dc_
  exact J
 have Z:∀ k,a<=k->k<=b->∀ v,(T k).sol v=(T a).sol v:=by
  intro k;induction k with
  | zero=>intro k1 _ v;rw [show a=0 by omega]
  | succ k H =>
   intro k1 k2 v;rcases Rr k a with h5 | h5
   ·rw [show a=k+1 by omega]
   rw [<- H h5 om_ v];symm;refine AJ (h.oks (k+1) om_) ((h.sols om_ om_).1 (eM (h.oks k om_))) (fun w A=>?_) v;by_cases aa:w∈(T k).basic
   ·have e:w=(T k).bas (R k):=by
     apply Rq;intro L;exact A ((h.step om_).2 (.inr ⟨aa,L⟩))
    rw [e,sol_bas (h.oks k om_) (h.r k om_),Y k h5 om_]
   exact sol_oth (h.oks k om_) aa
 have ag:∀ v,Il T R S a b v->∀ k,a<=k->k<=b->(T k).sol v=0:=by
  intro v z k k1 k2;obtain ⟨l,l1,l2,e⟩:=h.enters n (hs v) z;rw [Z k k1 k2 v,<- Z l l1 om_ v];exact sol_oth (h.oks l om_) (fun hm=>(h.oks l om_).dj hm (by rw [<- e];exact oth_mem (h.s l om_)))
 obtain ⟨t,ht,ab⟩:=GA (p:=Il T R S a b) N (fun v z=>(h.fick_slack n z).2) ⟨_,a,QO _,ae,.inl rfl⟩;obtain ⟨k,k1,k2,f⟩:=h.leaves n (hs t) ht;obtain ⟨l,l1,l2,hl⟩:=h.enters n (hs t) ht;have m:=h.oks k om_;have M:=h.oks l om_;have ac:=h.r k om_;have O:=h.s k om_;have ah:=h.s l om_;have ai:=nf m (dx ((T k).oth (S k)));have w1:=h.ws (k:=k) (l:=l) om_ om_ ai;have w0:=h.ws (k:=k) (l:=l) om_ om_ (eM m);rw [CY m] at w0;have aj:(T k).W ((T k).ext (dx ((T k).oth (S k))))=(T k).worth.c+(T k).worth.g (S k):=by
  unfold Tab.W;rw [wQ m,pN m O]
 rw [aj] at w1;have av:=(y k om_).1;have ak:Il T R S a b ((T k).oth (S k)):=⟨k,k1,k2,.inr rfl⟩;have al:(T k).oth (S k)≠t:=by
  intro e;have h4:=bas_mem ac;rw [f,<- e] at h4;exact m.dj h4 (oth_mem O)
 -- a fickle one but t does not lower the worth at the second place
 have ad:∀ j,j<(T l).others.length->Il T R S a b ((T l).oth j)->(T l).oth j≠t->0<=(T l).worth.g j:=by
  intro j x u L;apply Rq;intro am;have:=(y l om_).2 j x (h.fick_slack n u).1 (by grind);rw [hl] at this;exact L (Nat.le_antisymm (ab _ u) this)
 have an:0<=sumN (fun j=>(T l).worth.g j*((T k).ext (dx ((T k).oth (S k))) ((T l).oth j)-(T k).sol ((T l).oth j))) (T l).others.length:=by
  refine E8 fun j x=>?_;by_cases D:(T l).oth j∈(T k).basic
  ·have u:=h.moved n k1 om_ l1 om_ D (fun hm=>M.dj hm (oth_mem x));obtain ⟨i,B,e⟩:=dw D;have C:(T k).bas i=(T l).oth j:=e;have ao:((T k).line i).c=0:=by rw [<- sol_bas m B,C];exact ag _ u k k1 om_
   rw [<- C,uH m B,sol_bas m B,pN m O];have ez:((T k).line i).c+((T k).line i).g (S k)-((T k).line i).c=((T k).line i).g (S k):=by grind
   rw [ez];by_cases E:(T l).oth j=t
   ·have ap:j=S l:=by
     have o:=cU M.no x;rw [show (T l).others.getD j 0=(T l).others.getD (S l) 0 from E.trans hl.symm,cU M.no ah] at o;exact o.symm
    have aq:i=R k:=by
     have o:=cU m.nb B;rw [show (T k).basic.getD i 0=(T k).basic.getD (R k) 0 from (C.trans E).trans f.symm,cU m.nb ac] at o;exact o.symm
    have g1:=(y l om_).1;have g2:=(G k om_).1;rw [<- ap] at g1;rw [<- aq] at g2;have:=Rat.mul_nonneg (show 0<=-(T l).worth.g j by grind) (show 0<=-((T k).line i).g (S k) by grind);grind
   have A:=ad j x u E;refine Rat.mul_nonneg A ?_;apply Rq;intro am;have:=(G k om_).2 i B (by rw [C];exact (h.fick_slack n u).1) (by grind) (Y k k1 k2) ao;rw [f,C] at this;exact E (Nat.le_antisymm (ab _ u) this)
  rw [uG m D,sol_oth m D];unfold dx;split
  ·rename_i e;have A:=ad j x (by rw [e];exact ak) (by rw [e];exact al);have q:(1:Rat)-0=1:=by grind
   rw [q,Rat.mul_one];exact A
  have q:(0:Rat)-0=0:=by grind
  rw [q,Rat.mul_zero];exact Rat.le_refl
 have ar:(T l).W ((T k).ext (dx ((T k).oth (S k))))-(T l).W (T k).sol=sumN (fun j=>(T l).worth.g j*((T k).ext (dx ((T k).oth (S k))) ((T l).oth j)-(T k).sol ((T l).oth j))) (T l).others.length:=by
  have e:=dv (fun j=>(T l).worth.g j*((T k).ext (dx ((T k).oth (S k))) ((T l).oth j)-(T k).sol ((T l).oth j))) (fun j=>(T l).worth.g j*(T k).sol ((T l).oth j)) (T l).others.length;have q:sumN (fun j=>(T l).worth.g j*((T k).ext (dx ((T k).oth (S k))) ((T l).oth j)-(T k).sol ((T l).oth j))+(T l).worth.g j*(T k).sol ((T l).oth j)) (T l).others.length=sumN (fun j=>(T l).worth.g j*(T k).ext (dx ((T k).oth (S k))) ((T l).others.getD j 0)) (T l).others.length:=aO fun j _=>by
   show _=(T l).worth.g j*(T k).ext (dx ((T k).oth (S k))) ((T l).oth j);grind
  rw [q] at e;unfold Tab.W lv;rw [e];show _-((T l).worth.c+sumN (fun j=>(T l).worth.g j*(T k).sol ((T l).oth j)) (T l).others.length)=_;grind
 rw [<- ar,<- w1,<- w0] at an;grind
end
end Go.Jog.Lp
namespace Go.Jog.Lp
variable {F K N:Nat}{P:Tab->Nat->Nat->Prop}{r s:Nat}{t:Tab}
def cdN (p:Nat->Bool):Nat->Nat
 | 0=>0
 | n+1=>cdN p n+(if p n then 2 ^ n else 0)
theorem Cj (p:Nat->Bool):∀ n,cdN p n<2 ^ n
 | 0=>Nat.one_pos
 | n+1=>by
  have:=Cj p n;have e:2 ^ (n+1)=2 ^ n+2 ^ n:=by rw [R8];omega
  simp only [cdN];split <;> omega
theorem zm {p q:Nat->Bool}:∀ {n:Nat},cdN p n=cdN q n->∀ v,v<n->p v=q v
 | n+1,h,v,d=>by
  have h1:=Cj p n;have h2:=Cj q n;simp only [cdN] at h;have a:p n=q n:=by
   cases b:p n <;> cases c:q n <;> simp [b,c] at h ⊢ <;> omega
  rw [a] at h;rcases Rr v n with h3 | h3
  ·exact zm om_ v h3
  rw [show v=n by omega];exact a
theorem Way.len {T:Nat->Tab}{R S:Nat->Nat}(h:Way F N T R S K)(g:∀ a b,a<b->b<=K->¬ ∀ v,v∈(T a).basic ↔ v∈(T b).basic):K+1<=2 ^ N:=by
 have i:((List.range (K+1)).map fun k=>cdN (fun v=>decide (v∈(T k).basic)) N).Nodup:=by
  unfold List.Nodup;rw [List.pairwise_map];refine List.Pairwise.imp_of_mem ?_ List.pairwise_lt_range;intro a b _ d j e;refine g a b j (by rw [Q9] at d;omega) fun v=>?_;have f:∀ k,k<=K->v∈(T k).basic->v<N:=fun k l c=>(h.oks k l).lt v (Sp _ c);rw [Q9] at d;constructor
  ·intro c;have:=zm e v (f a om_ c);rw [Ra c] at this;exact aJ this.symm
  intro c;have:=zm e v (f b om_ c);rw [Ra c] at this;exact aJ this
 have:=List.Nodup.length_le_of_subset (l₂:=List.range (2 ^ N)) i (fun x m=>by
  obtain ⟨k,_,rfl⟩:=QX.1 m;exact Q9.2 (Cj _ N))
 simpa using this
def Reach (P:Tab->Nat->Nat->Prop)(t:Tab)(K:Nat):Prop:=∃ (T:Nat->Tab)(R S:Nat->Nat),T 0=t/\∀ k,k<K->P (T k) (R k) (S k)/\T (k+1)=(T k).pivot (R k) (S k)
theorem Reach.cons (h:P t r s)(a:Reach P (t.pivot r s) K):Reach P t (K+1):=by
 obtain ⟨T,R,S,h0,h1⟩:=a;refine ⟨fun k=>match k with | 0=>t | k+1=>T k,fun k=>match k with | 0=>r | k+1=>R k,fun k=>match k with | 0=>s | k+1=>S k,Z,fun k a=>?_⟩;cases k with
 | zero=>exact ⟨h,h0⟩
 | succ k=>exact h1 k om_
theorem Reach.one (h:P t r s):Reach P t 1:=Reach.cons h ⟨fun _=>t.pivot r s,fun _=>0,fun _=>0,rfl,fun _b a=>absurd a (Nat.not_lt_zero _)⟩
theorem Reach.fall {m:Nat}(h:P t r s)(a:∀ K,Reach P t K->K<=m):0<m/\∀ K,Reach P (t.pivot r s) K->K<=m-1:=by
 have h1:=a 1 (Reach.one h);exact ⟨by omega,fun K b=>by have:=a _ (Reach.cons h b);omega⟩
structure FeasP (F:Nat)(t:Tab)(r s:Nat):Prop where
 hr:r<t.basic.length
 hs:s<t.others.length
 rs:F<=t.bas r
 ss:F<=t.oth s
 c:(t.line r).c<0
 rl:∀ i,i<t.basic.length->F<=t.bas i->(t.line i).c<0->t.bas r<=t.bas i
 g:0<(t.line r).g s
 sl:∀ j,j<t.others.length->F<=t.oth j->0<(t.line r).g j->t.oth s<=t.oth j
def Tab.Feas (F:Nat)(t:Tab):Prop:=∀ i,i<t.basic.length->F<=t.bas i->0<=(t.line i).c
structure MinP (F:Nat)(t:Tab)(r s:Nat):Prop where
 hr:r<t.basic.length
 hs:s<t.others.length
 rs:F<=t.bas r
 ss:F<=t.oth s
 w:t.worth.g s<0
 sl:∀ j,j<t.others.length->F<=t.oth j->t.worth.g j<0->t.oth s<=t.oth j
 g:(t.line r).g s<0
 rl:∀ i,i<t.basic.length->F<=t.bas i->(t.line i).g s<0->(t.line r).c / -(t.line r).g s<(t.line i).c / -(t.line i).g s∨(t.line r).c / -(t.line r).g s=(t.line i).c / -(t.line i).g s/\t.bas r<=t.bas i
 feas:t.Feas F
theorem feas_len (h:t.Ok N)(f:Reach (FeasP F) t K):K<=2 ^ N:=by
 obtain ⟨T,R,S,h0,h1⟩:=f;have e:Way F N T R S K:=⟨by rw [h0];exact h,fun k d=>(h1 k d).2,fun k d=>(h1 k d).1.hr,fun k d=>(h1 k d).1.hs,fun k d=>by have:=(h1 k d).1.g;grind,fun k d=>(h1 k d).1.rs,fun k d=>(h1 k d).1.ss⟩;have:=e.len fun a b i j=>e.feas (fun k d=>⟨(h1 k d).1.c,(h1 k d).1.rl⟩) (fun k d=>⟨(h1 k d).1.g,(h1 k d).1.sl⟩) i j;omega
theorem min_len (h:t.Ok N)(f:Reach (MinP F) t K):K<=2 ^ N:=by
 obtain ⟨T,R,S,h0,h1⟩:=f;have d:Way F N T R S K:=⟨by rw [h0];exact h,fun k c=>(h1 k c).2,fun k c=>(h1 k c).1.hr,fun k c=>(h1 k c).1.hs,fun k c=>by have:=(h1 k c).1.g;grind,fun k c=>(h1 k c).1.rs,fun k c=>(h1 k c).1.ss⟩;have:=d.len fun a b j l=>d.mini (fun k c=>⟨(h1 k c).1.w,(h1 k c).1.sl⟩) (fun k c=>⟨(h1 k c).1.g,fun i m n o p q=>by
  rcases (h1 k c).1.rl i m n o with h3 | h3
  ·rw [p,q] at h3;have e:∀ x:Rat,0 / x=0:=fun x=>by grind
   rw [e,e] at h3;exact absurd h3 dc_
  exact h3.2⟩) (fun k c=>(h1 k c).1.feas) j l
 omega
theorem wD (a:r<t.basic.length)(i:Nat):(t.pivot r s).bas i=if i=r then t.oth s else t.bas i:=oZ a
theorem pC (a:s<t.others.length)(j:Nat):(t.pivot r s).oth j=if j=s then t.bas r else t.oth j:=oZ a
theorem min_feas (h:t.Ok N)(a:MinP F t r s):(t.pivot r s).Feas F:=by
 intro i b d;have l:(t.pivot r s).basic.length=t.basic.length:=RK;rw [l] at b;rw [wD a.hr] at d;rw [pivot_line (by rw [h.ll];exact b)];have m:=a.feas r a.hr a.rs;have p:=a.g;have f:0<=(t.line r).c / -(t.line r).g s:=by
  have a:0<(-(t.line r).g s)⁻¹:=Rat.inv_pos.2 (by grind);have e:(t.line r).c / -(t.line r).g s=(t.line r).c*(-(t.line r).g s)⁻¹:=by grind
  rw [e];exact Rat.mul_nonneg m (by grind)
 have j:-(t.line r).c / (t.line r).g s=(t.line r).c / -(t.line r).g s:=by grind
 by_cases e:i=r
 ·rw [aW e];show 0<=-(t.line r).c / (t.line r).g s;rw [j];exact f
 rw [az e] at d ⊢;show 0<=(t.line i).c+(t.line i).g s*(-(t.line r).c / (t.line r).g s);rw [j];have q:=a.feas i b d;by_cases n:(t.line i).g s<0
 ·have k:(t.line r).c / -(t.line r).g s<=(t.line i).c / -(t.line i).g s:=by
   rcases a.rl i b d n with h3 | h3
   ·exact Rat.le_of_lt h3
   rw [h3.1];exact Rat.le_refl
  generalize (t.line r).c / -(t.line r).g s=th at k f;have o:(t.line i).c=-(t.line i).g s*((t.line i).c / -(t.line i).g s):=by grind
  have:=Uk k (show 0<=-(t.line i).g s by grind);rw [<- o] at this;grind
 have:=Rat.mul_nonneg (show 0<=(t.line i).g s by grind) f;grind
end Go.Jog.Lp
namespace Go.Jog.Lp
variable {i n:Nat}
abbrev Col:=Nat->Rat
def detN:Nat->Nat->List Col->Rat
 | 0,_,_=>1
 | n+1,r,l=>sumN (fun i=>(-1) ^ i*((l.getD i fun _=>0) r*detN n (r+1) (l.eraseIdx i))) (n+1)
def det (r:Nat)(l:List Col):Rat:=detN l.length r l
theorem ir {r:Nat}{l:List Col}(h:l.length=n+1):det r l=sumN (fun i=>(-1) ^ i*((l.getD i fun _=>0) r*det (r+1) (l.eraseIdx i))) (n+1):=by
 unfold det;rw [h];show sumN _ (n+1)=_;refine aO fun i a=>?_;rw [List.length_eraseIdx,aW om_,h];rfl
theorem iZ (i:Nat):(-1:Rat) ^ (i+1)=-(-1) ^ i:=by rw [Rat.pow_succ];grind
theorem jO {a:Col}{b c:List Col}{d:Col}:(b++a::c).getD b.length d=a:=by
 rw [au,Ro (QO _),SZ];rfl
theorem xa {a b:Col}{c e:List Col}{d:Col}:(c++a::b::e).getD (c.length+1) d=b:=by
 rw [au,Ro om_,Sw];rfl
theorem BQ {a b:Col}{c f:List Col}{d:Col}(h:i≠c.length):(c++a::f).getD i d=(c++b::f).getD i d:=by
 rw [au,au];rcases Rr i c.length with h1 | h1
 ·rw [RI h1,RI h1]
 rw [Ro h1,Ro h1];cases e:i-c.length with
 | zero=>omega
 | succ k=>rfl
theorem gG {a:Col}{b c:List Col}:(b++a::c).eraseIdx b.length=b++c:=by
 rw [List.eraseIdx_append_of_length_le (QO _),SZ];rfl
theorem sG {a b:Col}{c d:List Col}:(c++a::b::d).eraseIdx (c.length+1)=c++a::d:=by
 rw [List.eraseIdx_append_of_length_le om_,Sw];rfl
theorem Hn {l1 l2:List Col}(h:i≠l1.length)(e:i<l1.length+1+l2.length):∃ b c:List Col,b.length+1+c.length+1=l1.length+1+l2.length/\∀ a:Col,(l1++a::l2).eraseIdx i=b++a::c:=by
 rcases Rr i l1.length with h1 | h1
 ·refine ⟨l1.eraseIdx i,l2, ?_,fun a=>List.eraseIdx_append_of_lt_length h1 _⟩;rw [List.length_eraseIdx,aW h1];omega
 obtain ⟨k,d⟩:∃ k,i-l1.length=k+1:=⟨i-l1.length-1,by omega⟩;refine ⟨l1,l2.eraseIdx k, ?_,fun a=>?_⟩
 ·rw [List.length_eraseIdx,aW om_];omega
 rw [List.eraseIdx_append_of_length_le h1,d];rfl
theorem uM {p q:Rat}{a b:Col}:∀ (n r:Nat)(l1 l2:List Col),l1.length+1+l2.length=n->det r (l1++(fun k=>p*a k+q*b k)::l2)=p*det r (l1++a::l2)+q*det r (l1++b::l2)
 | 0,r,l1,l2,h=>by omega
 | n+1,r,l1,l2,h=>by
  rw [ir (n:=n) ap,ir (l:=l1++a::l2) (n:=n) ap,ir (l:=l1++b::l2) (n:=n) ap,<- cT,<- cT,<- dv];refine aO fun i g=>?_;by_cases e:i=l1.length
  ·subst e;rw [jO,jO,jO,gG,gG,gG];grind
  rw [BQ (b:=a) e,BQ (a:=b) (b:=a) e];obtain ⟨d,f,hm,c⟩:=Hn (l1:=l1) (l2:=l2) e om_;rw [c,c,c,uM n (r+1) d f om_];grind
theorem He {a b:Col}{c e:List Col}{d:Col}(h:i≠c.length)(g:i≠c.length+1):(c++a::b::e).getD i d=(c++b::a::e).getD i d:=by
 rw [au,au];rcases Rr i c.length with h1 | h1
 ·rw [RI h1,RI h1]
 rw [Ro h1,Ro h1];obtain ⟨k,f⟩:∃ k,i-c.length=k+2:=⟨i-c.length-2,by omega⟩;rw [f];rfl
theorem D4 {l1 l2:List Col}(h:i≠l1.length)(f:i≠l1.length+1)(g:i<l1.length+2+l2.length):∃ c d:List Col,c.length+2+d.length+1=l1.length+2+l2.length/\∀ a b:Col,(l1++a::b::l2).eraseIdx i=c++a::b::d:=by
 rcases Rr i l1.length with h1 | h1
 ·refine ⟨l1.eraseIdx i,l2, ?_,fun a b=>List.eraseIdx_append_of_lt_length h1 _⟩;rw [List.length_eraseIdx,aW h1];omega
 obtain ⟨k,e⟩:∃ k,i-l1.length=k+2:=⟨i-l1.length-2,by omega⟩;refine ⟨l1,l2.eraseIdx k, ?_,fun a b=>?_⟩
 ·rw [List.length_eraseIdx,aW om_];omega
 rw [List.eraseIdx_append_of_length_le h1,e];rfl
theorem AD (g:Nat->Rat):∀ n,sumN (fun j=>-g j) n=-sumN g n
 | 0=>by simp only [sumN];grind
 | n+1=>by simp only [sumN];rw [AD g n];grind
theorem AC {g:Nat->Rat}{a:Nat}(h:a+1<n):sumN g n=g a+g (a+1)+sumN (fun j=>if j=a∨j=a+1 then 0 else g j) n:=by
 rw [gU (a:=a) om_,gU (g:=fun j=>if j=a then 0 else g j) (a:=a+1) h,az om_];have e:sumN (fun j=>if j=a+1 then 0 else if j=a then 0 else g j) n=sumN (fun j=>if j=a∨j=a+1 then 0 else g j) n:=aO fun j _=>by
  by_cases h1:j=a
  ·rw [aW (show j=a∨j=a+1 from .inl h1),az om_,aW h1]
  by_cases h2:j=a+1
  ·rw [aW h2,aW (show j=a∨j=a+1 from .inr h2)]
  rw [az h2,az h1,az om_]
 rw [e];grind
theorem uL {a b:Col}:∀ (n r:Nat)(l1 l2:List Col),l1.length+2+l2.length=n->det r (l1++a::b::l2)=-det r (l1++b::a::l2)
 | 0,r,l1,l2,h=>by omega
 | n+1,r,l1,l2,h=>by
  rw [ir (n:=n) ap,ir (l:=l1++b::a::l2) (n:=n) ap,AC (g:=fun i=>(-1) ^ i*((l1++a::b::l2).getD i (fun _=>0) r*det (r+1) ((l1++a::b::l2).eraseIdx i))) (a:=l1.length) om_,
   AC (g:=fun i=>(-1) ^ i*((l1++b::a::l2).getD i (fun _=>0) r*det (r+1) ((l1++b::a::l2).eraseIdx i))) (a:=l1.length) om_]
  rw [jO,xa,jO,xa,gG,sG,gG,sG,iZ];have e:sumN (fun j=>if j=l1.length∨j=l1.length+1 then 0 else (-1) ^ j*((l1++a::b::l2).getD j (fun _=>0) r*det (r+1) ((l1++a::b::l2).eraseIdx j))) (n+1) =
    -sumN (fun j=>if j=l1.length∨j=l1.length+1 then 0 else (-1) ^ j*((l1++b::a::l2).getD j (fun _=>0) r*det (r+1) ((l1++b::a::l2).eraseIdx j))) (n+1):=by
   rw [<- AD];refine aO fun j k=>?_;by_cases h1:j=l1.length∨j=l1.length+1
   ·rw [aW h1,aW h1];grind
   rw [az h1,az h1,He om_ om_];obtain ⟨d,f,hm,c⟩:=D4 (l1:=l1) (l2:=l2) (i:=j) om_ om_ om_;rw [c,c,uL n (r+1) d f om_];grind
  rw [e];grind
theorem mh {a:Col}:∀ (l2:List Col)(r:Nat)(l1 c:List Col),det r (l1++a::(l2++a::c))=0
 | [],r,l1,c=>by
  have h:=uL (a:=a) (b:=a) _ r l1 c rfl;show det r (l1++a::a::c)=0;grind
 | b::l2,r,l1,c=>by
  have h:=uL (a:=a) (b:=b) _ r l1 (l2++a::c) rfl;have d:=mh (a:=a) l2 r (l1++[b]) c;rw [Rk] at d;show det r (l1++a::b::(l2++a::c))=0;rw [h,show l1++b::a::(l2++a::c)=l1++([b]++a::(l2++a::c)) from rfl,d];grind
theorem N0 {l:List Col}{j:Nat}(g:i<l.length)(k:j<l.length)(n:i≠j)(r:Nat):det r (l.set i (l.getD j fun _=>0))=0:=by
 have t:l[j]?=some (l.getD j fun _=>0):=by rw [au,aj k];rfl
 have o:∀ {a b:Nat}{m:List Col}{x:Col},a<b->b<m.length->m[a]?=some x->m[b]?=some x->∃ c d f,m=c++x::(d++x::f):=by
  intro a b m x u p q s;refine ⟨m.take a,(m.drop (a+1)).take (b-a-1),m.drop (b+1), ?_⟩;have h1:m=m.take a++x::m.drop (a+1):=by
   have:=RW a m;rw [Rh om_] at this;rw [aj om_] at q;rw [Ss q] at this;exact this.symm
  have h2:m.drop (a+1)=(m.drop (a+1)).take (b-a-1)++x::m.drop (b+1):=by
   have:=RW (b-a-1) (m.drop (a+1));rw [List.drop_drop,show a+1+(b-a-1)=b by omega,Rh p] at this;rw [aj p] at s;rw [Ss s] at this;exact this.symm
  rw [<- h2];exact h1
 have h1:(l.set i (l.getD j fun _=>0))[i]?=some (l.getD j fun _=>0):=by rw [T6 g]
 have h2:(l.set i (l.getD j fun _=>0))[j]?=some (l.getD j fun _=>0):=by rw [Uh n];exact t
 rcases Nat.lt_or_gt_of_ne n with h | h
 ·obtain ⟨c,d,f,e⟩:=o h (by rw [RK];exact k) h1 h2;rw [e];exact mh d r c f
 obtain ⟨c,d,f,e⟩:=o h (by rw [RK];exact g) h2 h1;rw [e];exact mh d r c f
theorem lA {l:List Col}{x:Col}(h:i<l.length):l.set i x=l.take i++x::l.drop (i+1):=List.set_eq_take_append_cons_drop.trans (aW h)
def KQ (l:List Col)(x:Nat->Rat)(n:Nat):Col:=fun k=>sumN (fun j=>x j*(l.getD j fun _=>0) k) n
theorem BZ {l:List Col}{i:Nat}(c:i<l.length)(x:Nat->Rat)(r:Nat):∀ n,n<=l.length->det r (l.set i (KQ l x n))=sumN (fun j=>x j*det r (l.set i (l.getD j fun _=>0))) n
 | 0,_=>by
  have h:=uM (p:=0) (q:=0) (a:=fun _=>0) (b:=fun _=>0) _ r (l.take i) (l.drop (i+1)) rfl;rw [lA c];have e:KQ l x 0=fun k=>(0:Rat)*(fun _=>0:Col) k+0*(fun _=>0:Col) k:=by
   funext k;show (0:Rat)=_;grind
  rw [e,h];simp only [sumN];grind
 | n+1,h=>by
  have d:=BZ c x r n om_;have e:KQ l x (n+1)=fun k=>1*KQ l x n k+x n*(l.getD n fun _=>0) k:=by
   funext k;show sumN _ n+_=1*sumN _ n+_;grind
  rw [lA c,e,uM _ r _ _ rfl,<- lA c,<- lA c,d];simp only [sumN];grind
theorem PJ {l:List Col}(a:i<l.length)(x:Nat->Rat)(r:Nat):det r (l.set i (KQ l x l.length))=x i*det r l:=by
 rw [BZ a x r _ (QO _),gU a];have e:l.set i (l.getD i fun _=>0)=l:=by
  rw [au,aj a];exact List.set_getElem_self a
 rw [e,ci fun j b=>?_]
 ·grind
 by_cases h:j=i
 ·rw [aW h]
 rw [az h,N0 a b (Ne.symm h)];grind
end Go.Jog.Lp
namespace Go.Jog.Lp
variable {a:Col}{f:Col->Rat}{l l1 l2:List Col}{r:Nat}{ys:List Rat}
def mH:List Rat->List Col->Col
 | y::ys,c::l,k=>y*c k+mH ys l k
 | _,_,_=>0
theorem BH {y1 y2:List Rat}(h:y1.length=l1.length)(k:Nat):mH (y1++y2) (l1++l2) k=mH y1 l1 k+mH y2 l2 k:=by
 induction l1 generalizing y1 with
 | nil =>
  have:y1=[]:=RB h;subst this;show mH y2 l2 k=0+_;grind
 | cons c l1 a =>
  cases y1 with
  | nil=>cases h
  | cons y y1 =>
   have:=a (y1:=y1) (by simpa using h);show y*c k+mH (y1++y2) (l1++l2) k=y*c k+mH y1 l1 k+_;rw [this];grind
theorem J1 (h:ys.length=l.length)(k:Nat):mH ys (l.map fun c=>fun k=>c k-f c*a k) k=mH ys l k-(mH ys (l.map fun c=>fun _=>f c) k)*a k:=by
 induction l generalizing ys with
 | nil =>
  have:ys=[]:=RB h;subst this;show (0:Rat)=0-0*a k;grind
 | cons c l b =>
  cases ys with
  | nil=>cases h
  | cons y ys =>
   have:=b (ys:=ys) (by simpa using h);show y*(c k-f c*a k)+mH ys _ k=y*c k+mH ys l k-(y*f c+mH ys _ k)*a k;rw [this];grind
theorem DF (k a:Nat):mH ys (l.map fun c=>fun _=>f c) k=mH ys (l.map fun c=>fun _=>f c) a:=by
 induction l generalizing ys with
 | nil=>cases ys <;> rfl
 | cons c l b =>
  cases ys with
  | nil=>rfl
  | cons y ys =>
   show y*f c+mH ys _ k=y*f c+mH ys _ a;rw [b]
theorem pO {k:Nat}(h:∀ c∈l,c k=0):mH ys l k=0:=by
 induction l generalizing ys with
 | nil=>cases ys <;> rfl
 | cons c l a =>
  cases ys with
  | nil=>rfl
  | cons y ys =>
   show y*c k+mH ys l k=0;rw [h c Qb,a fun d b=>h d (Q0 _ b)];grind
def PR (r m:Nat)(l:List Col):Prop:=∃ ys:List Rat,ys.length=l.length/\(∃ y∈ys,y≠0)/\∀ k,r<=k->k<r+m->mH ys l k=0
theorem AZ {m:Nat}(s:a r≠0)(h:PR (r+1) m ((l1++l2).map fun c=>fun k=>c k-c r / a r*a k)):PR r (m+1) (l1++a::l2):=by
 obtain ⟨ys,g,⟨y,hy,i⟩,j⟩:=h;rw [al,QV] at g;have b:ys=ys.take l1.length++ys.drop l1.length:=(RW _ _).symm;have e:(ys.take l1.length).length=l1.length:=by rw [Q5];omega
 have u:(ys.drop l1.length).length=l2.length:=by rw [Sv];omega
 have l:ys.length=(l1++l2).length:=by rw [QV];omega
 obtain ⟨t,n⟩:∃ t:Rat,∀ k,mH ys ((l1++l2).map fun c=>fun _=>c r / a r) k=t:=⟨_,fun k=>DF (f:=fun c=>c r / a r) k 0⟩;have o:∀ k,mH ys ((l1++l2).map fun c=>fun k=>c k-c r / a r*a k) k=mH ys (l1++l2) k-t*a k:=fun k=>by
  rw [J1 (f:=fun c=>c r / a r) l k,n]
 have p:∀ k,mH (ys.take l1.length++-t::ys.drop l1.length) (l1++a::l2) k=mH ys (l1++l2) k-t*a k:=fun k=>by
  rw [BH e];show _+(-t*a k+mH (ys.drop l1.length) l2 k)=_;have:=BH (y2:=ys.drop l1.length) (l2:=l2) e k;rw [<- b] at this;rw [this];grind
 refine ⟨ys.take l1.length++-t::ys.drop l1.length,by simp;omega,⟨y, ?_,i⟩,fun k h1 h2=>?_⟩
 ·rw [b] at hy;rcases Q6.1 hy with h | h
  ·exact Sp _ h
  exact SN _ (Q0 _ h)
 rw [p k,<- o k];rcases Rr r k with h3 | h3
 ·exact j k om_ om_
 have:k=r:=by omega
 subst this;refine pO fun c q=>?_;obtain ⟨d,_,rfl⟩:=QX.1 q;show d k-d k / a k*a k=0;grind
theorem AH {p:Col->Prop}(h:∃ c∈l,p c):∃ l1 a l2,l=l1++a::l2/\p a:=by
 obtain ⟨c,b,d⟩:=h;obtain ⟨l1,l2,e⟩:=List.append_of_mem b;exact ⟨l1,c,l2,e,d⟩
theorem tU:∀ (m r:Nat)(l:List Col),m<l.length->PR r m l
 | 0,r,l,h=>⟨List.replicate l.length 1,Sj,⟨1,by rw [List.mem_replicate];exact ⟨by omega,rfl⟩,by decide⟩,fun k h1 h2=>by omega⟩
 | m+1,r,l,h=>by
  by_cases b:∃ c∈l,c r≠0
  ·obtain ⟨l1,a,l2,e,d⟩:=AH b;subst e;exact AZ d (tU m (r+1) _ (by simp at h ⊢;omega))
  obtain ⟨ys,h1,h2,h3⟩:=tU m (r+1) l om_;refine ⟨ys,h1,h2,fun k h4 h5=>?_⟩;rcases Rr r k with f | f
  ·exact h3 k om_ om_
  have:k=r:=by omega
  subst this;exact pO fun c g=>Rq fun i=>b ⟨c,g,i⟩
theorem HA {t:Rat}{c:Col}{m1 m2:List Col}(h:a∈m1∨a∈m2):det r (m1++(fun k=>c k-t*a k)::m2)=det r (m1++c::m2):=by
 have e:(fun k=>c k-t*a k)=fun k=>1*c k + -t*a k:=by funext k;grind
 have h0:det r (m1++a::m2)=0:=by
  rcases h with h | h
  ·obtain ⟨b,d,e⟩:=List.append_of_mem h;rw [e,Rk];exact mh d r b m2
  obtain ⟨b,d,e⟩:=List.append_of_mem h;rw [e];exact mh b r m1 d
 rw [e,uM _ r m1 m2 rfl,h0];grind
theorem sL {r:Nat}{f:Col->Rat}{a:Col}{q:List Col}:∀ (l p:List Col),a∈q->det r (p++(l++q))=det r (p++(l.map (fun c=>fun k=>c k-f c*a k)++q))
 | [],p,h=>rfl
 | c::l,p,h=>by
  have h1:=sL (r:=r) (f:=f) l (p++[c]) h;rw [Rk,Rk] at h1;have h2:=HA (r:=r) (t:=f c) (c:=c) (a:=a) (m1:=p) (m2:=l.map (fun c=>fun k=>c k-f c*a k)++q) (.inr (SN _ h));show det r (p++c::(l++q))=det r (p++(fun k=>c k-f c*a k)::(l.map (fun c=>fun k=>c k-f c*a k)++q));rw [h2];exact h1
theorem sK {r:Nat}{f:Col->Rat}{a:Col}:∀ (l p:List Col),a∈p->det r (p++l)=det r (p++l.map (fun c=>fun k=>c k-f c*a k))
 | [],p,h=>rfl
 | c::l,p,h=>by
  have h1:=sK (r:=r) (f:=f) l (p++[c]) (Sp _ h);rw [Rk,Rk] at h1;have h2:=HA (r:=r) (t:=f c) (c:=c) (a:=a) (m1:=p) (m2:=l.map (fun c=>fun k=>c k-f c*a k)) (.inl h);show det r (p++c::l)=det r (p++(fun k=>c k-f c*a k)::l.map (fun c=>fun k=>c k-f c*a k));rw [h2];exact h1
theorem HB (s:a r≠0):det r (l1++a::l2)=(-1) ^ l1.length*(a r*det (r+1) ((l1++l2).map fun c=>fun k=>c k-c r / a r*a k)):=by
 have h1:=sL (r:=r) (f:=fun c=>c r / a r) (a:=a) (q:=a::l2) l1 [] Qb;have h2:=sK (r:=r) (f:=fun c=>c r / a r) (a:=a) l2 (l1.map (fun c=>fun k=>c k-c r / a r*a k)++[a]) (SN _ Qb);rw [Rk,Rk] at h2;rw [SI,SI] at h1;rw [h1];show det r (_++([a]++l2))=_;rw [h2];show det r (l1.map (fun c=>fun k=>c k-c r / a r*a k)++a::l2.map (fun c=>fun k=>c k-c r / a r*a k))=_;have h:(l1.map (fun c=>fun k=>c k-c r / a r*a k)).length=l1.length:=al _;generalize i:l1.map (fun c=>fun k=>c k-c r / a r*a k)=L1 at h;generalize l:l2.map (fun c=>fun k=>c k-c r / a r*a k)=g;have m:∀ c,c∈L1∨c∈g->c r=0:=fun c b=>by
  rcases b with b | b
  ·rw [<- i] at b;obtain ⟨d,_,rfl⟩:=QX.1 b;show d r-d r / a r*a r=0;grind
  rw [<- l] at b;obtain ⟨d,_,rfl⟩:=QX.1 b;show d r-d r / a r*a r=0;grind
 rw [ir (n:=L1.length+g.length) ap,gU (a:=L1.length) om_,jO,gG,h,Ru,i,l,ci fun j t=>?_]
 ·grind
 by_cases e:j=l1.length
 ·rw [aW e]
 rw [az e];have h0:(L1++a::g).getD j (fun _=>0) r=0:=by
  rw [au];rcases Rr j L1.length with h3 | h3
  ·rw [RI h3,aj h3];exact m _ (.inl (RP _))
  rw [Ro h3];obtain ⟨k,o⟩:∃ k,j-L1.length=k+1:=⟨j-L1.length-1,by omega⟩;rw [o,SF];cases p:g[k]? with
  | none=>rfl
  | some c=>exact m c (.inr (QQ p))
 rw [h0];grind
theorem rU:∀ (n r:Nat)(l:List Col),l.length=n->det r l=0->PR r n l
 | 0,r,l,b,h=>by
  have:l=[]:=RB b;subst this;exact absurd (show (1:Rat)=0 from h) dc_
 | n+1,r,l,b,h=>by
  by_cases f:∃ c∈l,c r≠0
  ·obtain ⟨l1,a,l2,e,d⟩:=AH f;subst e;rw [HB d] at h;have h1:det (r+1) ((l1++l2).map fun c=>fun k=>c k-c r / a r*a k)=0:=by
    rcases Rat.mul_eq_zero.1 h with h2 | h2
    ·have g:∀ i:Nat,(-1:Rat) ^ i≠0:=fun i=>by
      induction i with
      | zero=>decide
      | succ i p=>rw [iZ];grind
     exact absurd h2 (g _)
    rcases Rat.mul_eq_zero.1 h2 with h3 | h3
    ·exact absurd h3 d
    exact h3
   exact AZ d (rU n (r+1) _ (by simp at b ⊢;omega) h1)
  obtain ⟨ys,h1,h2,h3⟩:=tU n (r+1) l om_;refine ⟨ys,h1,h2,fun k h4 h5=>?_⟩;rcases Rr r k with j | j
  ·exact h3 k om_ om_
  have:k=r:=by omega
  subst this;exact pO fun c m=>Rq fun o=>f ⟨c,m,o⟩
def fctM (M:Nat):Nat->Nat
 | 0=>1
 | n+1=>(n+1)*(M*fctM M n)
theorem yY {M:Nat}:∀ (n r:Nat)(l:List Col),l.length=n->(∀ c∈l,∀ k,r<=k->k<r+n->∃ z:Int,c k=z/\z.natAbs<=M)->∃ z:Int,det r l=z/\z.natAbs<=fctM M n
 | 0,r,l,b,_=>by
  have:l=[]:=RB b;subst this;exact ⟨1,Z,QO 1⟩
 | n+1,r,l,b,h=>by
  rw [ir b];have t:∀ m,m<=n+1->∃ z:Int,sumN (fun i=>(-1) ^ i*((l.getD i fun _=>0) r*det (r+1) (l.eraseIdx i))) m=z/\z.natAbs<=m*(M*fctM M n):=by
   intro m;induction m with
   | zero=>intro _;exact ⟨0,rfl,by simp⟩
   | succ m a =>
    intro hm;obtain ⟨z,e,d⟩:=a om_;have f:m<l.length:=by omega
    have g:l.getD m (fun _=>0)∈l:=by rw [au,aj f];exact RP _
    obtain ⟨u,j,o⟩:=h _ g r (QO _) om_;obtain ⟨w,p,q⟩:=yY (M:=M) n (r+1) (l.eraseIdx m) (by rw [List.length_eraseIdx,aW f];omega) (fun c v k h1 h2=>h c (List.mem_of_mem_eraseIdx v) k om_ om_);have hs:∃ s:Int,((-1:Rat) ^ m=s)/\s.natAbs=1:=by
     clear a e d hm f g j o p q;induction m with
     | zero=>exact ⟨1,rfl,rfl⟩
     | succ m a =>
      obtain ⟨s,h1,h2⟩:=a;exact ⟨-s,by rw [iZ,h1,Rat.intCast_neg],by omega⟩
    obtain ⟨s,x,hs⟩:=hs;refine ⟨z+s*(u*w), ?_, ?_⟩
    ·simp only [sumN];rw [e,j,p,x,Rat.intCast_add,RS,RS]
    have h1:=TD z (s*(u*w));have h2:(s*(u*w)).natAbs=u.natAbs*w.natAbs:=by rw [SB,SB,hs,TQ]
    have h3:u.natAbs*w.natAbs<=M*fctM M n:=SA o q;rw [Nat.succ_mul];omega
  obtain ⟨z,e,d⟩:=t (n+1) (QO _);exact ⟨z,e,d⟩
end Go.Jog.Lp
namespace Go.Jog.Lp
theorem oP (h:Nat->Rat):∀ n,sumN h (n+1)=h 0+sumN (fun p=>h (p+1)) n
 | 0=>by simp only [sumN];grind
 | n+1=>by
  have a:=oP h n;have e:sumN h (n+1+1)=sumN h (n+1)+h (n+1):=rfl;rw [e,a];simp only [sumN];grind
theorem yg {g:Nat->Rat}{n:Nat}:∀ {l:List Nat},l.Nodup->(∀ v∈l,v<n)->sumN (fun j=>if j∈l then g j else 0) n=sumN (fun p=>g (l.getD p 0)) l.length
 | [],_,_=>ci fun j _=>az RU
 | v::l,c,a=>by
  have b:=TV.1 c;rw [Q8,oP,gU (a v Qb),aW Qb];have d:=yg (g:=g) (n:=n) b.2 fun u e=>a u (Q0 _ e);show g v+_=g v+sumN (fun p=>g (l.getD p 0)) l.length;rw [<- d];congr 1;refine aO fun j _=>?_;by_cases h1:j=v
  ·subst h1;rw [aW rfl,az b.1]
  rw [az h1];by_cases h2:j∈l
  ·rw [aW (Q0 _ h2),aW h2]
  rw [az h2,az (fun h=>(Q3.1 h).elim h1 h2)]
theorem BG:∀ {ys:List Rat}{l:List Col}(k:Nat),ys.length=l.length->mH ys l k=sumN (fun j=>ys.getD j 0*(l.getD j fun _=>0) k) l.length
 | [],[],k,_=>rfl
 | y::ys,c::l,k,h=>by
  have a:=BG (ys:=ys) (l:=l) k (by simpa using h);rw [Q8,oP];show y*c k+mH ys l k=y*c k+sumN (fun p=>ys.getD p 0*(l.getD p fun _=>0) k) l.length;rw [a]
 | [],_::_,_,h=>by cases h
 | _::_,[],_,h=>by cases h
structure Sys where
 n:Nat
 m:Nat
 a:Nat->Nat->Rat
 b:Nat->Rat
def Sys.Sol (p:Sys)(x:Nat->Rat):Prop:=∀ r,r<p.m->x (p.n+r)=p.b r-sumN (fun j=>p.a r j*x j) p.n
structure Sys.Wh (p:Sys)(D:Nat->Int)(M:Nat):Prop where
 d:∀ r,r<p.m->D r≠0/\(D r).natAbs<=M
 a:∀ r j,r<p.m->j<p.n->∃ z:Int,D r*p.a r j=z/\z.natAbs<=M
 b:∀ r,r<p.m->∃ z:Int,D r*p.b r=z/\z.natAbs<=M
structure TabOf (p:Sys)(t:Tab):Prop where
 ok:t.Ok (p.n+p.m)
 lb:t.basic.length=p.m
 lo:t.others.length=p.n
 sol:∀ x,t.Sol x ↔ p.Sol x
def Quo (K:Nat)(q:Rat):Prop:=∃ z w:Int,w≠0/\q*w=z/\z.natAbs<=K/\w.natAbs<=K
section
variable {p:Sys} {t:Tab}
theorem TabOf.all (h:TabOf p t){v:Nat}(c:v<p.n+p.m):v∈t.basic∨v∈t.others:=by
 apply Rq;intro b;have d:(v::(t.basic++t.others)).Nodup:=TV.2 ⟨fun hm=>by rcases Q6.1 hm with h1 | h1;exact b (.inl h1);exact b (.inr h1),h.ok.nd⟩;have:=List.Nodup.length_le_of_subset (l₂:=List.range (p.n+p.m)) d (fun u a=>by
  rcases Q3.1 a with rfl | a
  ·exact Q9.2 c
  exact Q9.2 (h.ok.lt u a))
 simp only [Q8,QV,RL,h.lb,h.lo] at this;omega
def FB (p:Sys)(t:Tab):List Nat:=t.basic.filter fun v=>decide (v<p.n)
def SO (p:Sys)(t:Tab):List Nat:=t.others.filter fun v=>decide (p.n<=v)
theorem sC {q:Nat->Bool}:∀ l:List Nat,(l.filter q).length+(l.filter fun v=>!q v).length=l.length
 | []=>rfl
 | x::l=>by
  have:=sC (q:=q) l;cases h:q x <;> simp [h] <;> omega
theorem TabOf.len (h:TabOf p t):(FB p t).length=(SO p t).length:=by
 have b:(t.basic++t.others).Perm (List.range (p.n+p.m)):=by
  refine (List.perm_ext_iff_of_nodup h.ok.nd List.nodup_range).2 fun v=>?_;rw [Q9,Q6];exact ⟨fun a=>h.ok.lt v (Q6.2 a),h.all⟩
 have h1:=(b.filter fun v=>decide (v<p.n)).length_eq;rw [Si,QV] at h1;have h2:((List.range (p.n+p.m)).filter fun v=>decide (v<p.n)).length=p.n:=by
  have e:∀ k,((List.range (p.n+k)).filter fun v=>decide (v<p.n))=List.range p.n:=fun k=>by
   induction k with
   | zero=>exact List.filter_eq_self.2 fun v a=>by rw [Q9] at a;exact Ra a
   | succ k c=>rw [<- TP,RY,Si,c,List.filter_cons,az am];simp
  rw [e,RL]
 have h3:=sC (q:=fun v=>decide (v<p.n)) t.others;have h4:(t.others.filter fun v=>!decide (v<p.n))=SO p t:=by
  unfold SO;congr 1;funext v;by_cases a:v<p.n
  ·rw [Ra a,Rj om_];rfl
  rw [Rj a,Ra om_];rfl
 rw [h4,h.lo] at h3;unfold FB;omega
theorem lZ {v:Nat}:v∈FB p t ↔ v∈t.basic/\v<p.n:=by unfold FB;rw [SV,QZ]
theorem Lz {v:Nat}:v∈SO p t ↔ v∈t.others/\p.n<=v:=by unfold SO;rw [SV,QZ]
theorem Kx (h:TabOf p t):(FB p t).Nodup:=h.ok.nb.filter _
def ix (p:Sys)(t:Tab)(D:Nat->Int):List Col:=(FB p t).map fun v=>fun k=>(D ((SO p t).getD k 0-p.n):Rat)*p.a ((SO p t).getD k 0-p.n) v
theorem uS {D:Nat->Int}{i:Nat}(b:i<(FB p t).length)(k:Nat):((ix p t D).getD i fun _=>0) k=(D ((SO p t).getD k 0-p.n):Rat)*p.a ((SO p t).getD k 0-p.n) ((FB p t).getD i 0):=by
 unfold ix;have e:(FB p t)[i]?=some ((FB p t).getD i 0):=by rw [au,aj b];rfl
 rw [au,QU,e];rfl
theorem OR (h:TabOf p t){k:Nat}(a:k<(FB p t).length):(SO p t).getD k 0∈t.others/\p.n<=(SO p t).getD k 0/\(SO p t).getD k 0-p.n<p.m:=by
 have h1:=im (l:=SO p t) (i:=k) (by rw [<- h.len];exact a);obtain ⟨h2,h3⟩:=Lz.1 h1;have h4:=h.ok.lt _ (SN _ h2);exact ⟨h2,h3,by omega⟩
theorem Md (h:TabOf p t)(g:Nat->Rat):sumN (fun j=>if j∈FB p t then g j else 0) p.n=sumN (fun i=>g ((FB p t).getD i 0)) (FB p t).length:=yg (Kx h) fun _ a=>(lZ.1 a).2
theorem N1 (h:TabOf p t){D:Nat->Int}{M:Nat}(x:p.Wh D M):det 0 (ix p t D)≠0:=by
 intro h0;have f:(ix p t D).length=(FB p t).length:=al _;obtain ⟨ys,s,⟨y,hy,z⟩,A⟩:=rU _ 0 _ rfl h0
 -- a second assignment over the same values of the others
 let w:Nat->Rat:=fun v=>if v∈FB p t then ys.getD ((FB p t).idxOf v) 0 else 0
 let u:Nat->Rat:=fun v=>if v<p.n then w v else if v<p.n+p.m then -sumN (fun j=>p.a (v-p.n) j*w j) p.n else 0
 have g:∀ j,j<p.n->u j=w j:=fun j b=>aW b;have B:p.Sol fun v=>t.sol v+u v:=by
  intro r hr;have h1:=(h.sol _).1 (eM h.ok) r hr;have h2:u (p.n+r)=-sumN (fun j=>p.a r j*w j) p.n:=by
   show (if p.n+r<p.n then w (p.n+r) else if p.n+r<p.n+p.m then -sumN (fun j=>p.a (p.n+r-p.n) j*w j) p.n else 0)=_;rw [az om_,aW om_,Sw]
  show t.sol (p.n+r)+u (p.n+r)=_;have h3:sumN (fun j=>p.a r j*(t.sol j+u j)) p.n=sumN (fun j=>p.a r j*t.sol j) p.n+sumN (fun j=>p.a r j*w j) p.n:=by
   rw [<- dv];exact aO fun j b=>by rw [g j b];grind
  rw [h1,h2,h3];grind
 have C:∀ v,v ∉ t.basic->t.sol v+u v=0:=by
  intro v l;rw [sol_oth h.ok l];have E:u v=0:=by
   by_cases h1:v<p.n
   ·rw [g v h1];exact az fun hm=>l (lZ.1 hm).1
   by_cases h2:v<p.n+p.m
   ·have F:v∈t.others:=(h.all h2).resolve_left l;obtain ⟨k,G,e⟩:=dw ((Lz (p:=p) (t:=t)).2 ⟨F,by omega⟩);rw [<- h.len] at G;have o:=A k (QT _) (by rw [f];omega);rw [BG k s,f] at o;have H:sumN (fun j=>ys.getD j 0*((ix p t D).getD j fun _=>0) k) (FB p t).length=(D (v-p.n):Rat)*sumN (fun i=>p.a (v-p.n) ((FB p t).getD i 0)*w ((FB p t).getD i 0)) (FB p t).length:=by
     rw [<- cT];refine aO fun i c=>?_;rw [uS c,e];have I:w ((FB p t).getD i 0)=ys.getD i 0:=by
      show (if (FB p t).getD i 0∈FB p t then ys.getD ((FB p t).idxOf ((FB p t).getD i 0)) 0 else 0)=_;rw [aW (im c),cU (Kx h) c]
     rw [I];grind
    rw [H] at o;have J:(D (v-p.n):Rat)≠0:=by
     have:=(x.d (v-p.n) om_).1;simpa using this
    have hs:sumN (fun i=>p.a (v-p.n) ((FB p t).getD i 0)*w ((FB p t).getD i 0)) (FB p t).length=0:=by
     rcases Rat.mul_eq_zero.1 o with h3 | h3
     ·exact absurd h3 J
     exact h3
    have h4:sumN (fun j=>p.a (v-p.n) j*w j) p.n=0:=by
     rw [<- hs,<- Md h fun j=>p.a (v-p.n) j*w j];refine aO fun j _=>?_;by_cases b:j∈FB p t
     ·rw [aW b]
     rw [az b,show w j=0 from az b];grind
    show (if v<p.n then w v else if v<p.n+p.m then -sumN (fun j=>p.a (v-p.n) j*w j) p.n else 0)=0;rw [az h1,aW h2,h4];grind
   show (if v<p.n then w v else if v<p.n+p.m then -sumN (fun j=>p.a (v-p.n) j*w j) p.n else 0)=0;rw [az h1,az h2]
  rw [E];grind
 have K:=AJ h.ok ((h.sol _).2 B) C;obtain ⟨i,c,e⟩:=List.getElem_of_mem hy;have q:i<(FB p t).length:=by rw [<- f,<- s];exact c
 have h5:=K ((FB p t).getD i 0);have L:u ((FB p t).getD i 0)=y:=by
  rw [g _ (lZ.1 (im q)).2];show (if (FB p t).getD i 0∈FB p t then ys.getD ((FB p t).idxOf ((FB p t).getD i 0)) 0 else 0)=_;rw [aW (im q),cU (Kx h) q,au,aj c,e];rfl
 exact z (by rw [<- L];grind)
end
end Go.Jog.Lp
namespace Go.Jog.Lp
theorem Mc {M:Nat}(a:0<M):∀ {k n:Nat},k<=n->fctM M k<=fctM M n:=by
 intro k n h;induction h with
 | refl=>exact QO _
 | @step m _ b =>
  refine Rb b ?_;show fctM M m<=(m+1)*(M*fctM M m);have:1*(1*fctM M m)<=(m+1)*(M*fctM M m):=SA (Nat.le_add_left 1 _) (SA a (QO _));rw [TQ,TQ] at this;exact this
theorem AE {g:Nat->Rat}{B:Nat}:∀ {n:Nat},(∀ j,j<n->∃ z:Int,g j=z/\z.natAbs<=B)->∃ z:Int,sumN g n=z/\z.natAbs<=n*B
 | 0,_=>⟨0,rfl,by simp⟩
 | n+1,h=>by
  obtain ⟨z,e,b⟩:=AE (g:=g) (n:=n) fun j c=>h j om_;obtain ⟨w,a,d⟩:=h n om_;refine ⟨z+w,by rw [sumN,e,a,Rat.intCast_add], ?_⟩;have:=TD z w;rw [Nat.succ_mul];omega
section
variable {p:Sys} {t:Tab} {D:Nat->Int} {M:Nat}
def bdT (p:Sys)(M:Nat):Nat:=fctM (2*M) p.n
theorem PG (h:TabOf p t):(FB p t).length<=p.n:=by
 have:=List.Nodup.length_le_of_subset (l₂:=List.range p.n) (Kx h) fun v a=>Q9.2 (lZ.1 a).2
 rwa [RL] at this
theorem Ce (h:TabOf p t)(c:p.Wh D M){i k:Nat}(b:i<(FB p t).length)(d:k<(FB p t).length):∃ z:Int,((ix p t D).getD i fun _=>0) k=z/\z.natAbs<=2*M:=by
 rw [uS b];obtain ⟨z,e,f⟩:=c.a _ _ (OR h d).2.2 (lZ.1 (im b)).2;exact ⟨z,e,by omega⟩
theorem B6 (h:TabOf p t)(f:p.Wh D M)(l:0<M):∃ d:Int,det 0 (ix p t D)=d/\d≠0/\d.natAbs<=bdT p M:=by
 have a:(ix p t D).length=(FB p t).length:=al _;obtain ⟨d,e,g⟩:=yY (M:=2*M) (FB p t).length 0 (ix p t D) a fun c j k _ m=>by
  obtain ⟨i,b,e⟩:=List.getElem_of_mem j;rw [a] at b;have:=Ce h f b (show k<(FB p t).length by omega);rw [au,aj (by rw [a];exact b),e] at this;exact this
 refine ⟨d,e, ?_,Rb g (Mc om_ (PG h))⟩;rintro rfl;exact N1 h f (by rw [e];rfl)
theorem LI (h:TabOf p t)(s:p.Wh D M)(N:0<M){x g:Nat->Rat}(B:∀ r,r<p.m->x (p.n+r)=g r-sumN (fun j=>p.a r j*if j∈FB p t then x j else 0) p.n)
  (C:∀ r,r<p.m->∃ z:Int,D r*g r=z/\z.natAbs<=M) (E:∀ v,v∈t.others->p.n<=v->∃ z:Int,x v=z/\z.natAbs<=1) {i:Nat} (F:i<(FB p t).length) :
  ∃ z:Int,x ((FB p t).getD i 0)*det 0 (ix p t D)=z/\z.natAbs<=bdT p M:=by
 have b:(ix p t D).length=(FB p t).length:=al _;have q:=PJ (l:=ix p t D) (i:=i) (by rw [b];exact F) (fun j=>x ((FB p t).getD j 0)) 0;rw [<- q];have G:∀ k,k<(FB p t).length->∃ z:Int,KQ (ix p t D) (fun j=>x ((FB p t).getD j 0)) (ix p t D).length k=z/\z.natAbs<=2*M:=by
  intro k u;obtain ⟨H,I,o⟩:=OR h u;obtain ⟨r,hr⟩:∃ r,(SO p t).getD k 0-p.n=r:=⟨_,rfl⟩;rw [hr] at o;have J:(SO p t).getD k 0=p.n+r:=by omega
  have e:KQ (ix p t D) (fun j=>x ((FB p t).getD j 0)) (ix p t D).length k=(D r:Rat)*(g r-x (p.n+r)):=by
   have h4:=B r o;have h5:sumN (fun j=>p.a r j*if j∈FB p t then x j else 0) p.n=sumN (fun j=>if j∈FB p t then p.a r j*x j else 0) p.n:=aO fun j _=>by
    split
    ·rfl
    grind
   rw [h5,Md h] at h4;have K:g r-x (p.n+r)=sumN (fun i=>p.a r ((FB p t).getD i 0)*x ((FB p t).getD i 0)) (FB p t).length:=by rw [h4];grind
   rw [K,<- cT];unfold KQ;rw [b];refine aO fun j f=>?_;rw [uS f,hr];grind
  obtain ⟨z,ez,y⟩:=C r o;obtain ⟨w,A,L⟩:=E _ H I;rw [J] at A;refine ⟨z-D r*w, ?_, ?_⟩
  ·rw [e,A,Tq,RS,<- ez];grind
  have h5:=(s.d r o).2;have O:(D r*w).natAbs<=M*1:=by rw [SB];exact SA h5 L
  omega
 obtain ⟨z,ez,y⟩:=yY (M:=2*M) (FB p t).length 0 ((ix p t D).set i (KQ (ix p t D) (fun j=>x ((FB p t).getD j 0)) (ix p t D).length)) (by rw [RK,b]) fun c q k _ u=>by
  rcases Ts q with hm | rfl
  ·obtain ⟨j,f,e⟩:=List.getElem_of_mem hm;rw [b] at f;have:=Ce h s f (show k<(FB p t).length by omega);rw [au,aj (by rw [b];exact f),e] at this;exact this
  exact G k om_
 exact ⟨z,ez,Rb y (Mc om_ (PG h))⟩
theorem yu (h:TabOf p t)(c:p.Wh D M)(f:0<M){x g:Nat->Rat}(q:∀ r,r<p.m->x (p.n+r)=g r-sumN (fun j=>p.a r j*if j∈FB p t then x j else 0) p.n)
  (s:∀ r,r<p.m->∃ z:Int,D r*g r=z/\z.natAbs<=M) (u:∀ v,v∈t.others->p.n<=v->∃ z:Int,x v=z/\z.natAbs<=1)
  {a0:Nat->Rat} {b0:Rat} {b:Int} (k:b≠0/\b.natAbs<=M) (w:∀ j,j<p.n->∃ z:Int,b*a0 j=z/\z.natAbs<=M) (y:∃ z:Int,b*b0=z/\z.natAbs<=M) :
  Quo ((p.n+1)*(M*bdT p M)) (b0-sumN (fun j=>a0 j*if j∈FB p t then x j else 0) p.n):=by
 obtain ⟨d,A,B,l⟩:=B6 h c f;obtain ⟨o,C,E⟩:=y;have hs:∃ z:Int,sumN (fun j=>(b*a0 j)*((if j∈FB p t then x j else 0)*d)) p.n=z/\z.natAbs<=p.n*(M*bdT p M):=AE fun j F=>by
  obtain ⟨G,H,I⟩:=w j F;by_cases hm:j∈FB p t
  ·obtain ⟨i,J,e⟩:=dw hm;obtain ⟨z,ez,K⟩:=LI h c f q s u J;rw [e,A] at ez;refine ⟨G*z, ?_, ?_⟩
   ·rw [aW hm,H,ez,RS]
   rw [SB];exact SA I K
  refine ⟨0, ?_,QT _⟩;rw [az hm];show _=(0:Rat);grind
 obtain ⟨L,N,O⟩:=hs;refine ⟨o*d-L,b*d,Int.mul_ne_zero k.1 B, ?_, ?_, ?_⟩
 ·rw [Tq,RS,RS,<- N,<- C];have e:sumN (fun j=>(b*a0 j)*((if j∈FB p t then x j else 0)*d)) p.n=(b*d:Rat)*sumN (fun j=>a0 j*if j∈FB p t then x j else 0) p.n:=by
   rw [<- cT];exact aO fun j _=>by grind
  rw [e];grind
 ·have h4:(o*d).natAbs<=M*bdT p M:=by rw [SB];exact SA E l
  rw [Nat.succ_mul];omega
 have h4:(b*d).natAbs<=M*bdT p M:=by rw [SB];exact SA k.2 l
 rw [Nat.succ_mul];omega
end
end Go.Jog.Lp
namespace Go.Jog.Lp
section
variable {p:Sys} {t:Tab} {D:Nat->Int} {M:Nat}
theorem TabOf.pivot (h:TabOf p t){r s:Nat}(a:r<t.basic.length)(b:s<t.others.length)(c:(t.line r).g s≠0):TabOf p (t.pivot r s) :=
 ⟨Bo h.ok a b,List.length_set.trans h.lb,List.length_set.trans h.lo,fun x=>(wC h.ok a b c).trans (h.sol x)⟩
def ObjOf (p:Sys)(t:Tab)(w0:Rat)(cc:Nat->Rat):Prop:=∀ x,p.Sol x->t.W x=w0+sumN (fun j=>cc j*x j) p.n
theorem ObjOf.pivot {a:Rat}{b:Nat->Rat}(d:ObjOf p t a b)(h:TabOf p t){r s:Nat}(e:r<t.basic.length)(f:s<t.others.length)(i:(t.line r).g s≠0):ObjOf p (t.pivot r s) a b :=
 fun x c=>(F3 h.ok e f i ((h.sol x).2 c)).trans (d x c)
def bdQ (p:Sys)(M:Nat):Nat:=(p.n+1)*(M*bdT p M)
theorem Mk (a:0<M):bdT p M<=bdQ p M:=by
 have:1*(1*bdT p M)<=(p.n+1)*(M*bdT p M):=SA (Nat.le_add_left 1 _) (SA a (QO _))
 rwa [TQ,TQ] at this
theorem FO (h:TabOf p t)(b:p.Wh D M)(c:0<M){x o:Nat->Rat}(g:∀ r,r<p.m->x (p.n+r)=o r-sumN (fun j=>p.a r j*if j∈FB p t then x j else 0) p.n)
  (l:∀ r,r<p.m->∃ z:Int,D r*o r=z/\z.natAbs<=M) (q:∀ v,v∈t.others->p.n<=v->∃ z:Int,x v=z/\z.natAbs<=1) {i:Nat} (s:i<t.basic.length):Quo (bdQ p M) (x (t.bas i)):=by
 by_cases u:t.bas i<p.n
 ·obtain ⟨k,w,e⟩:=dw (lZ.2 ⟨bas_mem s,u⟩:t.bas i∈FB p t);obtain ⟨z,ez,y⟩:=LI h b c g l q w;obtain ⟨d,A,B,C⟩:=B6 h b c;rw [e,A] at ez;exact ⟨z,d,B,ez,Rb y (Mk c),Rb C (Mk c)⟩
 have G:=h.ok.lt _ (Q6.2 (.inl (bas_mem s)));obtain ⟨r,hr⟩:∃ r,t.bas i-p.n=r:=⟨_,rfl⟩;have E:t.bas i=p.n+r:=by omega
 have f:r<p.m:=by omega
 rw [E,g r f];exact yu h b c g l q (b.d r f) (fun j F=>b.a r j f F) (l r f)
theorem Ly (h:TabOf p t){j:Nat}(a:j<p.n):t.sol j=if j∈FB p t then t.sol j else 0:=by
 split
 ·rfl
 next b=>exact sol_oth h.ok fun c=>b (lZ.2 ⟨c,a⟩)
theorem Ff (h:TabOf p t)(r:Nat)(c:r<p.m):t.sol (p.n+r)=p.b r-sumN (fun j=>p.a r j*if j∈FB p t then t.sol j else 0) p.n:=by
 rw [(h.sol _).1 (eM h.ok) r c];congr 1;exact aO fun j d=>by rw [<- Ly h d]
theorem Lx (h:TabOf p t)(v:Nat)(a:v∈t.others):∃ z:Int,t.sol v=z/\z.natAbs<=1:=⟨0,by rw [sol_oth h.ok fun b=>h.ok.dj b a];rfl,by decide⟩
theorem N6 (h:TabOf p t)(a:p.Wh D M)(e:0<M){i:Nat}(d:i<t.basic.length):Quo (bdQ p M) (t.line i).c:=by
 rw [<- sol_bas h.ok d];exact FO h a e (Ff h) a.b (fun v f _=>Lx h v f) d
def Tab.dir (t:Tab)(s v:Nat):Rat:=t.ext (dx (t.oth s)) v-t.sol v
theorem dir_bas (h:TabOf p t){s i:Nat}(b:s<t.others.length)(a:i<t.basic.length):t.dir s (t.bas i)=(t.line i).g s:=by
 unfold Tab.dir;rw [uH h.ok a,pN h.ok b,sol_bas h.ok a];grind
theorem dir_oth (h:TabOf p t){s v:Nat}(a:v ∉ t.basic):t.dir s v=if v=t.oth s then 1 else 0:=by
 unfold Tab.dir;rw [uG h.ok a,sol_oth h.ok a];unfold dx;split <;> grind
theorem Hx (h:TabOf p t){s:Nat}(d:s<t.others.length)(g:Nat->Rat) :
  sumN (fun j=>g j*t.dir s j) p.n=(if t.oth s<p.n then g (t.oth s) else 0)+sumN (fun j=>g j*if j∈FB p t then t.dir s j else 0) p.n:=by
 have f:t.oth s ∉ t.basic:=fun a=>h.ok.dj a (oth_mem d);have e:∀ j,j<p.n->g j*t.dir s j=(if j=t.oth s then g j else 0)+g j*(if j∈FB p t then t.dir s j else 0):=by
  intro j b;by_cases a:j∈FB p t
  ·rw [aW a,az (fun e:j=t.oth s=>f (e ▸ (lZ.1 a).1))];grind
  rw [az a,dir_oth h fun i=>a (lZ.2 ⟨i,b⟩)];split <;> grind
 rw [aO e,dv];congr 1;split
 ·next c =>
  rw [gU c,aW rfl,ci fun j _=>?_]
  ·grind
  split <;> rfl
 next c=>exact ci fun j b=>az fun e:j=t.oth s=>c (e ▸ b)
def hhD (p:Sys)(t:Tab)(s r:Nat):Rat:=if t.oth s<p.n then -p.a r (t.oth s) else 0
theorem Hy (h:TabOf p t){s:Nat}(d:s<t.others.length)(r:Nat)(c:r<p.m):t.dir s (p.n+r)=hhD p t s r-sumN (fun j=>p.a r j*if j∈FB p t then t.dir s j else 0) p.n:=by
 have h1:=(h.sol _).1 (nf h.ok (dx (t.oth s))) r c;have h2:=(h.sol _).1 (eM h.ok) r c;have h3:=Hx h d (p.a r);have h4:sumN (fun j=>p.a r j*t.dir s j) p.n=sumN (fun j=>p.a r j*t.ext (dx (t.oth s)) j) p.n-sumN (fun j=>p.a r j*t.sol j) p.n:=by
  have h5:=dv (fun j=>p.a r j*t.dir s j) (fun j=>p.a r j*t.sol j) p.n;rw [show sumN (fun j=>p.a r j*t.dir s j+p.a r j*t.sol j) p.n=sumN (fun j=>p.a r j*t.ext (dx (t.oth s)) j) p.n from aO fun j _=>by unfold Tab.dir;grind] at h5;grind
 have e:t.dir s (p.n+r)=t.ext (dx (t.oth s)) (p.n+r)-t.sol (p.n+r):=rfl;unfold hhD;rw [e,h1,h2];split at h3
 ·next b=>rw [aW b];grind
 next b=>rw [az b];grind
theorem G9 (b:p.Wh D M)(s:Nat)(r:Nat)(c:r<p.m):∃ z:Int,D r*hhD p t s r=z/\z.natAbs<=M:=by
 unfold hhD;split
 ·next d =>
  obtain ⟨z,e,f⟩:=b.a r _ c d;exact ⟨-z,by rw [Rat.intCast_neg,<- e];grind,by omega⟩
 exact ⟨0,by show _=(0:Rat);grind,QT _⟩
theorem Me (h:TabOf p t){s:Nat}(v:Nat)(a:v∈t.others):∃ z:Int,t.dir s v=z/\z.natAbs<=1:=by
 rw [dir_oth h fun b=>h.ok.dj b a];split
 ·exact ⟨1,Z,by decide⟩
 exact ⟨0,Z,by decide⟩
theorem NT (h:TabOf p t)(a:p.Wh D M)(d:0<M){i s:Nat}(b:i<t.basic.length)(c:s<t.others.length):Quo (bdQ p M) ((t.line i).g s):=by
 rw [<- dir_bas h c b];exact FO h a d (Hy h c) (G9 a s) (fun v e _=>Me h v e) b
variable {w0:Rat} {cc:Nat->Rat}
theorem IH (h:TabOf p t)(f:p.Wh D M)(g:0<M)(i:ObjOf p t w0 cc){a:Int}(k:a≠0/\a.natAbs<=M)(l:∀ j,j<p.n->∃ z:Int,a*cc j=z/\z.natAbs<=M)(m:∃ z:Int,a*w0=z/\z.natAbs<=M):Quo (bdQ p M) t.worth.c:=by
 rw [<- CY h.ok,i _ ((h.sol _).1 (eM h.ok))];have:=yu h f g (Ff h) f.b (fun v o _=>Lx h v o) (a0:=fun j=>-cc j) (b0:=w0) k (fun j d=>by obtain ⟨z,e,q⟩:=l j d;exact ⟨-z,by rw [Rat.intCast_neg,<- e];grind,by omega⟩) m;rw [show w0+sumN (fun j=>cc j*t.sol j) p.n=w0-sumN (fun j=>-cc j*if j∈FB p t then t.sol j else 0) p.n from ?_]
 ·exact this
 have e:sumN (fun j=>-cc j*if j∈FB p t then t.sol j else 0) p.n=-1*sumN (fun j=>cc j*t.sol j) p.n:=by
  rw [<- cT];exact aO fun j d=>by rw [<- Ly h d];grind
 rw [e];grind
theorem IG (h:TabOf p t)(d:p.Wh D M)(l:0<M)(f:ObjOf p t w0 cc){a:Int}(m:a≠0/\a.natAbs<=M)(i:∀ j,j<p.n->∃ z:Int,a*cc j=z/\z.natAbs<=M){s:Nat}(b:s<t.others.length):Quo (bdQ p M) (t.worth.g s):=by
 have h1:=f _ ((h.sol _).1 (nf h.ok (dx (t.oth s))));have h2:=f _ ((h.sol _).1 (eM h.ok));rw [CY h.ok] at h2;have h3:t.W (t.ext (dx (t.oth s)))=t.worth.c+t.worth.g s:=by
  unfold Tab.W;rw [wQ h.ok,pN h.ok b]
 have h4:sumN (fun j=>cc j*t.dir s j) p.n=sumN (fun j=>cc j*t.ext (dx (t.oth s)) j) p.n-sumN (fun j=>cc j*t.sol j) p.n:=by
  have h5:=dv (fun j=>cc j*t.dir s j) (fun j=>cc j*t.sol j) p.n;rw [show sumN (fun j=>cc j*t.dir s j+cc j*t.sol j) p.n=sumN (fun j=>cc j*t.ext (dx (t.oth s)) j) p.n from aO fun j _=>by unfold Tab.dir;grind] at h5;grind
 have h5:t.worth.g s=(if t.oth s<p.n then cc (t.oth s) else 0)-sumN (fun j=>-cc j*if j∈FB p t then t.dir s j else 0) p.n:=by
  have e:sumN (fun j=>-cc j*if j∈FB p t then t.dir s j else 0) p.n=-1*sumN (fun j=>cc j*if j∈FB p t then t.dir s j else 0) p.n:=by
   rw [<- cT];exact aO fun j k=>by grind
  have r:=Hx h b cc;rw [e];grind
 rw [h5];exact yu h d l (Hy h b) (G9 d s) (fun v o _=>Me h v o) m (fun j k=>by obtain ⟨z,e,u⟩:=i j k;exact ⟨-z,by rw [Rat.intCast_neg,<- e];grind,by omega⟩) (by
  split
  ·next q=>exact i _ q
  exact ⟨0,by show _=(0:Rat);grind,QT _⟩)
end
end Go.Jog.Lp
namespace Go.Jog.Lp
theorem rK (g:Nat->Rat)(n:Nat):∀ m,sumN g (n+m)=sumN g n+sumN (fun r=>g (n+r)) m
 | 0=>by show sumN g n=sumN g n+0;grind
 | m+1=>by
  show sumN g (n+m+1)=_;rw [sumN,sumN,rK g n m];grind
theorem oO {g:Nat->Rat}{k n:Nat}(a:k<n):sumN (fun j=>g j*dx k j) n=g k:=by
 rw [gU a,ci fun j _=>?_]
 ·unfold dx;rw [aW rfl];grind
 unfold dx;split
 ·rfl
 grind
section
variable {p:Sys} {t:Tab}
def Sys.full (p:Sys)(y:Nat->Rat)(v:Nat):Rat:=if v<p.n then y v else p.b (v-p.n)-sumN (fun j=>p.a (v-p.n) j*y j) p.n
theorem xe {y:Nat->Rat}{v:Nat}(h:v<p.n):p.full y v=y v:=aW h
theorem sw {y:Nat->Rat}(r:Nat):p.full y (p.n+r)=p.b r-sumN (fun j=>p.a r j*y j) p.n:=by
 unfold Sys.full;rw [az om_,Sw]
theorem Kn (y:Nat->Rat):p.Sol (p.full y):=by
 intro r hr;rw [sw];congr 1;exact aO fun j a=>by rw [xe a]
def dualV (p:Sys)(t:Tab)(l:Line)(r:Nat):Rat:=if p.n+r∈t.others then l.g (t.others.idxOf (p.n+r)) else 0
theorem dualV_at (h:TabOf p t){l:Line}{s:Nat}(a:s<t.others.length)(b:p.n<=t.oth s):dualV p t l (t.oth s-p.n)=l.g s:=by
 unfold dualV;rw [show p.n+(t.oth s-p.n)=t.oth s by omega,aW (oth_mem a)];congr 1;exact cU h.ok.no a
theorem dualV_none {l:Line}{r:Nat}(h:p.n+r ∉ t.others):dualV p t l r=0:=az h
theorem iq (h:TabOf p t)(l:Line)(r:Nat):dualV p t l r=0∨∃ s,s<t.others.length/\t.oth s=p.n+r/\dualV p t l r=l.g s:=by
 by_cases hm:p.n+r∈t.others
 ·obtain ⟨s,hs,e⟩:=dw hm;have a:t.oth s=p.n+r:=e;refine .inr ⟨s,hs,a, ?_⟩;have:=dualV_at h (l:=l) hs om_
  rwa [a,Sw] at this
 exact .inl (dualV_none hm)
theorem GI (h:TabOf p t){l:Line}(b:∀ s,s<t.others.length->t.oth s<p.n->l.g s=0)(x:Nat->Rat):lv l t.others x=l.c+sumN (fun r=>dualV p t l r*x (p.n+r)) p.m:=by
 have h1:=yg (g:=fun v=>l.g (t.others.idxOf v)*x v) (n:=p.n+p.m) h.ok.no fun v a=>h.ok.lt v (Q6.2 (.inr a));have h2:sumN (fun j=>l.g j*x (t.others.getD j 0)) t.others.length=sumN (fun q=>(fun v=>l.g (t.others.idxOf v)*x v) (t.others.getD q 0)) t.others.length:=aO fun j d=>by
  show _=l.g (t.others.idxOf (t.others.getD j 0))*_;rw [cU h.ok.no d]
 unfold lv;rw [h2,<- h1,rK,ci fun v a=>?_]
 ·congr 1;rw [show (0:Rat)+sumN (fun r=>if p.n+r∈t.others then l.g (t.others.idxOf (p.n+r))*x (p.n+r) else 0) p.m=sumN (fun r=>if p.n+r∈t.others then l.g (t.others.idxOf (p.n+r))*x (p.n+r) else 0) p.m from by grind];refine aO fun r _=>?_;unfold dualV;split <;> grind
 split
 ·next hm =>
  obtain ⟨s,hs,e⟩:=dw hm;have f:t.oth s=v:=e;rw [<- e,cU h.ok.no hs,b s hs om_];grind
 rfl
theorem cert {y:Nat->Rat}{q0 e0:Rat}{ee:Nat->Rat}(h:∀ x,p.Sol x->q0+sumN (fun r=>y r*x (p.n+r)) p.m=e0+sumN (fun j=>ee j*x j) p.n) :
  q0+sumN (fun r=>y r*p.b r) p.m=e0/\∀ j,j<p.n->sumN (fun r=>y r*p.a r j) p.m=-ee j:=by
 have d:∀ u:Nat->Rat,q0+sumN (fun r=>y r*(p.b r-sumN (fun j=>p.a r j*u j) p.n)) p.m=e0+sumN (fun j=>ee j*u j) p.n:=by
  intro u;have:=h _ (Kn (p:=p) u);rw [aO (g:=fun r=>y r*p.full u (p.n+r)) (h:=fun r=>y r*(p.b r-sumN (fun j=>p.a r j*u j) p.n)) fun r _=>by rw [sw],aO (g:=fun j=>ee j*p.full u j) (h:=fun j=>ee j*u j) fun j c=>by rw [xe c]] at this;exact this
 have h0:q0+sumN (fun r=>y r*p.b r) p.m=e0:=by
  have:=d fun _=>0;rw [ci (g:=fun j=>ee j*(0:Rat)) fun j _=>by grind,aO (h:=fun r=>y r*p.b r) fun r _=>by rw [ci fun j _=>by grind];grind] at this;grind
 refine ⟨h0,fun j c=>?_⟩;have h1:=d (dx j);rw [oO c,aO (h:=fun r=>y r*p.b r + -1*(y r*p.a r j)) fun r _=>by rw [oO c];grind,dv,cT] at h1;grind
def Rel (F:Nat)(t:Tab)(k:Nat):Prop:=∀ s,s<k->s<t.others.length->t.oth s<F->∀ i,i<t.basic.length->F<=t.bas i->(t.line i).g s=0
theorem rel_pivot {F N k r s:Nat}(h:t.Ok N)(n:Rel F t k)(d:r<t.basic.length)(q:s<t.others.length)(u:F<=t.bas r):Rel F (t.pivot r s) k:=by
 intro b o j a i c l;have v:(t.pivot r s).basic.length=t.basic.length:=RK;have w:(t.pivot r s).others.length=t.others.length:=RK;rw [w] at j;rw [v] at c;rw [pC q] at a;rw [wD d] at l;have m:b≠s:=by
  intro e;rw [aW e] at a;omega
 rw [az m] at a;have x:=n b o j a r d u;have z:(t.line r).f.length=t.others.length:=h.fl _ (line_mem h d);have A:(t.line i).f.length=t.others.length:=h.fl _ (line_mem h c);have p:(byL (t.line r) s).g b=0:=by
  rw [byL_g om_,az m,x];grind
 rw [pivot_line (by rw [h.ll];exact c)];split
 ·exact p
 next y =>
 rw [az y] at l;rw [FT om_,az m,n b o j a i c l,p];grind
theorem rel_next {F N r s:Nat}(h:t.Ok N)(d:Rel F t s)(f:r<t.basic.length)(a:s<t.others.length)(g:F<=t.bas r):Rel F (t.pivot r s) (s+1):=by
 intro b m j c i k l;by_cases e:b=s
 ·rw [e,pC a,aW rfl] at c;omega
 exact rel_pivot h d f a g b om_ j c i k l
theorem rel_none {F s:Nat}(d:Rel F t s)(f:∀ i,i<t.basic.length->F<=t.bas i->(t.line i).g s=0):Rel F t (s+1):=by
 intro a k h j i b c;by_cases e:a=s
 ·rw [e];exact f i b c
 exact d a om_ h j i b c
theorem I2 (h:TabOf p t)(r:Nat)(c:r<p.m):t.sol (p.n+r)=p.b r-sumN (fun j=>p.a r j*t.sol j) p.n:=(h.sol _).1 (eM h.ok) r c
theorem sE (h:TabOf p t)(f:t.Feas p.n)(r:Nat)(g:r<p.m):sumN (fun j=>p.a r j*t.sol j) p.n<=p.b r:=by
 have h1:=I2 h r g;have h2:0<=t.sol (p.n+r):=by
  by_cases c:p.n+r∈t.basic
  ·obtain ⟨i,d,e⟩:=dw c;have k:t.bas i=p.n+r:=e;rw [<- k,sol_bas h.ok d];exact f i d om_
  rw [sol_oth h.ok c];exact Rat.le_refl
 grind
def refV (p:Sys)(t:Tab)(i r:Nat):Rat:=if r=t.bas i-p.n then 1 else -dualV p t (t.line i) r
theorem O6 (h:TabOf p t)(k:Rel p.n t p.n){i:Nat}(d:i<t.basic.length)(l:p.n<=t.bas i)(o:∀ s,s<t.others.length->p.n<=t.oth s->(t.line i).g s<=0) :
  (∀ r,0<=refV p t i r)/\sumN (fun r=>refV p t i r*p.b r) p.m=(t.line i).c/\∀ j,j<p.n->sumN (fun r=>refV p t i r*p.a r j) p.m=0:=by
 have B:=h.ok.lt _ (Q6.2 (.inl (bas_mem d)));have q:∀ s,s<t.others.length->t.oth s<p.n->(t.line i).g s=0:=fun s hs f=>k s (by rw [<- h.lo];exact hs) hs f i d l;have u:dualV p t (t.line i) (t.bas i-p.n)=0:=dualV_none (by rw [show p.n+(t.bas i-p.n)=t.bas i by omega];exact fun f=>h.ok.dj (bas_mem d) f);have v:∀ r,dualV p t (t.line i) r<=0:=fun r=>by
  rcases iq h (t.line i) r with e | ⟨s,hs,C,w⟩
  ·rw [e];exact Rat.le_refl
  rw [w];exact o s hs om_
 have y:∀ x,p.Sol x->-(t.line i).c+sumN (fun r=>refV p t i r*x (p.n+r)) p.m=0+sumN (fun j=>(0:Rat)*x j) p.n:=by
  intro x z;have h1:=(h.sol x).2 z i d;rw [GI h q] at h1;have h2:∀ r,r<p.m->refV p t i r*x (p.n+r)=x (p.n+r)*dx (t.bas i-p.n) r + -1*(dualV p t (t.line i) r*x (p.n+r)):=by
   intro r _;unfold refV dx;split
   ·next e=>rw [e,u];grind
   grind
  rw [aO h2,dv,cT,oO (g:=fun r=>x (p.n+r)) (show t.bas i-p.n<p.m by omega),ci (g:=fun j=>(0:Rat)*x j) fun j _=>by grind];rw [show p.n+(t.bas i-p.n)=t.bas i by omega,h1];grind
 obtain ⟨D,c2⟩:=cert y;refine ⟨fun r=>?_,by grind,fun j A=>by rw [c2 j A];decide⟩;unfold refV;split
 ·decide
 have:=v r;grind
theorem Kz (h:TabOf p t){d:Rat}{f:Nat->Rat}(i:ObjOf p t d f)(k:∀ s,s<t.others.length->t.oth s<p.n->t.worth.g s=0)(l:∀ s,s<t.others.length->p.n<=t.oth s->0<=t.worth.g s) :
  (∀ r,0<=dualV p t t.worth r)/\t.worth.c+sumN (fun r=>dualV p t t.worth r*p.b r) p.m=d/\(∀ j,j<p.n->sumN (fun r=>dualV p t t.worth r*p.a r j) p.m=-f j)/\d+sumN (fun j=>f j*t.sol j) p.n=t.worth.c:=by
 obtain ⟨o,c2⟩:=cert (p:=p) (y:=dualV p t t.worth) (q0:=t.worth.c) (e0:=d) (ee:=f) fun x q=>by rw [<- i x q,<- GI h k];rfl
 refine ⟨fun r=>?_,o,c2, ?_⟩
 ·rcases iq h t.worth r with e | ⟨s,hs,v,u⟩
  ·rw [e];exact Rat.le_refl
  rw [u];exact l s hs om_
 rw [<- i _ ((h.sol _).1 (eM h.ok)),CY h.ok]
end
end Go.Jog.Lp
namespace Go.Jog.Lp
section
variable {p:Sys} {t:Tab}
theorem NX (h:TabOf p t)(s:Nat){r:Nat}(b:r<p.m):sumN (fun j=>p.a r j*t.dir s j) p.n=-t.dir s (p.n+r):=by
 have h1:=(h.sol _).1 (nf h.ok (dx (t.oth s))) r b;have h2:=(h.sol _).1 (eM h.ok) r b;have h5:=dv (fun j=>p.a r j*t.dir s j) (fun j=>p.a r j*t.sol j) p.n;rw [show sumN (fun j=>p.a r j*t.dir s j+p.a r j*t.sol j) p.n=sumN (fun j=>p.a r j*t.ext (dx (t.oth s)) j) p.n from aO fun j _=>by unfold Tab.dir;grind] at h5;have c:t.dir s (p.n+r)=t.ext (dx (t.oth s)) (p.n+r)-t.sol (p.n+r):=rfl;rw [c,h1,h2];grind
theorem Hw (h:TabOf p t){d:Rat}{a:Nat->Rat}(b:ObjOf p t d a){s:Nat}(e:s<t.others.length):sumN (fun j=>a j*t.dir s j) p.n=t.worth.g s:=by
 have h1:=b _ ((h.sol _).1 (nf h.ok (dx (t.oth s))));have h2:=b _ ((h.sol _).1 (eM h.ok));rw [CY h.ok] at h2;have h3:t.W (t.ext (dx (t.oth s)))=t.worth.c+t.worth.g s:=by
  unfold Tab.W;rw [wQ h.ok,pN h.ok e]
 have h5:=dv (fun j=>a j*t.dir s j) (fun j=>a j*t.sol j) p.n;rw [show sumN (fun j=>a j*t.dir s j+a j*t.sol j) p.n=sumN (fun j=>a j*t.ext (dx (t.oth s)) j) p.n from aO fun j _=>by unfold Tab.dir;grind] at h5;grind
theorem O8 (h:TabOf p t){o:Rat}{b:Nat->Rat}(q:ObjOf p t o b){s:Nat}(c:s<t.others.length){k:Rat}(u:k*t.worth.g s<0)
  (v:∀ i,i<t.basic.length->p.n<=t.bas i->0<=k*(t.line i).g s) (w:p.n<=t.oth s->0<=k) :
  (∀ r,r<p.m->sumN (fun j=>p.a r j*(k*t.dir s j)) p.n<=0)/\sumN (fun j=>b j*(k*t.dir s j)) p.n<0:=by
 have e:∀ f:Nat->Rat,sumN (fun j=>f j*(k*t.dir s j)) p.n=k*sumN (fun j=>f j*t.dir s j) p.n:=fun f=>by
  rw [<- cT];exact aO fun j _=>by grind
 refine ⟨fun r hr=>?_,by rw [e,Hw h q c];exact u⟩;rw [e,NX h s hr];have h2:0<=k*t.dir s (p.n+r):=by
  by_cases d:p.n+r∈t.basic
  ·obtain ⟨i,l,e⟩:=dw d;have x:t.bas i=p.n+r:=e;rw [<- x,dir_bas h c l];exact v i l om_
  rw [dir_oth h d];split
  ·next e=>have:=w om_;grind
  have:k*0=0:=Rat.mul_zero k;rw [this];exact Rat.le_refl
 grind
def RelW (F:Nat)(t:Tab):Prop:=∀ s,s<t.others.length->t.oth s<F->t.worth.g s=0
theorem relw_pivot {F N r s:Nat}(h:t.Ok N)(k:∀ s,s<t.others.length->t.oth s<F->∀ i,i<t.basic.length->F<=t.bas i->(t.line i).g s=0)(l:RelW F t)(j:r<t.basic.length)(m:s<t.others.length)(n:F<=t.bas r):RelW F (t.pivot r s):=by
 intro a c b;have o:(t.pivot r s).others.length=t.others.length:=RK;rw [o] at c;rw [pC m] at b;have d:a≠s:=by
  intro e;rw [aW e] at b;omega
 rw [az d] at b;have p:=k a c b r j n;have u:(t.line r).f.length=t.others.length:=h.fl _ (line_mem h j);have q:(byL (t.line r) s).g a=0:=by
  rw [byL_g om_,az d,p];grind
 show (putL t.worth s (byL (t.line r) s)).g a=0;rw [FT (by rw [h.wl];exact c),az d,l a c b,q];grind
inductive LeastR (vs:List Nat) (q:Nat->Prop) (n:Nat):Int->Prop where
 | none:(∀ i,i<n->¬ q i)->LeastR vs q n (-1)
 | some (i:Nat):i<n->q i->(∀ j,j<n->q j->vs.getD i 0<=vs.getD j 0)->LeastR vs q n i
theorem LeastR.no {b:List Nat}{q:Nat->Prop}{n:Nat}{o:Int}(h:LeastR b q n o)(c:¬ q n):LeastR b q (n+1) o:=by
 cases h with
 | none h=>exact .none fun i d a=>by rcases Nat.lt_or_eq_of_le (Nat.le_of_lt_succ d) with h1 | h1;exact h i h1 a;exact c (h1 ▸ a)
 | some i d a hm=>exact .some i om_ a fun j f e=>by rcases Nat.lt_or_eq_of_le (Nat.le_of_lt_succ f) with h1 | h1;exact hm j h1 e;exact absurd (h1 ▸ e) c
theorem LeastR.first {a:List Nat}{q:Nat->Prop}{n:Nat}(h:LeastR a q n (-1))(b:q n):LeastR a q (n+1) n:=by
 have h1:∀ i,i<n->¬ q i:=by
  generalize e:(-1:Int)=o at h;cases h with
  | none h=>exact h
  | some i=>omega
 exact .some n om_ b fun j c d=>by rcases Nat.lt_or_eq_of_le (Nat.le_of_lt_succ c) with h2 | h2;exact absurd d (h1 j h2);rw [h2];exact QO _
theorem LeastR.less {a:List Nat}{q:Nat->Prop}{n i:Nat}(h:LeastR a q n i)(c:q n)(e:a.getD n 0<a.getD i 0):LeastR a q (n+1) n:=by
 generalize f:(i:Int)=o at h;cases h with
 | none h=>omega
 | some k g b hm =>
  obtain rfl:i=k:=by omega
  exact .some n om_ c fun j d b=>by rcases Nat.lt_or_eq_of_le (Nat.le_of_lt_succ d) with h2 | h2;have:=hm j h2 b;omega;rw [h2];exact QO _
theorem LeastR.keep {a:List Nat}{q:Nat->Prop}{n i:Nat}(h:LeastR a q n i)(d:¬ a.getD n 0<a.getD i 0):LeastR a q (n+1) i:=by
 generalize e:(i:Int)=o at h;cases h with
 | none h=>omega
 | some k f b hm =>
  obtain rfl:i=k:=by omega
  exact .some i om_ b fun j c b=>by rcases Nat.lt_or_eq_of_le (Nat.le_of_lt_succ c) with h2 | h2;exact hm j h2 b;rw [h2];omega
inductive LeaveR (F:Nat) (t:Tab) (s n:Nat):Int->Prop where
 | none:(∀ i,i<n->F<=t.bas i->0<=(t.line i).g s)->LeaveR F t s n (-1)
 | some (r:Nat):r<n->F<=t.bas r->(t.line r).g s<0 ->
   (∀ i,i<n->F<=t.bas i->(t.line i).g s<0->(t.line r).c / -(t.line r).g s<(t.line i).c / -(t.line i).g s∨(t.line r).c / -(t.line r).g s=(t.line i).c / -(t.line i).g s/\t.bas r<=t.bas i)->LeaveR F t s n r
theorem LeaveR.no {F s n:Nat}{o:Int}(h:LeaveR F t s n o)(c:F<=t.bas n->0<=(t.line n).g s):LeaveR F t s (n+1) o:=by
 cases h with
 | none h=>exact .none fun i e a=>by rcases Nat.lt_or_eq_of_le (Nat.le_of_lt_succ e) with h1 | h1;exact h i h1 a;rw [h1] at a ⊢;exact c a
 | some r hr a f hm =>
  refine .some r om_ a f fun j k b d=>?_;rcases Nat.lt_or_eq_of_le (Nat.le_of_lt_succ k) with h1 | h1
  ·exact hm j h1 b d
  rw [h1] at b d;have:=c b;grind
theorem LeaveR.first {F s n:Nat}(h:LeaveR F t s n (-1))(a:F<=t.bas n)(b:(t.line n).g s<0):LeaveR F t s (n+1) n:=by
 have h1:∀ i,i<n->F<=t.bas i->0<=(t.line i).g s:=by
  generalize e:(-1:Int)=o at h;cases h with
  | none h=>exact h
  | some i=>omega
 refine .some n om_ a b fun j c d f=>?_;rcases Nat.lt_or_eq_of_le (Nat.le_of_lt_succ c) with h2 | h2
 ·have:=h1 j h2 d;grind
 rw [h2];exact .inr ⟨rfl,QO _⟩
theorem LeaveR.less {F s n r:Nat}(h:LeaveR F t s n r)(a:F<=t.bas n)(b:(t.line n).g s<0)
  (d:(t.line n).c / -(t.line n).g s<(t.line r).c / -(t.line r).g s∨(t.line n).c / -(t.line n).g s=(t.line r).c / -(t.line r).g s/\t.bas n<=t.bas r):LeaveR F t s (n+1) n:=by
 generalize p:(r:Int)=o at h;cases h with
 | none h=>omega
 | some k q u v hm =>
  obtain rfl:r=k:=by omega
  refine .some n om_ a b fun j e f i=>?_;rcases Nat.lt_or_eq_of_le (Nat.le_of_lt_succ e) with h2 | h2
  ·rcases d with h3 | ⟨h3,l⟩ <;> rcases hm j h2 f i with h4 | ⟨h4,m⟩
   ·exact .inl (by grind)
   ·exact .inl (by grind)
   ·exact .inl (by grind)
   exact .inr ⟨h3.trans h4,Rb l m⟩
  rw [h2];exact .inr ⟨rfl,QO _⟩
theorem LeaveR.keep {F s n r:Nat}(h:LeaveR F t s n r)
  (a:(t.line r).c / -(t.line r).g s<(t.line n).c / -(t.line n).g s∨(t.line r).c / -(t.line r).g s=(t.line n).c / -(t.line n).g s/\t.bas r<=t.bas n):LeaveR F t s (n+1) r:=by
 generalize l:(r:Int)=o at h;cases h with
 | none h=>omega
 | some k m b d hm =>
  obtain rfl:r=k:=by omega
  refine .some r om_ b d fun j e f i=>?_;rcases Nat.lt_or_eq_of_le (Nat.le_of_lt_succ e) with h2 | h2
  ·exact hm j h2 f i
  rw [h2];exact a
end
end Go.Jog.Lp
namespace Go.Jog.Lp
theorem Quo.qb {K k:Nat}{q:Rat}(h:Quo K q)(i:K<B9 ^ k):QB k q:=by
 obtain ⟨z,w,h1,h2,h3,h4⟩:=h;have a:∀ (z:Int)(d:Nat),d≠0->q*(d:Int)=z->z.natAbs<=K->d<=K->QB k q:=by
  intro z d b e j l;have c:q=mkRat z d:=by
   rw [Rat.mkRat_eq_div,<- e];have:(d:Rat)≠0:=fun f=>b (by exact_mod_cast f);rw [Rat.intCast_natCast];grind
  rw [c];exact ic b om_ om_
 rcases Int.lt_or_gt_of_ne h1 with g | g
 ·refine a (-z) w.natAbs om_ ?_ om_ om_;rw [show ((w.natAbs:Nat):Int)=-w by omega,Rat.intCast_neg,Rat.intCast_neg,<- h2];grind
 refine a z w.natAbs om_ ?_ om_ om_;rw [show ((w.natAbs:Nat):Int)=w by omega];exact h2
structure Lim (p:Sys)(cc:Nat->Rat)(k:Nat):Prop where
 ex:∃ (D:Nat->Int)(M:Nat)(D0:Int),0<M/\p.Wh D M/\(D0≠0/\D0.natAbs<=M)/\(∀ j,j<p.n->∃ z:Int,D0*cc j=z/\z.natAbs<=M)/\bdQ p M<B9 ^ k
structure Inv (p:Sys)(cc:Nat->Rat)(t:Tab):Prop where
 tab:TabOf p t
 obj:ObjOf p t 0 cc
section
variable {p:Sys} {cc:Nat->Rat} {t:Tab} {k:Nat}
theorem Inv.con (h:Inv p cc t)(a:Lim p cc k){i:Nat}(b:i<t.basic.length):QB k (t.line i).c:=by
 obtain ⟨D,M,d,h1,h2,h3,h4,h5⟩:=a.ex;exact (N6 h.tab h2 h1 b).qb h5
theorem Inv.fac (h:Inv p cc t)(a:Lim p cc k){i s:Nat}(b:i<t.basic.length)(c:s<t.others.length):QB k ((t.line i).g s):=by
 obtain ⟨D,M,d,h1,h2,h3,h4,h5⟩:=a.ex;exact (NT h.tab h2 h1 b c).qb h5
theorem Inv.wcon (h:Inv p cc t)(a:Lim p cc k):QB k t.worth.c:=by
 obtain ⟨D,M,b,h1,h2,h3,h4,h5⟩:=a.ex;exact (IH h.tab h2 h1 h.obj h3 h4 ⟨0,by show _=(0:Rat);grind,QT _⟩).qb h5
theorem Inv.wfac (h:Inv p cc t)(a:Lim p cc k){s:Nat}(b:s<t.others.length):QB k (t.worth.g s):=by
 obtain ⟨D,M,c,h1,h2,h3,h4,h5⟩:=a.ex;exact (IG h.tab h2 h1 h.obj h3 h4 b).qb h5
theorem Inv.pivot (h:Inv p cc t){r s:Nat}(a:r<t.basic.length)(b:s<t.others.length)(c:(t.line r).g s≠0):Inv p cc (t.pivot r s):=⟨h.tab.pivot a b c,h.obj.pivot h.tab a b c⟩
theorem K8 (a:1<=k):1<B9 ^ k:=Sc (show 1<B9 ^ 1 from by decide) (Rn dc_ a)
theorem qb_zero (a:1<=k):QB k 0:=⟨Tb Nat.one_pos (K8 a),K8 a⟩
theorem LK (a:1<=k):QB k 1:=⟨K8 a,K8 a⟩
theorem LL {q:Rat}(h:QB k q):QB k (-q):=⟨by rw [Un];have:=h.1;omega,h.2⟩
theorem Inv.sol (h:Inv p cc t)(c:Lim p cc k)(d:1<=k)(v:Nat):QB k (t.sol v):=by
 by_cases a:v∈t.basic
 ·obtain ⟨i,b,e⟩:=dw a;have f:t.bas i=v:=e;rw [<- f,sol_bas h.tab.ok b];exact h.con c b
 rw [sol_oth h.tab.ok a];exact qb_zero d
theorem Inv.dir (h:Inv p cc t)(f:Lim p cc k)(a:1<=k){s:Nat}(b:s<t.others.length)(v:Nat):QB k (t.dir s v):=by
 by_cases c:v∈t.basic
 ·obtain ⟨i,d,e⟩:=dw c;have g:t.bas i=v:=e;rw [<- g,dir_bas h.tab b d];exact h.fac f d b
 rw [dir_oth h.tab c];split
 ·exact LK a
 exact qb_zero a
theorem Inv.dualQ (h:Inv p cc t)(a:Lim p cc k)(b:1<=k){i:Nat}(c:i<t.basic.length)(r:Nat):QB k (dualV p t (t.line i) r):=by
 rcases iq h.tab (t.line i) r with e | ⟨s,hs,_,d⟩
 ·rw [e];exact qb_zero b
 rw [d];exact h.fac a c hs
theorem Inv.dualW (h:Inv p cc t)(a:Lim p cc k)(b:1<=k)(r:Nat):QB k (dualV p t t.worth r):=by
 rcases iq h.tab t.worth r with e | ⟨s,hs,_,c⟩
 ·rw [e];exact qb_zero b
 rw [c];exact h.wfac a hs
theorem Inv.refQ (h:Inv p cc t)(b:Lim p cc k)(a:1<=k){i:Nat}(c:i<t.basic.length)(r:Nat):QB k (refV p t i r):=by
 unfold refV;split
 ·exact LK a
 exact LL (h.dualQ b a c r)
structure OptR (p:Sys)(cc:Nat->Rat)(k:Nat)(val:Rat)(pt du:Nat->Rat):Prop where
 row:∀ r,r<p.m->sumN (fun j=>p.a r j*pt j) p.n<=p.b r
 wor:sumN (fun j=>cc j*pt j) p.n=val
 pos:∀ r,0<=du r
 fac:∀ j,j<p.n->sumN (fun r=>du r*p.a r j) p.m=-cc j
 bnd:sumN (fun r=>du r*p.b r) p.m=-val
 qv:QB k val
 qp:∀ j,QB k (pt j)
 qd:∀ r,QB k (du r)
structure InfR (p:Sys)(k:Nat)(du:Nat->Rat):Prop where
 pos:∀ r,0<=du r
 fac:∀ j,j<p.n->sumN (fun r=>du r*p.a r j) p.m=0
 bnd:sumN (fun r=>du r*p.b r) p.m<0
 qd:∀ r,QB k (du r)
structure UnbR (p:Sys)(cc:Nat->Rat)(k:Nat)(pt ra:Nat->Rat):Prop where
 row:∀ r,r<p.m->sumN (fun j=>p.a r j*pt j) p.n<=p.b r
 ray:∀ r,r<p.m->sumN (fun j=>p.a r j*ra j) p.n<=0
 fall:sumN (fun j=>cc j*ra j) p.n<0
 qp:∀ j,QB k (pt j)
 qr:∀ j,QB k (ra j)
theorem Inv.opt (h:Inv p cc t)(a:Lim p cc k)(b:1<=k)(d:t.Feas p.n)(e:RelW p.n t)(f:∀ s,s<t.others.length->p.n<=t.oth s->0<=t.worth.g s):OptR p cc k t.worth.c t.sol (dualV p t t.worth):=by
 obtain ⟨h1,h2,h3,h4⟩:=Kz h.tab h.obj e f;exact ⟨fun r hr=>sE h.tab d r hr,by grind,h1,h3,by grind,h.wcon a,h.sol a b,h.dualW a b⟩
theorem Inv.inf (h:Inv p cc t)(b:Lim p cc k)(d:1<=k)(e:Rel p.n t p.n){i:Nat}(a:i<t.basic.length)(f:p.n<=t.bas i)(j:(t.line i).c<0)(l:∀ s,s<t.others.length->p.n<=t.oth s->(t.line i).g s<=0):InfR p k (refV p t i):=by
 obtain ⟨h1,h2,h3⟩:=O6 h.tab e a f l;exact ⟨h1,h3,by rw [h2];exact j,h.refQ b d a⟩
theorem Inv.unb (h:Inv p cc t)(a:Lim p cc k)(b:1<=k)(d:t.Feas p.n){s:Nat}(c:s<t.others.length){u:Rat}(e:u=1∨u=-1)(f:u*t.worth.g s<0)
  (l:∀ i,i<t.basic.length->p.n<=t.bas i->0<=u*(t.line i).g s) (m:p.n<=t.oth s->0<=u):UnbR p cc k t.sol fun j=>u*t.dir s j:=by
 obtain ⟨h1,h2⟩:=O8 h.tab h.obj c f l m;refine ⟨fun r hr=>sE h.tab d r hr,h1,h2,h.sol a b,fun j=>?_⟩;rcases e with rfl | rfl
 ·rw [Rat.one_mul];exact h.dir a b c j
 rw [show (-1:Rat)*t.dir s j=-t.dir s j from by grind];exact LL (h.dir a b c j)
end
def openT (p:Sys)(cc:Nat->Rat):Tab :=
 ⟨(List.range p.m).map fun r=>p.n+r,(List.range p.m).map fun r=>⟨p.b r,(List.range p.n).map fun j=>-p.a r j⟩,List.range p.n,⟨0,(List.range p.n).map cc⟩⟩
section
variable {p:Sys} {cc:Nat->Rat}
theorem Bb {n j:Nat}(h:j<n):(List.range n).getD j 0=j:=by
 rw [au,Rw h];rfl
theorem Gi {r:Nat}(h:r<p.m):(openT p cc).bas r=p.n+r:=by
 show ((List.range p.m).map fun r=>p.n+r).getD r 0=_;rw [au,QU,Rw h];rfl
theorem openT_line {r:Nat}(h:r<p.m):(openT p cc).line r=⟨p.b r,(List.range p.n).map fun j=>-p.a r j⟩:=by
 show ((List.range p.m).map _).getD r _=_;rw [au,QU,Rw h];rfl
theorem openT_lb:(openT p cc).basic.length=p.m:=by show ((List.range p.m).map _).length=_;rw [al,RL]
theorem openT_lo:(openT p cc).others.length=p.n:=RL
theorem openT_inv:Inv p cc (openT p cc):=by
 have f:∀ x,(openT p cc).Sol x ↔ p.Sol x:=by
  intro x;unfold Tab.Sol Sys.Sol;rw [openT_lb];refine forall_congr' fun r=>imp_congr_right fun hr=>?_;have e:lv ((openT p cc).line r) (openT p cc).others x=p.b r-sumN (fun j=>p.a r j*x j) p.n:=by
   rw [openT_line hr];unfold lv;rw [openT_lo];have:sumN (fun j=>(-1:Rat)*(p.a r j*x j)) p.n=sumN (fun j=>(⟨p.b r,(List.range p.n).map fun j=>-p.a r j⟩:Line).g j*x ((openT p cc).others.getD j 0)) p.n:=aO fun j c=>by
    show _=((List.range p.n).map fun j=>-p.a r j).getD j 0*x ((List.range p.n).getD j 0);rw [eW c,Bb c];grind
   rw [<- this,cT];show p.b r+_=_;grind
  rw [e,Gi hr]
 refine ⟨⟨⟨?_, ?_, ?_, ?_, ?_⟩,openT_lb,openT_lo,f⟩,fun x _=>?_⟩
 ·show ((List.range p.m).map _).length=((List.range p.m).map _).length;rw [al,al]
 ·intro l i;obtain ⟨r,_,rfl⟩:=QX.1 i;show ((List.range p.n).map _).length=(List.range p.n).length;rw [al]
 ·show ((List.range p.n).map _).length=(List.range p.n).length;rw [al]
 ·refine Sy.2 ⟨?_,List.nodup_range,fun a k b o=>?_⟩
  ·show ((List.range p.m).map fun r=>p.n+r).Nodup;rw [List.Nodup,List.pairwise_map];exact (List.nodup_range (n:=p.m)).imp fun h e=>h om_
  obtain ⟨r,_,rfl⟩:=QX.1 k;have:=Q9.1 o;omega
 ·intro v d;rcases Q6.1 d with d | d
  ·obtain ⟨r,hr,rfl⟩:=QX.1 d;have:=Q9.1 hr;omega
  have:=Q9.1 d;omega
 show lv ⟨0,(List.range p.n).map cc⟩ (List.range p.n) x=_;unfold lv;rw [RL];congr 1;refine aO fun j c=>?_;show ((List.range p.n).map cc).getD j 0*x ((List.range p.n).getD j 0)=_;rw [eW c,Bb c]
end
end Go.Jog.Lp
namespace Go.Jog
open Go
section
variable {P:Program} {f:FuncId} {args:List Value} {C:Mem} {L:List Ent}
theorem Xa {b:Nat}{c:Obj}{post:Value->List Ent->Prop}(e:Enters P f=true)(h:∀ C',C.le C'->C' b=some c->Fn P f args C' L fun u _ a=>post u a) :
  Fn P f args C (.obj b c::L) fun u _ g=>∃ a,g=.obj b c::a/\post u a:=by
 refine ⟨e,fun w i=>?_⟩;have d:=St.start i;have j:C b=none:=d.sep.n b ⟨_,Qb ..,rfl⟩;have k:=d.aside;refine ((h _ (Mem.le_set j) (Mem.set_self C b c)).2 w k.sep).mono fun ex w' ⟨v,C',a,k1,k2,l⟩=>?_;exact ⟨v,_,_,k1,St.back d k2,a,Z,l⟩
theorem W9 {a g e s m:Nat}{b:List (List Value)}{l:Value->List Ent->Prop}(o:Enters P f=true)(p:∀ r∈b,r.length=s)(q:b.length=m)
  (h:∀ C',C.le C'->Sl C' s (.slice (some ⟨a,0,none⟩) m g) b->Fn P f args C' L fun u _ d=>l u d) :
  Fn P f args C (.arr (.slice (some ⟨a,0,none⟩) m g) e s m b.flatten::L) fun u _ t=>∃ d,t=.arr (.slice (some ⟨a,0,none⟩) m g) e s m b.flatten::d/\l u d:=by
 subst q;refine ⟨o,fun w x=>?_⟩;obtain ⟨cs,h1,h2,h3,h4,k⟩:=(St.start x).arrObj;have y:C a=none:=k.sep.n a ⟨_,Qb ..,rfl⟩;have z:=k.aside;have A:Sl (C.set a (.cells ⟨cs⟩ e (0,0))) s (.slice (some ⟨a,0,none⟩) b.length g) b :=
  Sl.ofBlock (c:=g) (Mem.set_self C a (.cells ⟨cs⟩ e (0,0))) p (fun j v i=>by
   rw [<- h2,Rx] at i;split at i
   ·simpa using i
   cases i) h3 h4
 refine ((h _ (Mem.le_set y) A).2 w z.sep).mono fun ex w' ⟨v,C',d,k1,k2,B⟩=>?_;exact ⟨v,_,_,k1,(St.back k k2).objArr h2 h1 h3 h4,d,Z,B⟩
theorem V0 {v:Value}{e s m:Nat}{a:List (List Value)}{post:Value->List Ent->Prop}(d:Enters P f=true)(i:∀ r∈a,r.length=s)(j:a.length=m)
  (h:∀ C',C.le C'->Sl C' s v a->Fn P f args C' L fun u _ b=>post u b) :
  Fn P f args C (.arr v e s m a.flatten::L) fun u _ k=>∃ b,k=.arr v e s m a.flatten::b/\post u b:=by
 refine ⟨d,fun w c=>?_⟩;have l:w.ownsRow 0 e s v m a.flatten:=c.e _ (Qb ..);rcases l.2 with ⟨h1,h2⟩ | ⟨g,p,q,h1,_,_,h3,h4,_⟩
 ·have h0:a=[]:=RB om_;have n:=h C (Mem.le.refl C) (by rw [h1,h0];exact Sl.nil C s);have hs:=St.perm (St.start c) (Rv (l₁:=[Ent.arr v e s m a.flatten]) (l₂:=L));refine (n.callAt hs).mono fun ex w' ⟨u,C',b,k1,_,k2,o⟩=>?_;exact ⟨u,C',_,k1,St.perm k2 (Rv (l₁:=b) (l₂:=[Ent.arr v e s m a.flatten])),b,Z,o⟩
 subst h1;exact (W9 (e:=e) d i j h).2 w c
end
inductive Lent where
 | obj (b:Nat) (cs:List Value) (t:TypeId)
 | arr (v:Value) (m s:Nat) (e:TypeId) (rows:List (List Value))
def Lent.ent:Lent->Ent
 | .obj b cs t=>.obj b (.cells ⟨cs⟩ t (0,0))
 | .arr v m s e rows=>.arr v e s m rows.flatten
def Lent.wf:Lent->Prop
 | .obj ..=>True
 | .arr _ m s _ rows=>rows.length=m/\∀ r∈rows,r.length=s
def Lent.seen (C:Mem):Lent->Prop
 | .obj b cs t=>C b=some (.cells ⟨cs⟩ t (0,0))
 | .arr v _ s _ rows=>Sl C s v rows
theorem VZ {P:Program}{f:FuncId}{args:List Value}{L:List Ent}{post:Value->List Ent->Prop}(i:Enters P f=true):∀ (ls:List Lent){C:Mem},(∀ x∈ls,x.wf) ->
  (∀ C',C.le C'->(∀ x∈ls,x.seen C')->Fn P f args C' L fun u _ a=>post u a)->Fn P f args C (ls.map Lent.ent++L) fun u _ d=>∃ a,d=ls.map Lent.ent++a/\post u a
 | [],C,_,h=>(h C (Mem.le.refl C) fun x c=>by cases c).mono fun v C' a _ g=>⟨a,rfl,g⟩
 | .obj b cs t::ls,C,j,h=>by
  refine (Xa (post:=fun u d=>∃ a,d=ls.map Lent.ent++a/\post u a) i fun C1 h1 k=>?_).mono fun v C' a _ ⟨L1,l,n,o,g⟩=>⟨n,by rw [l,o];rfl,g⟩;refine VZ i ls (fun x c=>j x (Q0 _ c)) fun p h2 hs=>h p (h1.trans h2) fun x c=>?_;rcases Q3.1 c with rfl | c
  ·exact h2 _ _ k
  exact hs x c
 | .arr v m s e rows::ls,C,j,h=>by
  have q:=j _ Qb;refine (V0 (e:=e) (post:=fun u d=>∃ a,d=ls.map Lent.ent++a/\post u a) i q.2 q.1 fun C1 h1 k=>?_).mono fun v C' a _ ⟨L1,l,n,o,g⟩=>⟨n,by rw [l,o];rfl,g⟩;refine VZ i ls (fun x c=>j x (Q0 _ c)) fun p h2 hs=>h p (h1.trans h2) fun x c=>?_;rcases Q3.1 c with rfl | c
  ·exact Sl.mono k h2
  exact hs x c
end Go.Jog
namespace Go.Jog
open Go
variable {C:Mem}{F:Fx}{L:List Ent}{P:Program}{args:List Value}{f:FuncId}{fr:Fr}{m s t:Nat}{v:Value}{xs:List Value}
theorem Fn.form {a:Value->Mem->List Ent->Prop}{e:Nat}(d:Enters P f=true)(k:0<m)
  (h:∀ g c,v=.slice (some ⟨g,0,none⟩) m c->Fn P f args C (.arr v e s m xs::L) a):Fn P f args C (.arr v e s m xs::L) a:=by
 refine ⟨d,fun w b=>?_⟩;have i:w.ownsRow 0 e s v m xs:=b.e _ (Qb ..);rcases i.2 with ⟨h1,_⟩ | ⟨g,j,l,h1,_⟩
 ·omega
 exact (h g j h1).2 w b
theorem Fn.perm {P:Program}{f:FuncId}{a:List Value}{C:Mem}{L L2:List Ent}{post:Value->Mem->List Ent->Prop}(b:L.Perm L2)(h:Fn P f a C L2 post):Fn P f a C L post:=by
 refine ⟨h.1,fun w c=>?_⟩;have hs:St w C L C (L2++[]) w:=by rw [Rf];exact (St.start c).perm b
 refine (h.callAt hs).mono fun ex w' ⟨u,C',L',k1,_,k2,d⟩=>?_;rw [Rf] at k2;exact ⟨u,C',L',k1,k2,d⟩
theorem VH {q:Value->Prop}(c:Enters P f=true)(a:List Lent)(d:∀ x∈a,x.wf)(h:∀ C',C.le C'->(∀ x∈a,x.seen C')->Pur P f args C' fun u _=>q u) :
  Fn P f args C (a.map Lent.ent) fun u _ b=>q u/\b=a.map Lent.ent:=by
 have h1:=VZ (L:=[]) (post:=fun u b=>b=[]/\q u) c a d fun C' e hs=>h C' e hs;rw [Rf] at h1;refine h1.mono ?_;rintro u C' b _ ⟨i,rfl,rfl,g⟩;exact ⟨g,Rf _⟩
theorem Wd {k:List KI}{e:Exit}(j:Nat)(a:L[j]?=some (.arr v t s m xs))(b:0<m)(h:∀ g c,v=.slice (some ⟨g,0,none⟩) m c->G F k e fr C L):G F k e fr C L:=by
 cases m with
 | zero=>exact absurd b (Nat.lt_irrefl _)
 | succ m=>exact WA j a h
theorem Ww (j:Nat){r b:Nat}{c:List Value}{l:TypeId}{m:Nat × Nat}{d:TI}{u:Value}(n:L[j]?=some (.obj b (.cells ⟨c⟩ l m)))(x:F.fn.results=#[.cell r t,.tmp s])(y:ev fr [] (.tmp r)=some (.pointer (some ⟨b,0,none⟩)))(z:ev fr [] (.tmp s)=some u)
  (A:F.cx.T.get t=some d) (B:cA d (c.take d.size)=some v) (h:F.post (.tuple #[v,u]) C (L.eraseIdx j)) (o:F.ends:=by exact ⟨fun _ _ _ h=>h,rfl⟩):G F [] .ret fr C L:=fun _ a w f q=>by
 refine o.kq ?_;have g:=bI f (fun p i=>by cases i) y;have k:=bI f (fun p i=>by cases i) z;simp only [Act.eval] at g k;have hm:Ent.obj b (.cells ⟨c⟩ l m)∈L:=QQ n;refine bodyPost_ret (v:=.tuple #[v,u]) ?_ (f.defers.trans o.2) ⟨_,C,_,Z,St.drop (St.perm q (ak n)),h⟩;have D:=eT (F:=F) A (q.sep.e _ hm) B;simp only [RV] at g k;simp [results,x,g,k,asAddr,D]
theorem lM {b:Type}{l:List Nat}(c:l.Nodup){i:Nat}(h:i∈l)(f g:Nat->b)(d:∀ j,j∈l->j≠i->f j=g j):(l.map f).Perm (f i::(l.erase i).map g):=by
 refine ((List.perm_cons_erase h).map f).trans ?_;rw [Rs];refine List.Perm.cons _ (List.Perm.of_eq (List.map_congr_left fun j a=>?_));rw [c.mem_erase_iff] at a;exact d j a.2 a.1
end Go.Jog
namespace Go.Jog
open Go
theorem We {F:Fx}{k:List KI}{d:Fr}{C:Mem}{L:List Ent}{e:Exit}(j:Nat){v:Value}{t s m:Nat}{f:List Value}(l:L[j]?=some (.arr v t s m f))
  (h:∀ A c,v=.slice A m c->(0<m->A=some ⟨(A.getD ⟨0,0,none⟩).block,0,none⟩)->m<=c->c<=maxLen->G F k e d C L):G F k e d C L:=fun h0 a w i b=>by
 have n:=St.perm b (ak l);have o:w.ownsRow 0 t s v m f:=n.sep.e _ (Qb ..);rcases o.2 with ⟨h1,h2⟩ | ⟨g,p,q,h1,_,_,h3,h4,_⟩
 ·subst h2;exact h _ _ h1 (fun h=>absurd h om_) om_ (QT _) h0 a w i b
 exact h _ _ h1 fl_ h3 h4 h0 a w i b
theorem VT {F:Fx}{k:List KI}{g:Fr}{e:Exit}:∀ (ls:List Lent){C:Mem}{L2:List Ent},(∀ x∈ls,x.wf)->(∀ C',C.le C'->(∀ x∈ls,x.seen C')->G F k e g C' L2)->G F k e g C (ls.map Lent.ent++L2)
 | [],C,_,_,h=>h C (Mem.le.refl C) fun x a=>by cases a
 | .obj b cs t::ls,C,L2,c,h=>by
  refine G.freeze 0 Z fun C1 h1 d=>VT ls (fun x a=>c x (Q0 _ a)) fun f h2 hs=>h f (h1.trans h2) fun x a=>?_;rcases Q3.1 a with rfl | a
  ·exact h2 _ _ d
  exact hs x a
 | .arr v m s t rows::ls,C,L2,c,h=>by
  have i:=c _ Qb;refine G.freezeArr 0 rows Z Z i.2 i.1 fun C1 h1 d=>VT ls (fun x a=>c x (Q0 _ a)) fun f h2 hs=>h f (h1.trans h2) fun x a=>?_;rcases Q3.1 a with rfl | a
  ·exact Sl.mono d h2
  exact hs x a
section
variable {cx:Cx} {n:Nat} {ds:List (Option Nat)} {R:Rg n ds} {its:List It} {fr:Fr} {C:Mem} {L:List Ent} {i k d:Nat} {o:Oper} {g:GL} {v:Value}
theorem WN (b c:Nat){t e j r l:Nat}{A:Option Addr}{x y:Operand}{s:IntKind}{m:Int}{f p:TI}(u:Nat.ble k 1=true)(v:o.dst=some d)(z:o.op=.indexAddr t x y)
  (B:gOf ds fr o.guard=some g) (E:ev fr g x=some (.slice A j r)) (F:ev fr g y=some (.int s m)) (G:cx.T.get t=some f) (q:f.k=.slice e) (H:cx.T.get e=some p) (I:p.size=l)
  (J:GT ds fr g->A=some ⟨b,0,none⟩/\0<=m/\m<j/\c=m.toNat*l) (K:aQ n ds ((d,g,.pointer (some ⟨b,c,none⟩))::fr) d=true) (M:wfG ds fr g=true)
  (h:D cx R its ((d,g,.pointer (some ⟨b,c,none⟩))::fr) C L):D cx R ((i,k,o)::its) fr C L:=by
 have N:cx.P.underlying t=some (.slice e):=by
  obtain ⟨V,W,X,Y,Z⟩:=f;simp only at q;subst q;exact cD cx.hT G
 refine D.run _ u v B (fun O a hs w=>?_) K M h;obtain ⟨rfl,Q,S,rfl⟩:=J O;have U:execOp a.eval o=(do Pure.pure (.value (<- Instr.indexAt t (a.eval x) (a.eval y))):Sem Next):=by unfold execOp;rw [z]
 rw [U,hs _ _ E,hs _ _ F];have h2:=eC cx.hT H w;rw [I] at h2;simp [Instr.indexAt,asIntOf,run_underlying N,h2,Q,S,Addr.add_lit]
theorem WC {t c f e q r m s:Nat}{A:Option Addr}{x:Operand}{l:List Value}{p:TI}(z:Ent.arr (.slice A m s) e q r l∈L)(y:k=1)(B:o.dst=some d)(E:o.op=.load t x)(F:gOf ds fr o.guard=some g)(G:ev fr g x=some (.pointer (some ⟨c,f,none⟩)))
  (H:cx.T.get t=some p) (I:GT ds fr g->A=some ⟨c,0,none⟩/\cA p ((l.drop f).take p.size)=some v) (J:aQ n ds ((d,g,v)::fr) d=true) (K:wfG ds fr g=true)
  (h:D cx R its ((d,g,v)::fr) C L):D cx R ((i,k,o)::its) fr C L :=
 Vl (by subst y;rfl) B F J K (fun M a hs aa N w O=>by
  obtain ⟨Q,S⟩:=I M;subst Q;have U:w.ownsRow 0 e q (.slice (some ⟨c,0,none⟩) m s) r l:=O.sep.e _ ((N y).2 _ z);obtain ⟨_,_,_,ab,V,_,W⟩:=cG U;have X:∀ j u,((l.drop f).take p.size)[j]?=some u->w.cell? ((⟨c,f,none⟩:Addr).add j)=some u:=fun j u b=>by
   rw [Addr.add_lit,cell_of_row w c (f+j) _ e (0,0) V];rw [Rx] at b;split at b
   ·rw [List.getElem?_drop,<- W,Rx] at b;split at b
    ·simpa using b
    cases b
   cases b
  have Y:(execOp a.eval o).run cx.P w=.ok (.value v) w:=by
   have e1:execOp a.eval o=(do Pure.pure (.value (<- Instr.loadAt t (a.eval x))):Sem Next):=by unfold execOp;rw [E]
   rw [e1,hs _ _ G];simp only [Instr.loadAt,Instr.sureAddr,Sem.run_bind,Sem.run_pure,Result.andThen_ok];rw [eO cx.hT H X S];rfl
  unfold Oper.quietAt;rw [Y];exact ⟨Z,Z⟩) h
theorem V6 {f:Operand}{e:Array Operand}{t:Array TypeId}{j:FuncId}{l m:Array Value}{p q:List Value}{x:Ent}(z:x∈L)(c:GT ds fr g->Fn cx.P j q C [x] fun u _ A=>u=v/\A=[x])(B:Z9 k 1 o.dst (some d) (gOf ds fr o.guard) (some g) o.op (.call ⟨.value f,e,t⟩) (ev fr g f) (some (.func (.func j) l m)) (kc (ev fr g) e.toList) (some p) (l.toList++p++m.toList) q (aQ n ds ((d,g,v)::fr) d) true (wfG ds fr g) true)(h:D cx R its ((d,g,v)::fr) C L):D cx R ((i,k,o)::its) fr C L :=
 have ⟨b,E,F,G,H,I,J,K,M⟩:=B;Vl (by subst b;rfl) E F K M (fun r a hs O s w N=>by
  unfold Oper.quietAt;rw [nR G (hs _ _ H) (er (fun x y=>hs x y) I) J (c r).1 w];exact ⟨Z,(c r).quiet1 (s b).1 ((s b).2 _ z) N⟩) h
end
end Go.Jog
namespace Go.Jog
def aV (s:Nat):List Nat:=(List.range 5).filter fun i=>s.testBit i
def iH (s:Nat):Nat:=(aV s).length
def NE:List Nat->List Nat->Int
 | [],[]=>0
 | [],_::_=>-1
 | _::_,[]=>1
 | x::a,y::b=>if x<y then -1 else if y<x then 1 else NE a b
def KU (a b:Nat):Int:=if iH a=iH b then NE (aV a) (aV b) else (iH a:Int)-iH b
def PB (x:Nat):List Nat->List Nat
 | []=>[x]
 | y::l=>if KU x y<0 then x::y::l else y::PB x l
def bQ (n:Nat):List Nat:=(List.range (2 ^ n)).foldr PB []
def Dm (s:Nat):Nat:=(bQ 5).idxOf s
theorem El:∀ s<32,s≠0->aV s=(aV s).headD 0::aV (s &&& (s-1)):=by decide +kernel
theorem Em:∀ s<32,s≠0->(s &&& (s-1))<s:=by decide +kernel
theorem eV:∀ a<32,∀ b<32,(KU a b<0 ↔ Dm a<Dm b):=by decide +kernel
theorem Js:∀ a<32,∀ b<32,Dm a=Dm b->a=b:=by decide +kernel
theorem BN (x:Nat):∀ l:List Nat,(PB x l).Perm (x::l)
 | []=>QW _
 | y::l=>by
  unfold PB;split
  ·exact QW _
  exact ((BN x l).cons y).trans (List.Perm.swap _ _ _)
theorem sx:∀ l:List Nat,(l.foldr PB []).Perm l
 | []=>QW _
 | x::l=>(BN x _).trans ((sx l).cons x)
theorem mO (n:Nat):(bQ n).Perm (List.range (2 ^ n)):=sx _
theorem Jg:∀ n<6,(bQ n).Pairwise fun a b=>Dm a<Dm b:=by decide +kernel
theorem eS {n s:Nat}(h:s∈bQ n):s<2 ^ n:=Q9.1 ((mO n).mem_iff.1 h)
theorem oY (n:Nat):(bQ n).length=2 ^ n:=by rw [(mO n).length_eq,RL]
theorem yv {n:Nat}(a:n<6):2 ^ n<=32:=by
 have:∀ n<6,2 ^ n<=32:=by decide
 exact this n a
theorem wa {n:Nat}(g:n<6){l:List Nat}(i:l.Perm (List.range (2 ^ n)))(j:l.Pairwise fun x y=>¬ KU y x<0):l=bQ n:=by
 have o:=yv g;have k:∀ x∈l,x<32:=fun x m=>by have:=Q9.1 (i.mem_iff.1 m);omega
 refine (i.trans (mO n).symm).eq_of_pairwise (le:=fun a b=>¬ KU b a<0) (fun a b e f h1 h2=>?_) j ((Jg n g).imp_of_mem fun {a b} e f h=>?_)
 ·have c:=k a e;have d:b<32:=by have:=eS f;omega
  rw [eV b d a c] at h1;rw [eV a c b d] at h2;exact Js a c b d om_
 have c:a<32:=by have:=eS e;omega
 have d:b<32:=by have:=eS f;omega
 rw [eV b d a c];omega
def eI (h:Nat->Bool)(f:List Nat)(s:Nat):List Nat:=if (f.any fun x=>x &&& s == x) || h s then f else f++[s]
def eB (h:Nat->Bool)(l:List Nat):List Nat:=l.foldl (eI h) []
def pk (h:Nat->Bool)(f:List Nat)(s:Nat):List Nat:=if (f.head?.elim false fun x=>decide (iH x<iH s)) || !h s then f else f++[s]
def yr (h:Nat->Bool)(l:List Nat):List Nat:=l.foldl (pk h) []
theorem qm {a c:Type}{f:c->a->c}{b:c}{l:List a}{i:Nat}{s:a}(d:l[i]?=some s):(l.take (i+1)).foldl f b=f ((l.take i).foldl f b) s:=by
 rw [List.take_add_one,d,List.foldl_append];rfl
theorem HL (h:Nat->Bool)(f:List Nat)(s:Nat):∃ t,eI h f s=f++t:=by
 unfold eI;split
 ·exact ⟨[],by simp⟩
 exact ⟨[s],Z⟩
theorem xr (h:Nat->Bool):∀ (l f:List Nat),∃ t,l.foldl (eI h) f=f++t
 | [],f=>⟨[],by simp⟩
 | s::l,f=>by
  obtain ⟨a,b⟩:=HL h f s;obtain ⟨c,d⟩:=xr h l (eI h f s);exact ⟨a++c,by rw [Sn,d,b,Rk]⟩
theorem wn {h:Nat->Bool}{f:List Nat}{x:Nat}(a:f.head?=some x):∀ l:List Nat,(∀ s∈l,iH x<iH s)->l.foldl (pk h) f=f
 | [],_=>rfl
 | s::l,b=>by
  have e:pk h f s=f:=by
   unfold pk;rw [a];have:=b s (Qb ..);simp [this]
  rw [Sn,e];exact wn a l fun s hs=>b s (Q0 _ hs)
theorem ml {h:Nat->Bool}:∀ (l f:List Nat){x:Nat},x∈l.foldl (eI h) f->x∈f∨x∈l
 | [],f,x,a=>.inl a
 | s::l,f,x,a=>by
  rcases ml l (eI h f s) a with h1 | h1
  ·unfold eI at h1;split at h1
   ·exact .inl h1
   rcases Q6.1 h1 with h2 | h2
   ·exact .inl h2
   rw [Rc.1 h2];exact .inr Qb
  exact .inr (Q0 _ h1)
theorem qF {h:Nat->Bool}:∀ (l f:List Nat),(l.foldl (eI h) f).length<=f.length+l.length
 | [],f=>QO _
 | s::l,f=>by
  have h1:=qF (h:=h) l (eI h f s);have h2:(eI h f s).length<=f.length+1:=by
   unfold eI;split
   ·omega
   rw [QV];exact QO _
  rw [Sn,Q8];omega
theorem LO:∀ n<6,(bQ n).Pairwise fun a b=>iH a<=iH b:=by decide +kernel
end Go.Jog
namespace Go.Jog
open Go Go.Proofs Go.Shelf
section
variable {α:Type} [Inhabited α]
theorem Kk {a:Type}[Inhabited a](c:a->Value)(w:World)(m b:Nat)(F:Array a)(h:Array Obj){d:Array Value}{e:TypeId}{f:Nat × Nat}(g:w.heap[b]?=some (.cells d e f)) :
  (Sort.grow (Sort.putRow c (Sort.ahead w m) b 0 F) h).heap[b]?=some (.cells (Sort.putCells c 0 F d) e f):=by
 have i:=ck g;rw [Sort.heap_grow_old _ _ (by simpa [Sort.ahead] using i)];simp [Sort.putRow,Sort.mapBlock,Sort.ahead,Tp,g,Sort.onCells]
theorem kB {a:Type}[Inhabited a](c:a->Value)(w:World)(m b:Nat)(F:Array a)(d:Array Obj){q:Nat}(e:q<w.heap.size)(f:q≠b) :
  (Sort.grow (Sort.putRow c (Sort.ahead w m) b 0 F) d).heap[q]?=w.heap[q]?:=by
 rw [Sort.heap_grow_old _ _ (by simpa [Sort.ahead] using e)];simp [Sort.putRow,Sort.mapBlock,Sort.ahead,Tp,Ne.symm f]
theorem ub {b:Type}[Inhabited b](d:b->Value)(F:Array b)(c:Array Value)(h:F.size<=c.size):(Sort.putCells d 0 F c).toList.take F.size=F.toList.map d:=by
 apply List.ext_getElem?;intro q;rw [Rx];split
 ·rename_i a;simp only [Sort.putCells,Array.getElem?_toList,Array.getElem?_mapIdx,QU,QT,Sd,true_and,a,SL,TF];rw [Array.getElem?_eq_getElem (by omega:q<c.size),Array.getElem?_eq_getElem a];simp [a]
 rename_i a;rw [QY ap]
theorem St.sorted {c:Type}[Inhabited c](b:c->Value){C:Mem}{w:World}{e s n g a m:Nat}{d:List Value}(j:Sep C [.arr (.slice (some ⟨g,0,none⟩) n a) e s n d] w)(F:Array c)(f:F.size=n*s)(i:Array Obj) :
  St w C [.arr (.slice (some ⟨g,0,none⟩) n a) e s n d] C [.arr (.slice (some ⟨g,0,none⟩) n a) e s n (F.toList.map b)] (Sort.grow (Sort.putRow b (Sort.ahead w m) g 0 F) i):=by
 have l:w.ownsRow 0 e s (.slice (some ⟨g,0,none⟩) n a) n d:=j.e _ (Qb ..);obtain ⟨_,h1,h2,o,p,k,_⟩:=cG l;have r:n*s<=a*s:=RQ _ h1;refine St.turn (St.start j) ⟨by simpa using f,.inr ⟨g,a,_,Z,QT _,Kk b w m g F i p,h1,h2,by simpa [Sort.putCells] using k, ?_⟩⟩ ⟨Z,Z,Z,by simp [Sort.ahead],fun q t u=>kB b w m g F i t (fun h=>u (by simp [Value.ownBlock,h]))⟩ ?_ (.inl Z)
 ·rw [<- f];exact ub b F o (by rw [f,k];exact r)
 show w.drawn<=w.drawn+m;omega
theorem DR {w a:World}{C c:Mem}(h:St w C [] c [] a):∃ q os,a=Sort.grow (w.drewN q) os:=by
 refine ⟨a.drawn-w.drawn,(a.heap.toList.drop w.heap.size).toArray, ?_⟩;have h1:a.heap=w.heap++(a.heap.toList.drop w.heap.size).toArray:=by
  apply Array.ext_getElem?;intro k;rw [Array.getElem?_append];split
  ·rename_i b;exact h.ev.block k b (fun ⟨x,d,_⟩=>by cases d)
  rename_i b;simp only [R4,List.getElem?_drop,Array.getElem?_toList];congr 1;omega
 have h2:w.drawn+(a.drawn-w.drawn)=a.drawn:=by have:=h.ev.drawn;omega
 obtain ⟨i,j,l,m,op⟩:=a;have e:=h.ev.os;have f:=h.ev.tape;have g:=h.ev.output;simp only at h1 h2 e f g;simp only [Sort.grow,World.drewN];congr 1
 ·exact h2.symm
end
section
variable {P:Program} {ρ:Ren}
theorem Nc {a:Type}[Inhabited a]{l:List a}{d:Array a}(h:Sort.PermIn 0 l.toArray.size l.toArray d):d.toList.Perm l:=by
 obtain ⟨h1,_,h3⟩:=h;have b:d.extract 0 l.toArray.size=d:=by apply Sz;rw [<- h1];simp
 have c:l.toArray.extract 0 l.toArray.size=l.toArray:=by apply Sz;simp
 rw [b,c] at h3;simpa using h3
theorem Fc {a:Type}[Inhabited a]{b:a->a->Bool}{d:Array a}(h:Sort.SortedIn b 0 d.size d):d.toList.Pairwise fun x y=>b y x=false:=by
 rw [List.pairwise_iff_getElem];intro i j e c f;have:=h i j (QT _) f (by simpa using c);rw [getElem!_pos d j (by simpa using c),getElem!_pos d i (by simpa using e)] at this;simpa using this
theorem wY (c:UInt8):∀ s:List UInt8,(c ∉ s/\Lib.index s [c]=-1)∨∃ a post,s=a++c::post/\c ∉ a/\Lib.index s [c]=a.length
 | []=>.inl ⟨by simp,by simp [Lib.index]⟩
 | b::s=>by
  by_cases d:b=c
  ·subst d;exact .inr ⟨[],s,Z,by simp,by simp [Lib.index]⟩
  have f:([c]:List UInt8).isPrefixOf (b::s)=false:=by simp [List.isPrefixOf,Ne.symm d]
  have e:Lib.index (b::s) [c]=if Lib.index s [c] == -1 then -1 else Lib.index s [c]+1:=by rw [Lib.index,f];simp
  rcases wY c s with ⟨h1,h2⟩ | ⟨a,post,h1,h2,h3⟩
  ·exact .inl ⟨by simp [Ne.symm d,h1],by rw [e,h2];rfl⟩
  refine .inr ⟨b::a,post,by simp [h1],by simp [Ne.symm d,h2], ?_⟩;rw [e,h3];have:¬ ((a.length:Int) == -1)=true:=by simp
  rw [az this];simp
theorem rM (c:UInt8):∀ (k:Nat)(s:List UInt8),s.count c=k->Lib.splitK [c] 0 k s=cP c s
 | 0,s,h=>by
  rw [nu c s (List.count_eq_zero.1 h)];rfl
 | k+1,s,h=>by
  rcases wY c s with ⟨h1,_⟩ | ⟨a,post,h1,h2,h3⟩
  ·rw [List.count_eq_zero.2 h1] at h;omega
  have b:post.count c=k:=by
   rw [h1,List.count_append,List.count_eq_zero.2 h2,List.count_cons_self] at h;omega
  unfold Lib.splitK;rw [h3];have d:¬ ((a.length:Int) == -1)=true:=by simp
  rw [az d];subst h1;have e:((a.length:Int).toNat+0)=a.length:=by simp
  have f:(a++c::post).drop ((a.length:Int).toNat+[c].length)=post:=by simp
  rw [e,f,rM c k post b,oS c a post h2];simp
theorem split_fn (k:Lays.n146 P ρ)(l:(P.info? (ρ.t 9)).map (fun i=>(i.zero,i.size,i.bytes))=some (some (.string ByteArray.empty),1,16))(C:Mem)(s:List UInt8)(c:UInt8){m:Int}(n:s.length<4294967281)(o:CCell C ⟨ρ.g 1,0,none⟩ (.int .i64 m))(q:Enters P (ρ.f 146)=true) :
  Pur P (ρ.f 146) [ai s,ai [c]] C fun v C'=>Sl C' 1 v ((cP c s).map fun p=>[ai p]):=by
 refine ⟨q,fun w a=>?_⟩;have h:=Any.strings_Split k l ⟨s.toArray⟩ ⟨#[c]⟩ m w (by simpa [ByteArray.size] using n) (o.cell a) (by simp [ByteArray.size]);have r:Lib.countB ⟨s.toArray⟩ ⟨#[c]⟩=s.count c:=by
  show Lib.count s [c]=_;exact Lib.count_one c s
 have x:(Lib.splitB ⟨#[c]⟩ 0 (s.count c) ⟨s.toArray⟩).map (fun b=>b.data.toList)=cP c s:=by
  rw [Lib.splitB_data];exact rM c _ s Z
 have y:(Lib.splitB ⟨#[c]⟩ 0 (s.count c) ⟨s.toArray⟩).map Value.string=(cP c s).map ai:=by
  rw [<- x,RG];apply List.map_congr_left;intro b _;obtain ⟨⟨b⟩⟩:=b;rfl
 rw [r,y] at h;refine h.mono fun B w' ⟨h1,z⟩=>?_;subst z;have h2:=(St.alloc (St.start a) (.cells ((cP c s).map ai).toArray (ρ.t 9))).freeze;refine ⟨_,_,_,h1,h2.2,Z, ?_⟩;have d:=ku c s;have D:s.count c<=s.length:=List.count_le_length;have A:=Sl.ofBlock (C:=C.set w.heap.size (.cells ((cP c s).map ai).toArray (ρ.t 9))) (c:=s.count c+1) (Mem.set_self C w.heap.size _) (rows:=(cP c s).map fun p=>[ai p]) (s:=1) am (fun j u e=>by rw [eA] at e;simpa using e) (by simp [d]) (by simp only [maxLen];omega);simpa [d] using A
end
end Go.Jog
namespace Go.Jog
open Go Go.Proofs Go.Shelf
section
variable {P:Program} {ρ:Ren}
theorem CX {α:Type}[Inhabited α](G:SlLaysF.n6 P ρ)(a:α->Value)(d:∀ x,lH (a x)=true)(p:α->α->Int)(N:Sort.SWO (ltOf p))(g:FuncId)(i:List Value)(C:Mem)
  (O:∀ x y C',C.le C'->Gives P g ([a x,a y]++i) C' (.int .i64 (p x y))) (v:Value) (e:TypeId) (l:List α) (Q:l.length<4611686018427387904) (R:Enters P (ρ.f 6)=true) (S:Enters P g=true) :
  Fn P (ρ.f 6) [v,.func (.func g) #[] ⟨i⟩] C [.arr v e 1 l.length (l.map a)] fun u _ad H=>∃ s:List α,u=.tuple #[]/\H=[.arr v e 1 l.length (s.map a)]/\s.Perm l/\s.Pairwise (fun x y=>ltOf p y x=false):=by
 refine ⟨R,fun w r=>?_⟩;have T:w.ownsRow 0 e 1 v l.length (l.map a):=r.e _ (Qb ..);rcases T.2 with ⟨rfl,U⟩ | ⟨b,V,t,rfl,_,z,h2,h3,h4,h5⟩
 ·have W:l=[]:=RB U;subst W;refine (AnyF.slices_SortFunc_none ({ G with }:SlLaysF0.n6 P ρ) none 0 (.func (.func g) #[] ⟨i⟩) w).mono fun I w' ⟨d,h2⟩=>?_;subst h2;exact ⟨_,C,_,d,St.start r,[],Z,Z,QW _,List.Pairwise.nil⟩
 have X:b<w.heap.size:=ck z;have Y:Sort.Holds a w b 0 l.toArray:=by
  intro j A;simp only [SM] at A;have J:j<t.size:=by omega
  have B:(l.map a)[j]?=some t[j]:=by
   rw [<- h5,Rx,aW om_,Array.getElem?_toList,Array.getElem?_eq_getElem J]
  rw [QU,aj A] at B;simp only [Su,Rt] at B;refine ⟨?_, ?_⟩
  ·rw [Sd,cell_of_row w b j t e (0,0) z,getElem!_pos l.toArray j (by simpa using A)];rw [Array.getElem?_eq_getElem J,<- B];simp
  simp [World.frozen?,z]
 have aa:CmpLays1 P g ⟨i⟩ a p b 0 l.toArray.size w:=by
  intro m os dk ae x y;have hW:Sep C [] (sortWorld a w b 0 m dk os):=⟨fun q o D=>by
    have K:=r.c q o D;unfold sortWorld;rw [kB a w m b _ os (ck K) (fun h=>by
     subst h;have:=r.n q ⟨_,Qb ..,rfl⟩;rw [this] at D;cases D)]
    exact K,fun x E=>(by cases E),List.Pairwise.nil,fun k ⟨x,E,_⟩=>(by cases E)⟩
  have ea:(#[a x,a y]++(⟨i⟩:Array Value))=([a x,a y]++i).toArray:=by apply Sz;simp
  rw [ea];refine ((O x y C (Mem.le.refl _)).2 _ hW).mono fun I w' ⟨u,C',H,d,h2,h3,h4⟩=>?_;subst h3;subst h4;exact ⟨d,DR h2⟩
 have ab:=Any.slices_SortFunc G a (fun x=>jd (d x)) p N g ⟨i⟩ b 0 V l.toArray w (fun args w=>eY S args w) aa Y X (by simpa using Q);refine ab.mono fun I w' ⟨d,F,m,os,L,hs,ac⟩=>?_;subst ac;have M:F.size=l.length:=by simpa using L.1
 have hS:=St.sorted (m:=m) a r F (by simp [M]) os;exact ⟨_,C,_,d,hS,F.toList,Z,Z,Nc L,Fc (by rw [M];simpa using hs)⟩
end
end Go.Jog
namespace Go.Jog
open Go Go.Proofs Go.Shelf
section
variable {P:Program} {ρ:Ren}
theorem xm (p:Lays2.n23 P ρ)(C:Mem)(v:Value)(e:TypeId)(l:List Int)(i j:Nat)(q:i<=j)(a:j<=l.length)(L:0<l.length)(r:Enters P (ρ.f 23)=true) :
  Fn P (ρ.f 23) [v,.int .i64 i,.int .i64 j] C [.arr v e 1 l.length (l.map fun x=>.int .i64 x)] fun u _ s=>s=[.arr u e 1 (l.take i++l.drop j).length ((l.take i++l.drop j).map fun x=>.int .i64 x)]:=by
 refine ⟨r,fun w k=>?_⟩;have t:w.ownsRow 0 e 1 v l.length (l.map fun x=>.int .i64 x):=k.e _ (Qb ..);rcases t.2 with ⟨rfl,M⟩ | ⟨b,c,d,rfl,_,n,h2,h3,h4,h5⟩
 ·omega
 have y:Sort.Holds (Value.int .i64) w b 0 l.toArray:=by
  intro j a;simp only [SM] at a;have o:j<d.size:=by omega
  have g:(l.map fun x=>Value.int .i64 x)[j]?=some d[j]:=by
   rw [<- h5,Rx,aW om_,Array.getElem?_toList,Array.getElem?_eq_getElem o]
  rw [QU,aj a] at g;simp only [Su,Rt] at g;refine ⟨?_, ?_⟩
  ·rw [Sd,cell_of_row w b j d e (0,0) n,getElem!_pos l.toArray j (by simpa using a)];rw [Array.getElem?_eq_getElem o,<- g];simp
  simp [World.frozen?,n]
 refine (Any.slices_Delete_int p b 0 c i j l w y h2 (by simpa [maxLen] using h3) q a).mono fun N w' ⟨h1,m,z⟩=>?_;have A:(l.take i++l.drop j).length=l.length-(j-i):=by
  rw [QV,Q5,Sv];omega
 have hS:=St.sorted (m:=m) (Value.int .i64) k (l.take i++l.drop j++List.replicate (j-i) 0).toArray ap #[];have B:w'=Sort.grow (Sort.putRow (Value.int .i64) (Sort.ahead w m) b 0 (l.take i++l.drop j++List.replicate (j-i) 0).toArray) #[]:=by
  have D:∀ W:World,Sort.grow W #[]=W:=fun W=>by cases W;simp [Sort.grow]
  rw [D,z]
 rw [<- B] at hS;have E:w'.ownsRow 0 e 1 (.slice (some ⟨b,0,none⟩) l.length c) l.length _:=hS.sep.e _ (Qb ..);obtain ⟨_,O,F,h,G,H,I⟩:=cG E;have J:w'.ownsRow 0 e 1 (.slice (some ⟨b,0,none⟩) (l.take i++l.drop j).length c) (l.take i++l.drop j).length ((l.take i++l.drop j).map fun x=>.int .i64 x):=by
  refine ⟨by simp,.inr ⟨b,c,h,Z,QT _,G,by omega,F,H, ?_⟩⟩;have K:h.toList.take ((l.take i++l.drop j).length*1)=(h.toList.take (l.length*1)).take ((l.take i++l.drop j).length*1):=by
   rw [TG,Sa om_]
  rw [K,I];simp only [Ru,SK];rw [List.take_append_of_le_length am,Re am]
 have hT:=St.turn hS J ⟨rfl,rfl,rfl,QO _,fun _ _ _=>rfl⟩ (QO _) (.inl rfl);refine ⟨_,C,_,h1, ?_,Z⟩;rw [A] at hT ⊢;exact hT
end
end Go.Jog
namespace Go.Jog
open Go
theorem Xb {P:Program}{f:FuncId}{b:List Value}{C:Mem}{t s n:Nat}{a:List (List Value)}(d:∀ r∈a,r.length=s)(g:a.length=n)(h:Fn P f b C [] fun u _ c=>c=[.arr u t s n a.flatten]) :
  Pur P f b C fun u D=>Sl D s u a:=⟨h.1,fun w i=>(h.2 w i).mono fun e w' ⟨v,C',c,j,hs,k⟩=>by
 subst k;obtain ⟨l,h1,h2,h3⟩:=St.freezeArr hs d g;exact ⟨v,l,[],j,h3,Z,h2⟩⟩
end Go.Jog
namespace Go.Jog
open Go
section
variable {cx:Cx} {n:Nat} {ds:List (Option Nat)} {R:Rg n ds} {its:List It} {fr:Fr} {C:Mem} {L:List Ent} {i k d:Nat} {o:Oper}
theorem Wk {t e h b:Nat}{A:Option Addr}{x:Operand}{g:GL}{c:TI}(j:Nat.ble k 1=true)(l:o.dst=some d)(m:o.op=.call ⟨.builtin .cap,#[x],#[t]⟩)(p:gOf ds fr o.guard=some g)(q:ev fr g x=some (.slice A h b))
  (r:cx.T.get t=some c) (f:c.k=.slice e) (s:aQ n ds ((d,g,.int .i64 b)::fr) d=true) (u:wfG ds fr g=true)
  (v:D cx R its ((d,g,.int .i64 b)::fr) C L):D cx R ((i,k,o)::its) fr C L:=by
 have y:cx.P.underlying t=some (.slice e):=by
  obtain ⟨B,E,F,G,H⟩:=c;simp only at f;subst f;exact cD cx.hT r
 refine D.run _ j l p (fun I a hs w=>?_) s u v;have z:execOp a.eval o=(do let dd <- resolve a.eval ⟨.builtin .cap,#[x],#[t]⟩ o.type;invoke dd.target dd.args:Sem Next):=by unfold execOp;rw [m]
 rw [z];simp [resolve,invoke,builtin,Sem.run_bind,hs _ _ q,Builtin.cap_,run_underlying y,goInt]
theorem WW {t g e m:Nat}{x y:Operand}{s j:IntKind}{l p f:TI}(M:k=3)(N:o.dst=some d)(O:gOn ds fr o.guard=true)(Q:o.op=.call ⟨.builtin .append,#[x,y],#[t,g]⟩)
  (U:cx.T.get t=some l) (u:l.k=.slice e) (z:cx.T.get e=some f) (A:Nat.beq f.size 0=false) (V:cx.T.get g=some p) (B:p.k=.int j)
  (W:ev fr [] x=some (.slice none 0 0)) (X:ev fr [] y=some (.int s (m:Nat))) (Y:0<m) (hb:m*f.bytes<=281474976710656) (aa:m<=maxLen) (hp:∀ v,aQ n ds ((d,[],v)::fr) d=true)
  (h:∀ b c,m<=c->D cx R its ((d,[],.slice (some ⟨b,0,none⟩) m c)::fr) C (.arr (.slice (some ⟨b,0,none⟩) m c) e f.size m (kl (f.zero.map Zv.val) m)::L)):D cx R ((i,k,o)::its) fr C L:=by
 have hu:cx.P.underlying t=some (.slice e):=by
  obtain ⟨kk,s1,b1,z1,g1⟩:=l;simp only at u;subst u;exact cD cx.hT U
 have ab:cx.P.underlying g=some (.int j):=by
  obtain ⟨kk,s1,b1,z1,g1⟩:=p;simp only at B;subst B;exact oJ cx.hT V
 obtain ⟨inf,hi,ac,ad,hz,E⟩:=(eo cx.hT z).info;have ae:0<f.size:=SP (fun e=>by rw [e] at A;cases A);have ai:maxLen<=9223372036854775807:=by simp [maxLen]
 refine Vk (S:=fun F C' G=>C'=C/\∃ b c,m<=c/\F=.slice (some ⟨b,0,none⟩) m c/\G=.arr (.slice (some ⟨b,0,none⟩) m c) e f.size m (kl (f.zero.map Zv.val) m)::L) (by subst M;rfl) N O hp (fun a hs w _ hw=>?_) (fun F C' G _ ⟨e0,b,c,hc,r,e2⟩=>by subst e0;subst r;subst e2;exact h b c hc);have hr:=Lib.run_append_nil_zeros (P:=cx.P) w t g o.type e inf f.zv s j hu ab hi hz m Y (by rw [ac];exact ae) om_ (by rw [ad];exact hb);have af:(execOp a.eval o).run cx.P w=.ok (.value (.slice (some ⟨w.heap.size,0,none⟩) m (grownCap w m 0 e))) (w.drew.alloc (.cells (Builtin.zeroCells f.zv.cells m++Builtin.zeroCells f.zv.cells (grownCap w m 0 e-m)) e)):=by
  have r:execOp a.eval o=(do let dd <- resolve a.eval ⟨.builtin .append,#[x,y],#[t,g]⟩ o.type;invoke dd.target dd.args:Sem Next):=by unfold execOp;rw [Q]
  rw [r];simp only [resolve,invoke,builtin,Sem.run_bind,Sem.run_pure,Result.andThen_ok,SY,Rs,S4,hs _ _ W,hs _ _ X,hr]
 unfold Oper.wp;rw [af];have H:=grownCap_ge w m 0 e;have ag:=grownCap_le_maxLen w m 0 e aa;have I:=St.alloc (St.drew hw) (.cells (Builtin.zeroCells f.zv.cells m++Builtin.zeroCells f.zv.cells (grownCap w m 0 e-m)) e);have J:(f.zero.map Zv.val).length=f.size:=by
  have:=(eo cx.hT z).zsize;rw [E] at this;simpa using this
 have K:∀ q,Builtin.zeroCells f.zv.cells q=⟨kl (f.zero.map Zv.val) q⟩:=fun q=>by
  rw [<- GD,E];rfl
 have ah:(⟨kl (f.zero.map Zv.val) m⟩++⟨kl (f.zero.map Zv.val) (grownCap w m 0 e-m)⟩:Array Value)=⟨kl (f.zero.map Zv.val) m++kl (f.zero.map Zv.val) (grownCap w m 0 e-m)⟩:=by simp
 rw [K,K,ah] at I ⊢;refine ⟨_,C,.arr (.slice (some ⟨w.heap.size,0,none⟩) m (grownCap w m 0 e)) e f.size m (kl (f.zero.map Zv.val) m)::L,Z,Mem.le.refl _,fun h2=>by omega,St.objArr I (List.take_left' (by rw [cV,J])) ?_ H ag,Z,_,_,H,Z,Z⟩;rw [QV,cV,cV,J,<- SJ];congr 1;omega
end
end Go.Jog
namespace Go.Jog.Lp
def Sys.Hold (p:Sys):Prop:=∃ y:Nat->Rat,∀ r,r<p.m->sumN (fun j=>p.a r j*y j) p.n<=p.b r
theorem vR (g:Nat->Nat->Rat)(n:Nat):∀ m,sumN (fun r=>sumN (fun j=>g r j) n) m=sumN (fun j=>sumN (fun r=>g r j) m) n
 | 0=>(ci fun _ _=>rfl).symm
 | m+1=>by
  show sumN (fun r=>sumN (fun j=>g r j) n) m+sumN (fun j=>g m j) n=_;rw [vR g n m,<- dv];rfl
theorem E7 {g h:Nat->Rat}{n:Nat}(e:∀ j,j<n->g j<=h j):sumN g n<=sumN h n:=by
 have h1:sumN (fun j=>g j + -1*h j) n<=0:=yf fun j a=>by have:=e j a;grind
 rw [dv,cT] at h1;grind
section
variable {p:Sys} {cc:Nat->Rat} {k:Nat} {du pt ra:Nat->Rat} {val:Rat}
theorem InfR.not (h:InfR p k du):¬ p.Hold:=by
 rintro ⟨y,hy⟩;have h1:sumN (fun r=>du r*sumN (fun j=>p.a r j*y j) p.n) p.m<=sumN (fun r=>du r*p.b r) p.m:=E7 fun r hr=>Uk (hy r hr) (h.pos r);have h2:sumN (fun r=>du r*sumN (fun j=>p.a r j*y j) p.n) p.m=0:=by
  have c:sumN (fun r=>du r*sumN (fun j=>p.a r j*y j) p.n) p.m=sumN (fun r=>sumN (fun j=>du r*(p.a r j*y j)) p.n) p.m:=aO fun r _=>(cT _ _ _).symm;rw [c,vR];refine ci fun j d=>?_;have e:sumN (fun r=>du r*(p.a r j*y j)) p.m=y j*sumN (fun r=>du r*p.a r j) p.m:=by
   rw [<- cT];exact aO fun r _=>by grind
  rw [e,h.fac j d];grind
 have h3:=h.bnd;grind
theorem OptR.hold (h:OptR p cc k val pt du):p.Hold:=⟨pt,h.row⟩
theorem UnbR.zero (h:UnbR p (fun _=>0) k pt ra):False:=by
 have h1:=h.fall;have h2:sumN (fun j=>(0:Rat)*ra j) p.n=0:=ci fun j _=>by grind
 rw [h2] at h1;exact absurd h1 dc_
end
end Go.Jog.Lp
namespace Go.Jog
open Go
theorem WB {F:Fx}{d:Fr}{C:Mem}{L:List Ent}{p q r s b t:Nat}{m:List Value}{z:TypeId}{A:Nat × Nat}{g:TI}{x y u v:Value}(B:Ent.obj b (.cells ⟨m⟩ z A)∈L)(D:F.fn.results=#[.tmp p,.cell r t,.tmp q,.tmp s])
  (c:ev d [] (.tmp p)=some x) (E:ev d [] (.tmp q)=some y) (H:ev d [] (.tmp r)=some (.pointer (some ⟨b,0,none⟩))) (I:ev d [] (.tmp s)=some u)
  (J:F.cx.T.get t=some g) (K:cA g (m.take g.size)=some v) (h:F.post (.tuple #[x,v,y,u]) C []) (n:F.ends:=by exact ⟨fun _ _ _ h=>h,rfl⟩):G F [] .ret d C L:=fun _ a w f o=>by
 refine n.kq ?_;have i:=bI f (fun p c=>by cases c) c;have j:=bI f (fun p c=>by cases c) E;have k:=bI f (fun p c=>by cases c) H;have l:=bI f (fun p c=>by cases c) I;simp only [Act.eval] at i j k l;refine bodyPost_ret (v:=.tuple #[x,v,y,u]) ?_ (f.defers.trans n.2) ⟨_,C,[],Z,St.dropAll o,h⟩;have M:=eT (F:=F) J (o.sep.e _ B) K;simp only [RV] at i j k l;simp [results,D,i,j,k,l,asAddr,M]
end Go.Jog
namespace Go.Jog
open Go
def keyU:KeyT (.int .u64) Nat where
 enc n:=.int .u64 (n:Int)
 isKey _:=rfl
 same a b:=by
  simp only [Instr.sameNow,SL];congr 1;by_cases h:a=b
  ·subst h;simp
  have h2:¬ ((a:Int)=b):=fun e=>h (Int.ofNat_inj.1 e);simp only [RT,ne_eq,h,decide_false];exact h2
end Go.Jog
namespace Go.Jog
variable {f:List Nat}{h:Nat->Bool}{i n s:Nat}{z:Int}
def xM (f:List Nat)(z:Int):Prop:=(f=[]/\z=-1)∨∃ x,f.head?=some x/\z=(iH x:Int)/\∀ y∈f,iH y=iH x
theorem Da (h:xM f z)(a:∀ x∈f,iH x<=iH s)(c:¬ (0<=z/\z<(iH s:Int))):xM (f++[s]) (iH s):=by
 refine .inr ?_;rcases h with ⟨rfl,_⟩ | ⟨x,h1,h2,h3⟩
 ·exact ⟨s,Z,Z,by simp⟩
 have b:x∈f:=List.mem_of_mem_head? h1;have e:iH x=iH s:=by have:=a x b;omega
 refine ⟨x,by rw [List.head?_append,h1];rfl,by rw [e],fun y hy=>?_⟩;rcases Q6.1 hy with hy | hy
 ·exact h3 y hy
 rw [Rc.1 hy,e]
theorem wo (a:h s=false):pk h f s=f:=by
 unfold pk;rw [a];simp
theorem AY (a:xM f z)(c:¬ (0<=z/\z<(iH s:Int)))(b:h s=true):pk h f s=f++[s]:=by
 unfold pk;rw [b];rcases a with ⟨rfl,_⟩ | ⟨x,h1,h2,_⟩
 ·simp
 rw [h1];have:¬ iH x<iH s:=by omega
 simp [this]
theorem AV {h:Nat->Bool}:∀ (l f:List Nat){x:Nat},x∈l.foldl (pk h) f->x∈f∨x∈l
 | [],f,x,a=>.inl a
 | s::l,f,x,a=>by
  rcases AV l (pk h f s) a with h1 | h1
  ·unfold pk at h1;split at h1
   ·exact .inl h1
   rcases Q6.1 h1 with h2 | h2
   ·exact .inl h2
   rw [Rc.1 h2];exact .inr Qb
  exact .inr (Q0 _ h1)
theorem AX {h:Nat->Bool}:∀ (l f:List Nat),(l.foldl (pk h) f).length<=f.length+l.length
 | [],f=>QO _
 | s::l,f=>by
  have h1:=AX (h:=h) l (pk h f s);have h2:(pk h f s).length<=f.length+1:=by
   unfold pk;split
   ·omega
   rw [QV];exact QO _
  rw [Sn,Q8];omega
theorem Dj {x:Nat}(c:n<6)(b:(bQ n)[i]?=some s)(d:(((bQ n).take i).foldl (pk h) []).head?=some x)(o:iH x<iH s):yr h (bQ n)=((bQ n).take i).foldl (pk h) []:=by
 have f:=LO n c;unfold yr
 conv=>lhs;rw [<- RW i (bQ n),List.foldl_append]
 refine wn d _ fun t g=>?_;obtain ⟨k,a⟩:=Sg g;rw [List.getElem?_drop] at a;obtain ⟨h5,j⟩:=aD.1 b;obtain ⟨l,m⟩:=aD.1 a;by_cases e:k=0
 ·subst e;rw [SU,b] at a;cases a
  omega
 have:=List.pairwise_iff_getElem.1 f i (i+k) h5 l om_;rw [j,m] at this;omega
theorem FF (a:n<6)(b:(bQ n)[i]?=some s)(c:xM (((bQ n).take i).foldl (pk h) []) z)(d:0<=z/\z<(iH s:Int)):yr h (bQ n)=((bQ n).take i).foldl (pk h) []:=by
 rcases c with ⟨_,e⟩ | ⟨x,h1,h2,_⟩
 ·omega
 exact Dj a b h1 om_
theorem Pe (b:n<6)(c:(bQ n)[i]?=some s):∀ x∈((bQ n).take i).foldl (pk h) [],iH x<=iH s:=fun x d=>by
 rcases AV _ _ d with h1 | h1
 ·cases h1
 obtain ⟨k,a⟩:=Sg h1;rw [Rx] at a;split at a
 ·rename_i e;obtain ⟨h5,f⟩:=aD.1 c;obtain ⟨g,j⟩:=aD.1 a;have:=List.pairwise_iff_getElem.1 (LO n b) k i g h5 e;rw [f,j] at this;exact this
 cases a
end Go.Jog
namespace Go.Jog
open Go
variable {F:Fence}{K N:Act->World->Prop}{P:Program}{a:Act}{i n:Nat}{next:Act->World->Prop}{o:Oper}{ops:Array Oper}{r:Option Nat}{w:World}
def Fo (o:Option Nat):Fence:={ Fence.wide with round:=o }
theorem JP {Q:Exit->Act->World->Prop}(b:∀ c,o.op≠.defer c)(h:o.wp P a w next Q):o.wpIn (Fo r) n P a w next Q:=by
 refine ⟨fun _ _=>trivial, ?_⟩;show o.uponIn (Fo r) n P a next Q ((o.semAt r a.eval).run P w);rw [Oper.semAt_eq r a.eval o b];unfold Oper.wp at h;revert h;generalize (execOp a.eval o).run P w=r;intro h;cases r with
 | ok x w' =>
  cases x with
  | value v=>exact h
  | skip=>exact h
  | defer d=>exact h
  | enter f args=>exact ⟨(fun h=>(by cases h)),callsIn_wide.2 h⟩
  | row row args =>
   refine ⟨(fun h=>(by cases h)),fun c cs _=>?_⟩;obtain ⟨v,e,h1,h2⟩:=h c cs;exact ⟨v,e,h1,stepsIn_wide.2 h2⟩
  | _=>exact h.elim
 | halt x w' =>
  cases x <;> exact h
theorem IE {e:Act->World->Prop}(f:gk ops=true)(b:∀ a w,K a w->e a w)
  (h:wpOp P ops (QN N) i K a w):wpOpIn (Fo r) n P ops (QN N) i e a w:=by
 unfold wpOp at h;unfold wpOpIn;cases c:ops[i]? with
 | none=>rw [c] at h;exact b _ _ h
 | some o =>
  rw [c] at h;simp only at h ⊢;split
  ·rename_i d;rw [aW d] at h;rcases h with h | ⟨_,g,w',h⟩
   ·exact JP (sd f c) (Oper.wp_mono b h)
   exact h.elim
  rename_i d;rw [az d] at h;exact ⟨fun _ _=>trivial,b _ _ h⟩
theorem IL {x:Result Next}(h:o.uponIn F n P a next (QN fun _ _=>False) x):o.uponIn F n P a next (QN N) x:=by
 cases x with
 | ok x w' =>
  cases x with
  | value v=>exact h
  | skip=>exact h
  | defer d=>exact h
  | enter f args =>
   refine ⟨h.1,CallsIn.mono h.2 fun e g b=>?_⟩;cases e with
   | returned v=>exact b
   | panicked c=>exact b.elim
   | outgrown=>obtain ⟨_,_,b⟩:=b;exact b.elim
  | row row args=>exact h
  | round l f tmps assign body =>
   refine ⟨h.1,RoundIn.mono h.2 fun e g b=>?_⟩;cases e with
   | returned v=>exact b
   | panicked c=>exact b.elim
   | outgrown=>obtain ⟨_,_,b⟩:=b;exact b.elim
  | _=>exact h.elim
 | halt x w' =>
  cases x <;> exact h
theorem IF (h:wpOpIn F n P ops (QN fun _ _=>False) i K a w):wpOpIn F n P ops (QN N) i K a w:=by
 unfold wpOpIn at *;cases c:ops[i]? with
 | none=>rw [c] at h;exact h
 | some o =>
  rw [c] at h;simp only at h ⊢;split
  ·rename_i b;rw [aW b] at h;exact ⟨h.1,IL h.2⟩
  rename_i b;rw [az b] at h;exact h
section
variable {P:Program} {ops:Array Oper} {ι:Type} {cls:ι->World->Prop} {le:ι->ι->Prop} {md:Region.Mode} {r:Option Nat} {n y:Nat}
def yh (r:Option Nat)(n y:Nat)(P:Program)(ops:Array Oper)(cls:ι->World->Prop)(le:ι->ι->Prop)(kd i:Nat)(K:Act->ι->Prop)(a:Act)(κ:ι):Prop :=
 if i=y then ∀ w,cls κ w->wpOpIn (Fo r) n P ops (QN fun _ _=>False) i (fun a' w'=>∃ κ',cls κ' w'/\K a' κ') a w
 else fT P ops cls le kd i K a κ
theorem oA (e:gk ops=true)(f:∀ κ,le κ κ){g i:Nat}{K:Act->ι->Prop}{b N:Act->World->Prop}{a:Act}{κ:ι}{w:World}(c:cls κ w)
  (d:∀ a κ w,K a κ->cls κ w->b a w) (h:yh r n y P ops cls le g i K a κ):wpOpIn (Fo r) n P ops (QN N) i b a w:=by
 unfold yh at h;split at h
 ·exact IF (wpOpIn_mono (fun j w' ⟨k,h1,h2⟩=>d _ _ _ h2 h1) (h w c))
 exact IE e (fun _ _ h=>h) (gR (Q:=QN N) f c d h)
def DY (r:Option Nat)(n y:Nat)(P:Program)(ops:Array Oper)(cls:ι->World->Prop)(le:ι->ι->Prop)(kd:Nat->Nat)(Post:Act->ι->Prop):List Nat->Act->ι->Prop
 | [],a,κ=>Post a κ
 | i::π,a,κ=>yh r n y P ops cls le (kd i) i (DY r n y P ops cls le kd Post π) a κ
theorem vn {c:Nat->Nat}{Post d:Act->ι->Prop}{ρ:List Nat}(f:∀ a κ,d a κ->DY r n y P ops cls le c Post ρ a κ):∀ (b:List Nat)(a:Act)(κ:ι),y ∉ b->DU P ops cls le c d b a κ->DY r n y P ops cls le c Post (b++ρ) a κ
 | [],_,_,_,h=>f _ _ h
 | i::b,a,κ,hy,h=>by
  show yh r n y P ops cls le (c i) i (DY r n y P ops cls le c Post (b++ρ)) a κ;unfold yh;rw [az (fun e=>hy (by rw [e];exact Qb ..))];exact gw (fun a κ h=>vn f b a κ (fun g=>hy (Q0 _ g)) h) h
theorem ld (d:gk ops=true)(e:∀ κ,le κ κ){j:Nat->Nat}{f:Act->ι->Prop}{N:Act->World->Prop}(g:∀ a κ w,f a κ->cls κ w->N a w) :
  ∀ (b:List Nat)(a:Act)(κ:ι)(w:World),cls κ w->DY r n y P ops cls le j f b a κ->wpOpsIn (Fo r) n P ops (QN N) b a w
 | [],_,_,_,c,h=>g _ _ _ h c
 | i::b,a,κ,w,c,h=>by
  rw [wpOpsIn_cons];exact oA d e c (fun k l w' m o=>ld d e g b k l w' o m) h
theorem nI (c:gk ops=true)(d:∀ κ,le κ κ){f:Nat->Nat}{b:Act->ι->Prop}{g:Nat}{Q:Exit->Act->World->Prop}{a:Act}{w:World}{κ:ι}
  (i:cls κ w) (h:DY r n y P ops cls le f b (List.range ops.size) a κ) (j:∀ a κ w,b a κ->cls κ w->Q .normal a w):(Code.region g ops false).wpIn (Fo r) n P Q a w :=
 wpIn_mono (wpIn_region (ld c d (N:=fun a w=>Q .normal a w) j _ _ _ _ i h)) (fun e a w q=>by cases e <;> first | exact q | exact q.elim)
end
end Go.Jog
