/- Laws that the proofs of this seat share, part 11. -/
import Derived.Test.YthnpijdjlddpmaaGreatDoorG10
import Derived.Test.YthnpijdjlddpmaaGreatDoorShelf
set_option maxHeartbeats 4000000
namespace Go.Jog.Lp
theorem pD (g:Nat->Rat)(n:Nat):∀ m,sumN g (n+m)=sumN g n+sumN (fun r=>g (n+r)) m
 | 0=>by show sumN g n=sumN g n+0;grind
 | m+1=>by
  show sumN g (n+m+1)=_;rw [sumN,sumN,pD g n m];grind
theorem ng {g:Nat->Rat}{k n:Nat}(a:k<n):sumN (fun j=>g j*cZ k j) n=g k:=by
 rw [gd a,bU fun j _=>?_]
 ·unfold cZ;rw [aI rfl];grind
 ·unfold cZ;split
  ·rfl
  ·grind
section
variable {p:Sys} {t:Tab}
def Sys.full (p:Sys)(y:Nat->Rat)(v:Nat):Rat:=if v<p.n then y v else p.b (v-p.n)-sumN (fun j=>p.a (v-p.n) j*y j) p.n
theorem uz {y:Nat->Rat}{v:Nat}(h:v<p.n):p.full y v=y v:=aI h
theorem qt {y:Nat->Rat}(r:Nat):p.full y (p.n+r)=p.b r-sumN (fun j=>p.a r j*y j) p.n:=by
 unfold Sys.full;rw [aC om_,Nf]
theorem Gj (y:Nat->Rat):p.Sol (p.full y):=by
 intro r hr;rw [qt];congr 1;exact aK fun j a=>by rw [uz a]
def dualV (p:Sys)(t:Tab)(l:Line)(r:Nat):Rat:=if p.n+r∈t.others then l.g (t.others.idxOf (p.n+r)) else 0
theorem dualV_at (h:TabOf p t){l:Line}{s:Nat}(a:s<t.others.length)(b:p.n<=t.oth s):dualV p t l (t.oth s-p.n)=l.g s:=by
 unfold dualV;rw [show p.n+(t.oth s-p.n)=t.oth s by omega,aI (oth_mem a)];congr 1;exact cH h.ok.no a
theorem dualV_none {l:Line}{r:Nat}(h:p.n+r ∉ t.others):dualV p t l r=0:=aC h
theorem gE (h:TabOf p t)(l:Line)(r:Nat):dualV p t l r=0∨∃ s,s<t.others.length/\t.oth s=p.n+r/\dualV p t l r=l.g s:=by
 by_cases hm:p.n+r∈t.others
 ·obtain ⟨s,hs,e⟩:=cY hm;have a:t.oth s=p.n+r:=e;refine .inr ⟨s,hs,a, ?_⟩;have:=dualV_at h (l:=l) hs om_
  rwa [a,Nf] at this
 ·exact .inl (dualV_none hm)
theorem Dk (h:TabOf p t){l:Line}(b:∀ s,s<t.others.length->t.oth s<p.n->l.g s=0)(x:Nat->Rat):lv l t.others x=l.c+sumN (fun r=>dualV p t l r*x (p.n+r)) p.m:=by
 have h1:=vz (g:=fun v=>l.g (t.others.idxOf v)*x v) (n:=p.n+p.m) h.ok.no fun v a=>h.ok.lt v (Mh.2 (.inr a));have h2:sumN (fun j=>l.g j*x (t.others.getD j 0)) t.others.length=sumN (fun q=>(fun v=>l.g (t.others.idxOf v)*x v) (t.others.getD q 0)) t.others.length:=aK fun j d=>by
  show _=l.g (t.others.idxOf (t.others.getD j 0))*_;rw [cH h.ok.no d]
 unfold lv;rw [h2,<- h1,pD,bU fun v a=>?_]
 ·congr 1;rw [show (0:Rat)+sumN (fun r=>if p.n+r∈t.others then l.g (t.others.idxOf (p.n+r))*x (p.n+r) else 0) p.m=sumN (fun r=>if p.n+r∈t.others then l.g (t.others.idxOf (p.n+r))*x (p.n+r) else 0) p.m from by grind];refine aK fun r _=>?_;unfold dualV;split <;> grind
 ·split
  ·next hm =>
   obtain ⟨s,hs,e⟩:=cY hm;have f:t.oth s=v:=e;rw [<- e,cH h.ok.no hs,b s hs om_];grind
  ·rfl
theorem cert {y:Nat->Rat}{q0 e0:Rat}{ee:Nat->Rat}(h:∀ x,p.Sol x->q0+sumN (fun r=>y r*x (p.n+r)) p.m=e0+sumN (fun j=>ee j*x j) p.n) :
  q0+sumN (fun r=>y r*p.b r) p.m=e0/\∀ j,j<p.n->sumN (fun r=>y r*p.a r j) p.m=-ee j:=by
 have d:∀ u:Nat->Rat,q0+sumN (fun r=>y r*(p.b r-sumN (fun j=>p.a r j*u j) p.n)) p.m=e0+sumN (fun j=>ee j*u j) p.n:=by
  intro u;have:=h _ (Gj (p:=p) u);rw [aK (g:=fun r=>y r*p.full u (p.n+r)) (h:=fun r=>y r*(p.b r-sumN (fun j=>p.a r j*u j) p.n)) fun r _=>by rw [qt],aK (g:=fun j=>ee j*p.full u j) (h:=fun j=>ee j*u j) fun j c=>by rw [uz c]] at this;exact this
 have h0:q0+sumN (fun r=>y r*p.b r) p.m=e0:=by
  have:=d fun _=>0;rw [bU (g:=fun j=>ee j*(0:Rat)) fun j _=>by grind,aK (h:=fun r=>y r*p.b r) fun r _=>by rw [bU fun j _=>by grind];grind] at this;grind
 refine ⟨h0,fun j c=>?_⟩;have h1:=d (cZ j);rw [ng c,aK (h:=fun r=>y r*p.b r + -1*(y r*p.a r j)) fun r _=>by rw [ng c];grind,cX,cE] at h1;grind
def Rel (F:Nat)(t:Tab)(k:Nat):Prop:=∀ s,s<k->s<t.others.length->t.oth s<F->∀ i,i<t.basic.length->F<=t.bas i->(t.line i).g s=0
theorem rel_pivot {F N k r s:Nat}(h:t.Ok N)(n:Rel F t k)(d:r<t.basic.length)(q:s<t.others.length)(u:F<=t.bas r):Rel F (t.pivot r s) k:=by
 intro b o j a i c l;have v:(t.pivot r s).basic.length=t.basic.length:=MN;have w:(t.pivot r s).others.length=t.others.length:=MN;rw [w] at j;rw [v] at c;rw [nN q] at a;rw [ub d] at l;have m:b≠s:=by
  intro e;rw [aI e] at a;omega
 rw [aC m] at a;have x:=n b o j a r d u;have z:(t.line r).f.length=t.others.length:=h.fl _ (line_mem h d);have A:(t.line i).f.length=t.others.length:=h.fl _ (line_mem h c);have p:(byL (t.line r) s).g b=0:=by
  rw [byL_g om_,aC m,x];grind
 rw [pivot_line (by rw [h.ll];exact c)];split
 ·exact p
 ·next y =>
  rw [aC y] at l;rw [Cl om_,aC m,n b o j a i c l,p];grind
theorem rel_next {F N r s:Nat}(h:t.Ok N)(d:Rel F t s)(f:r<t.basic.length)(a:s<t.others.length)(g:F<=t.bas r):Rel F (t.pivot r s) (s+1):=by
 intro b m j c i k l;by_cases e:b=s
 ·rw [e,nN a,aI rfl] at c;omega
 ·exact rel_pivot h d f a g b om_ j c i k l
theorem rel_none {F s:Nat}(d:Rel F t s)(f:∀ i,i<t.basic.length->F<=t.bas i->(t.line i).g s=0):Rel F t (s+1):=by
 intro a k h j i b c;by_cases e:a=s
 ·rw [e];exact f i b c
 ·exact d a om_ h j i b c
theorem E9 (h:TabOf p t)(r:Nat)(c:r<p.m):t.sol (p.n+r)=p.b r-sumN (fun j=>p.a r j*t.sol j) p.n:=(h.sol _).1 (dQ h.ok) r c
theorem qD (h:TabOf p t)(f:t.Feas p.n)(r:Nat)(g:r<p.m):sumN (fun j=>p.a r j*t.sol j) p.n<=p.b r:=by
 have h1:=E9 h r g;have h2:0<=t.sol (p.n+r):=by
  by_cases c:p.n+r∈t.basic
  ·obtain ⟨i,d,e⟩:=cY c;have k:t.bas i=p.n+r:=e;rw [<- k,sol_bas h.ok d];exact f i d om_
  ·rw [sol_oth h.ok c];exact Rat.le_refl
 grind
def refV (p:Sys)(t:Tab)(i r:Nat):Rat:=if r=t.bas i-p.n then 1 else -dualV p t (t.line i) r
theorem J4 (h:TabOf p t)(k:Rel p.n t p.n){i:Nat}(d:i<t.basic.length)(l:p.n<=t.bas i)(o:∀ s,s<t.others.length->p.n<=t.oth s->(t.line i).g s<=0) :
  (∀ r,0<=refV p t i r)/\sumN (fun r=>refV p t i r*p.b r) p.m=(t.line i).c/\∀ j,j<p.n->sumN (fun r=>refV p t i r*p.a r j) p.m=0:=by
 have B:=h.ok.lt _ (Mh.2 (.inl (bas_mem d)));have q:∀ s,s<t.others.length->t.oth s<p.n->(t.line i).g s=0:=fun s hs f=>k s (by rw [<- h.lo];exact hs) hs f i d l;have u:dualV p t (t.line i) (t.bas i-p.n)=0:=dualV_none (by rw [show p.n+(t.bas i-p.n)=t.bas i by omega];exact fun f=>h.ok.dj (bas_mem d) f);have v:∀ r,dualV p t (t.line i) r<=0:=fun r=>by
  rcases gE h (t.line i) r with e | ⟨s,hs,C,w⟩
  ·rw [e];exact Rat.le_refl
  ·rw [w];exact o s hs om_
 have y:∀ x,p.Sol x->-(t.line i).c+sumN (fun r=>refV p t i r*x (p.n+r)) p.m=0+sumN (fun j=>(0:Rat)*x j) p.n:=by
  intro x z;have h1:=(h.sol x).2 z i d;rw [Dk h q] at h1;have h2:∀ r,r<p.m->refV p t i r*x (p.n+r)=x (p.n+r)*cZ (t.bas i-p.n) r + -1*(dualV p t (t.line i) r*x (p.n+r)):=by
   intro r _;unfold refV cZ;split
   ·next e=>rw [e,u];grind
   ·grind
  rw [aK h2,cX,cE,ng (g:=fun r=>x (p.n+r)) (show t.bas i-p.n<p.m by omega),bU (g:=fun j=>(0:Rat)*x j) fun j _=>by grind];rw [show p.n+(t.bas i-p.n)=t.bas i by omega,h1];grind
 obtain ⟨D,c2⟩:=cert y;refine ⟨fun r=>?_,by grind,fun j A=>by rw [c2 j A];decide⟩;unfold refV;split
 ·decide
 ·have:=v r;grind
theorem Gu (h:TabOf p t){d:Rat}{f:Nat->Rat}(i:ObjOf p t d f)(k:∀ s,s<t.others.length->t.oth s<p.n->t.worth.g s=0)(l:∀ s,s<t.others.length->p.n<=t.oth s->0<=t.worth.g s) :
  (∀ r,0<=dualV p t t.worth r)/\t.worth.c+sumN (fun r=>dualV p t t.worth r*p.b r) p.m=d/\(∀ j,j<p.n->sumN (fun r=>dualV p t t.worth r*p.a r j) p.m=-f j)/\d+sumN (fun j=>f j*t.sol j) p.n=t.worth.c:=by
 obtain ⟨o,c2⟩:=cert (p:=p) (y:=dualV p t t.worth) (q0:=t.worth.c) (e0:=d) (ee:=f) fun x q=>by rw [<- i x q,<- Dk h k];rfl
 refine ⟨fun r=>?_,o,c2, ?_⟩
 ·rcases gE h t.worth r with e | ⟨s,hs,v,u⟩
  ·rw [e];exact Rat.le_refl
  ·rw [u];exact l s hs om_
 ·rw [<- i _ ((h.sol _).1 (dQ h.ok)),zg h.ok]
end
end Go.Jog.Lp
namespace Go.Jog.Lp
section
variable {p:Sys} {t:Tab}
theorem I8 (h:TabOf p t)(s:Nat){r:Nat}(b:r<p.m):sumN (fun j=>p.a r j*t.dir s j) p.n=-t.dir s (p.n+r):=by
 have h1:=(h.sol _).1 (lj h.ok (cZ (t.oth s))) r b;have h2:=(h.sol _).1 (dQ h.ok) r b;have h5:=cX (fun j=>p.a r j*t.dir s j) (fun j=>p.a r j*t.sol j) p.n;rw [show sumN (fun j=>p.a r j*t.dir s j+p.a r j*t.sol j) p.n=sumN (fun j=>p.a r j*t.ext (cZ (t.oth s)) j) p.n from aK fun j _=>by unfold Tab.dir;grind] at h5;have c:t.dir s (p.n+r)=t.ext (cZ (t.oth s)) (p.n+r)-t.sol (p.n+r):=rfl;rw [c,h1,h2];grind
theorem DW (h:TabOf p t){d:Rat}{a:Nat->Rat}(b:ObjOf p t d a){s:Nat}(e:s<t.others.length):sumN (fun j=>a j*t.dir s j) p.n=t.worth.g s:=by
 have h1:=b _ ((h.sol _).1 (lj h.ok (cZ (t.oth s))));have h2:=b _ ((h.sol _).1 (dQ h.ok));rw [zg h.ok] at h2;have h3:t.W (t.ext (cZ (t.oth s)))=t.worth.c+t.worth.g s:=by
  unfold Tab.W;rw [ul h.ok,nZ h.ok e]
 have h5:=cX (fun j=>a j*t.dir s j) (fun j=>a j*t.sol j) p.n;rw [show sumN (fun j=>a j*t.dir s j+a j*t.sol j) p.n=sumN (fun j=>a j*t.ext (cZ (t.oth s)) j) p.n from aK fun j _=>by unfold Tab.dir;grind] at h5;grind
theorem J5 (h:TabOf p t){o:Rat}{b:Nat->Rat}(q:ObjOf p t o b){s:Nat}(c:s<t.others.length){k:Rat}(u:k*t.worth.g s<0)
  (v:∀ i,i<t.basic.length->p.n<=t.bas i->0<=k*(t.line i).g s) (w:p.n<=t.oth s->0<=k) :
  (∀ r,r<p.m->sumN (fun j=>p.a r j*(k*t.dir s j)) p.n<=0)/\sumN (fun j=>b j*(k*t.dir s j)) p.n<0:=by
 have e:∀ f:Nat->Rat,sumN (fun j=>f j*(k*t.dir s j)) p.n=k*sumN (fun j=>f j*t.dir s j) p.n:=fun f=>by
  rw [<- cE];exact aK fun j _=>by grind
 refine ⟨fun r hr=>?_,by rw [e,DW h q c];exact u⟩;rw [e,I8 h s hr];have h2:0<=k*t.dir s (p.n+r):=by
  by_cases d:p.n+r∈t.basic
  ·obtain ⟨i,l,e⟩:=cY d;have x:t.bas i=p.n+r:=e;rw [<- x,dir_bas h c l];exact v i l om_
  ·rw [dir_oth h d];split
   ·next e=>have:=w om_;grind
   ·have:k*0=0:=Rat.mul_zero k;rw [this];exact Rat.le_refl
 grind
def RelW (F:Nat)(t:Tab):Prop:=∀ s,s<t.others.length->t.oth s<F->t.worth.g s=0
theorem relw_pivot {F N r s:Nat}(h:t.Ok N)(k:∀ s,s<t.others.length->t.oth s<F->∀ i,i<t.basic.length->F<=t.bas i->(t.line i).g s=0)(l:RelW F t)(j:r<t.basic.length)(m:s<t.others.length)(n:F<=t.bas r):RelW F (t.pivot r s):=by
 intro a c b;have o:(t.pivot r s).others.length=t.others.length:=MN;rw [o] at c;rw [nN m] at b;have d:a≠s:=by
  intro e;rw [aI e] at b;omega
 rw [aC d] at b;have p:=k a c b r j n;have u:(t.line r).f.length=t.others.length:=h.fl _ (line_mem h j);have q:(byL (t.line r) s).g a=0:=by
  rw [byL_g om_,aC d,p];grind
 show (putL t.worth s (byL (t.line r) s)).g a=0;rw [Cl (by rw [h.wl];exact c),aC d,l a c b,q];grind
inductive LeastR (vs:List Nat) (q:Nat->Prop) (n:Nat):Int->Prop where
 | none:(∀ i,i<n->¬ q i)->LeastR vs q n (-1)
 | some (i:Nat):i<n->q i->(∀ j,j<n->q j->vs.getD i 0<=vs.getD j 0)->LeastR vs q n i
theorem LeastR.no {b:List Nat}{q:Nat->Prop}{n:Nat}{o:Int}(h:LeastR b q n o)(c:¬ q n):LeastR b q (n+1) o:=by
 cases h with
 | none h=>exact .none fun i d a=>by rcases Nat.lt_or_eq_of_le (Nat.le_of_lt_succ d) with h1 | h1;exact h i h1 a;exact c (h1 ▸ a)
 | some i d a hm=>exact .some i om_ a fun j f e=>by rcases Nat.lt_or_eq_of_le (Nat.le_of_lt_succ f) with h1 | h1;exact hm j h1 e;exact absurd (h1 ▸ e) c
theorem LeastR.first {a:List Nat}{q:Nat->Prop}{n:Nat}(h:LeastR a q n (-1))(b:q n):LeastR a q (n+1) n:=by
 have h1:∀ i,i<n->¬ q i:=by
  generalize e:(-1:Int)=o at h;cases h with
  | none h=>exact h
  | some i=>omega
 exact .some n om_ b fun j c d=>by rcases Nat.lt_or_eq_of_le (Nat.le_of_lt_succ c) with h2 | h2;exact absurd d (h1 j h2);rw [h2];exact LP _
theorem LeastR.less {a:List Nat}{q:Nat->Prop}{n i:Nat}(h:LeastR a q n i)(c:q n)(e:a.getD n 0<a.getD i 0):LeastR a q (n+1) n:=by
 generalize f:(i:Int)=o at h;cases h with
 | none h=>omega
 | some k g b hm =>
  obtain rfl:i=k:=by omega
  exact .some n om_ c fun j d b=>by rcases Nat.lt_or_eq_of_le (Nat.le_of_lt_succ d) with h2 | h2;have:=hm j h2 b;omega;rw [h2];exact LP _
theorem LeastR.keep {a:List Nat}{q:Nat->Prop}{n i:Nat}(h:LeastR a q n i)(d:¬ a.getD n 0<a.getD i 0):LeastR a q (n+1) i:=by
 generalize e:(i:Int)=o at h;cases h with
 | none h=>omega
 | some k f b hm =>
  obtain rfl:i=k:=by omega
  exact .some i om_ b fun j c b=>by rcases Nat.lt_or_eq_of_le (Nat.le_of_lt_succ c) with h2 | h2;exact hm j h2 b;rw [h2];omega
inductive LeaveR (F:Nat) (t:Tab) (s n:Nat):Int->Prop where
 | none:(∀ i,i<n->F<=t.bas i->0<=(t.line i).g s)->LeaveR F t s n (-1)
 | some (r:Nat):r<n->F<=t.bas r->(t.line r).g s<0 ->
   (∀ i,i<n->F<=t.bas i->(t.line i).g s<0->(t.line r).c / -(t.line r).g s<(t.line i).c / -(t.line i).g s∨(t.line r).c / -(t.line r).g s=(t.line i).c / -(t.line i).g s/\t.bas r<=t.bas i)->LeaveR F t s n r
theorem LeaveR.no {F s n:Nat}{o:Int}(h:LeaveR F t s n o)(c:F<=t.bas n->0<=(t.line n).g s):LeaveR F t s (n+1) o:=by
 cases h with
 | none h=>exact .none fun i e a=>by rcases Nat.lt_or_eq_of_le (Nat.le_of_lt_succ e) with h1 | h1;exact h i h1 a;rw [h1] at a ⊢;exact c a
 | some r hr a f hm =>
  refine .some r om_ a f fun j k b d=>?_;rcases Nat.lt_or_eq_of_le (Nat.le_of_lt_succ k) with h1 | h1
  ·exact hm j h1 b d
  ·rw [h1] at b d;have:=c b;grind
theorem LeaveR.first {F s n:Nat}(h:LeaveR F t s n (-1))(a:F<=t.bas n)(b:(t.line n).g s<0):LeaveR F t s (n+1) n:=by
 have h1:∀ i,i<n->F<=t.bas i->0<=(t.line i).g s:=by
  generalize e:(-1:Int)=o at h;cases h with
  | none h=>exact h
  | some i=>omega
 refine .some n om_ a b fun j c d f=>?_;rcases Nat.lt_or_eq_of_le (Nat.le_of_lt_succ c) with h2 | h2
 ·have:=h1 j h2 d;grind
 ·rw [h2];exact .inr ⟨rfl,LP _⟩
theorem LeaveR.less {F s n r:Nat}(h:LeaveR F t s n r)(a:F<=t.bas n)(b:(t.line n).g s<0)
  (d:(t.line n).c / -(t.line n).g s<(t.line r).c / -(t.line r).g s∨(t.line n).c / -(t.line n).g s=(t.line r).c / -(t.line r).g s/\t.bas n<=t.bas r):LeaveR F t s (n+1) n:=by
 generalize p:(r:Int)=o at h;cases h with
 | none h=>omega
 | some k q u v hm =>
  obtain rfl:r=k:=by omega
  refine .some n om_ a b fun j e f i=>?_;rcases Nat.lt_or_eq_of_le (Nat.le_of_lt_succ e) with h2 | h2
  ·rcases d with h3 | ⟨h3,l⟩ <;> rcases hm j h2 f i with h4 | ⟨h4,m⟩
   ·exact .inl (by grind)
   ·exact .inl (by grind)
   ·exact .inl (by grind)
   ·exact .inr ⟨h3.trans h4,Md l m⟩
  ·rw [h2];exact .inr ⟨rfl,LP _⟩
theorem LeaveR.keep {F s n r:Nat}(h:LeaveR F t s n r)
  (a:(t.line r).c / -(t.line r).g s<(t.line n).c / -(t.line n).g s∨(t.line r).c / -(t.line r).g s=(t.line n).c / -(t.line n).g s/\t.bas r<=t.bas n):LeaveR F t s (n+1) r:=by
 generalize l:(r:Int)=o at h;cases h with
 | none h=>omega
 | some k m b d hm =>
  obtain rfl:r=k:=by omega
  refine .some r om_ b d fun j e f i=>?_;rcases Nat.lt_or_eq_of_le (Nat.le_of_lt_succ e) with h2 | h2
  ·exact hm j h2 f i
  ·rw [h2];exact a
end
end Go.Jog.Lp
namespace Go.Jog.Lp
theorem Quo.qb {K k:Nat}{q:Rat}(h:Quo K q)(i:K<B9 ^ k):QB k q:=by
 obtain ⟨z,w,h1,h2,h3,h4⟩:=h;have a:∀ (z:Int)(d:Nat),d≠0->q*(d:Int)=z->z.natAbs<=K->d<=K->QB k q:=by
  intro z d b e j l;have c:q=mkRat z d:=by
   rw [Rat.mkRat_eq_div,<- e];have:(d:Rat)≠0:=fun f=>b (by exact_mod_cast f);rw [Rat.intCast_natCast];grind
  rw [c];exact gp b om_ om_
 rcases Int.lt_or_gt_of_ne h1 with g | g
 ·refine a (-z) w.natAbs om_ ?_ om_ om_;rw [show ((w.natAbs:Nat):Int)=-w by omega,Rat.intCast_neg,Rat.intCast_neg,<- h2];grind
 ·refine a z w.natAbs om_ ?_ om_ om_;rw [show ((w.natAbs:Nat):Int)=w by omega];exact h2
structure Lim (p:Sys)(cc:Nat->Rat)(k:Nat):Prop where
 ex:∃ (D:Nat->Int)(M:Nat)(D0:Int),0<M/\p.Wh D M/\(D0≠0/\D0.natAbs<=M)/\(∀ j,j<p.n->∃ z:Int,D0*cc j=z/\z.natAbs<=M)/\bdQ p M<B9 ^ k
structure Inv (p:Sys)(cc:Nat->Rat)(t:Tab):Prop where
 tab:TabOf p t
 obj:ObjOf p t 0 cc
section
variable {p:Sys} {cc:Nat->Rat} {t:Tab} {k:Nat}
theorem Inv.con (h:Inv p cc t)(a:Lim p cc k){i:Nat}(b:i<t.basic.length):QB k (t.line i).c:=by
 obtain ⟨D,M,d,h1,h2,h3,h4,h5⟩:=a.ex;exact (Ji h.tab h2 h1 b).qb h5
theorem Inv.fac (h:Inv p cc t)(a:Lim p cc k){i s:Nat}(b:i<t.basic.length)(c:s<t.others.length):QB k ((t.line i).g s):=by
 obtain ⟨D,M,d,h1,h2,h3,h4,h5⟩:=a.ex;exact (I3 h.tab h2 h1 b c).qb h5
theorem Inv.wcon (h:Inv p cc t)(a:Lim p cc k):QB k t.worth.c:=by
 obtain ⟨D,M,b,h1,h2,h3,h4,h5⟩:=a.ex;exact (EP h.tab h2 h1 h.obj h3 h4 ⟨0,by show _=(0:Rat);grind,LV _⟩).qb h5
theorem Inv.wfac (h:Inv p cc t)(a:Lim p cc k){s:Nat}(b:s<t.others.length):QB k (t.worth.g s):=by
 obtain ⟨D,M,c,h1,h2,h3,h4,h5⟩:=a.ex;exact (EO h.tab h2 h1 h.obj h3 h4 b).qb h5
theorem Inv.pivot (h:Inv p cc t){r s:Nat}(a:r<t.basic.length)(b:s<t.others.length)(c:(t.line r).g s≠0):Inv p cc (t.pivot r s):=⟨h.tab.pivot a b c,h.obj.pivot h.tab a b c⟩
theorem GQ (a:1<=k):1<B9 ^ k:=MV (show 1<B9 ^ 1 from by decide) (Mt dc_ a)
theorem qb_zero (a:1<=k):QB k 0:=⟨Of Nat.one_pos (GQ a),GQ a⟩
theorem Hj (a:1<=k):QB k 1:=⟨GQ a,GQ a⟩
theorem Hk {q:Rat}(h:QB k q):QB k (-q):=⟨by rw [OX];have:=h.1;omega,h.2⟩
theorem Inv.sol (h:Inv p cc t)(c:Lim p cc k)(d:1<=k)(v:Nat):QB k (t.sol v):=by
 by_cases a:v∈t.basic
 ·obtain ⟨i,b,e⟩:=cY a;have f:t.bas i=v:=e;rw [<- f,sol_bas h.tab.ok b];exact h.con c b
 ·rw [sol_oth h.tab.ok a];exact qb_zero d
theorem Inv.dir (h:Inv p cc t)(f:Lim p cc k)(a:1<=k){s:Nat}(b:s<t.others.length)(v:Nat):QB k (t.dir s v):=by
 by_cases c:v∈t.basic
 ·obtain ⟨i,d,e⟩:=cY c;have g:t.bas i=v:=e;rw [<- g,dir_bas h.tab b d];exact h.fac f d b
 ·rw [dir_oth h.tab c];split
  ·exact Hj a
  ·exact qb_zero a
theorem Inv.dualQ (h:Inv p cc t)(a:Lim p cc k)(b:1<=k){i:Nat}(c:i<t.basic.length)(r:Nat):QB k (dualV p t (t.line i) r):=by
 rcases gE h.tab (t.line i) r with e | ⟨s,hs,_,d⟩
 ·rw [e];exact qb_zero b
 ·rw [d];exact h.fac a c hs
theorem Inv.dualW (h:Inv p cc t)(a:Lim p cc k)(b:1<=k)(r:Nat):QB k (dualV p t t.worth r):=by
 rcases gE h.tab t.worth r with e | ⟨s,hs,_,c⟩
 ·rw [e];exact qb_zero b
 ·rw [c];exact h.wfac a hs
theorem Inv.refQ (h:Inv p cc t)(b:Lim p cc k)(a:1<=k){i:Nat}(c:i<t.basic.length)(r:Nat):QB k (refV p t i r):=by
 unfold refV;split
 ·exact Hj a
 ·exact Hk (h.dualQ b a c r)
structure OptR (p:Sys)(cc:Nat->Rat)(k:Nat)(val:Rat)(pt du:Nat->Rat):Prop where
 row:∀ r,r<p.m->sumN (fun j=>p.a r j*pt j) p.n<=p.b r
 wor:sumN (fun j=>cc j*pt j) p.n=val
 pos:∀ r,0<=du r
 fac:∀ j,j<p.n->sumN (fun r=>du r*p.a r j) p.m=-cc j
 bnd:sumN (fun r=>du r*p.b r) p.m=-val
 qv:QB k val
 qp:∀ j,QB k (pt j)
 qd:∀ r,QB k (du r)
structure InfR (p:Sys)(k:Nat)(du:Nat->Rat):Prop where
 pos:∀ r,0<=du r
 fac:∀ j,j<p.n->sumN (fun r=>du r*p.a r j) p.m=0
 bnd:sumN (fun r=>du r*p.b r) p.m<0
 qd:∀ r,QB k (du r)
structure UnbR (p:Sys)(cc:Nat->Rat)(k:Nat)(pt ra:Nat->Rat):Prop where
 row:∀ r,r<p.m->sumN (fun j=>p.a r j*pt j) p.n<=p.b r
 ray:∀ r,r<p.m->sumN (fun j=>p.a r j*ra j) p.n<=0
 fall:sumN (fun j=>cc j*ra j) p.n<0
 qp:∀ j,QB k (pt j)
 qr:∀ j,QB k (ra j)
theorem Inv.opt (h:Inv p cc t)(a:Lim p cc k)(b:1<=k)(d:t.Feas p.n)(e:RelW p.n t)(f:∀ s,s<t.others.length->p.n<=t.oth s->0<=t.worth.g s):OptR p cc k t.worth.c t.sol (dualV p t t.worth):=by
 obtain ⟨h1,h2,h3,h4⟩:=Gu h.tab h.obj e f;exact ⟨fun r hr=>qD h.tab d r hr,by grind,h1,h3,by grind,h.wcon a,h.sol a b,h.dualW a b⟩
theorem Inv.inf (h:Inv p cc t)(b:Lim p cc k)(d:1<=k)(e:Rel p.n t p.n){i:Nat}(a:i<t.basic.length)(f:p.n<=t.bas i)(j:(t.line i).c<0)(l:∀ s,s<t.others.length->p.n<=t.oth s->(t.line i).g s<=0):InfR p k (refV p t i):=by
 obtain ⟨h1,h2,h3⟩:=J4 h.tab e a f l;exact ⟨h1,h3,by rw [h2];exact j,h.refQ b d a⟩
theorem Inv.unb (h:Inv p cc t)(a:Lim p cc k)(b:1<=k)(d:t.Feas p.n){s:Nat}(c:s<t.others.length){u:Rat}(e:u=1∨u=-1)(f:u*t.worth.g s<0)
  (l:∀ i,i<t.basic.length->p.n<=t.bas i->0<=u*(t.line i).g s) (m:p.n<=t.oth s->0<=u):UnbR p cc k t.sol fun j=>u*t.dir s j:=by
 obtain ⟨h1,h2⟩:=J5 h.tab h.obj c f l m;refine ⟨fun r hr=>qD h.tab d r hr,h1,h2,h.sol a b,fun j=>?_⟩;rcases e with rfl | rfl
 ·rw [Rat.one_mul];exact h.dir a b c j
 ·rw [show (-1:Rat)*t.dir s j=-t.dir s j from by grind];exact Hk (h.dir a b c j)
end
def openT (p:Sys)(cc:Nat->Rat):Tab :=
 ⟨(List.range p.m).map fun r=>p.n+r,(List.range p.m).map fun r=>⟨p.b r,(List.range p.n).map fun j=>-p.a r j⟩,List.range p.n,⟨0,(List.range p.n).map cc⟩⟩
section
variable {p:Sys} {cc:Nat->Rat}
theorem xJ {n j:Nat}(h:j<n):(List.range n).getD j 0=j:=by
 rw [ak,Mr h];rfl
theorem CP {r:Nat}(h:r<p.m):(openT p cc).bas r=p.n+r:=by
 show ((List.range p.m).map fun r=>p.n+r).getD r 0=_;rw [ak,LU,Mr h];rfl
theorem openT_line {r:Nat}(h:r<p.m):(openT p cc).line r=⟨p.b r,(List.range p.n).map fun j=>-p.a r j⟩:=by
 show ((List.range p.m).map _).getD r _=_;rw [ak,LU,Mr h];rfl
theorem openT_lb:(openT p cc).basic.length=p.m:=by show ((List.range p.m).map _).length=_;rw [ax,MJ]
theorem openT_lo:(openT p cc).others.length=p.n:=MJ
theorem openT_inv:Inv p cc (openT p cc):=by
 have f:∀ x,(openT p cc).Sol x ↔ p.Sol x:=by
  intro x;unfold Tab.Sol Sys.Sol;rw [openT_lb];refine forall_congr' fun r=>imp_congr_right fun hr=>?_;have e:lv ((openT p cc).line r) (openT p cc).others x=p.b r-sumN (fun j=>p.a r j*x j) p.n:=by
   rw [openT_line hr];unfold lv;rw [openT_lo];have:sumN (fun j=>(-1:Rat)*(p.a r j*x j)) p.n=sumN (fun j=>(⟨p.b r,(List.range p.n).map fun j=>-p.a r j⟩:Line).g j*x ((openT p cc).others.getD j 0)) p.n:=aK fun j c=>by
    show _=((List.range p.n).map fun j=>-p.a r j).getD j 0*x ((List.range p.n).getD j 0);rw [eg c,xJ c];grind
   rw [<- this,cE];show p.b r+_=_;grind
  rw [e,CP hr]
 refine ⟨⟨⟨?_, ?_, ?_, ?_, ?_⟩,openT_lb,openT_lo,f⟩,fun x _=>?_⟩
 ·show ((List.range p.m).map _).length=((List.range p.m).map _).length;rw [ax,ax]
 ·intro l i;obtain ⟨r,_,rfl⟩:=L4.1 i;show ((List.range p.n).map _).length=(List.range p.n).length;rw [ax]
 ·show ((List.range p.n).map _).length=(List.range p.n).length;rw [ax]
 ·refine Np.2 ⟨?_,List.nodup_range,fun a k b o=>?_⟩
  ·show ((List.range p.m).map fun r=>p.n+r).Nodup;rw [List.Nodup,List.pairwise_map];exact (List.nodup_range (n:=p.m)).imp fun h e=>h om_
  ·obtain ⟨r,_,rfl⟩:=L4.1 k;have:=Me.1 o;omega
 ·intro v d;rcases Mh.1 d with d | d
  ·obtain ⟨r,hr,rfl⟩:=L4.1 d;have:=Me.1 hr;omega
  ·have:=Me.1 d;omega
 ·show lv ⟨0,(List.range p.n).map cc⟩ (List.range p.n) x=_;unfold lv;rw [MJ];congr 1;refine aK fun j c=>?_;show ((List.range p.n).map cc).getD j 0*x ((List.range p.n).getD j 0)=_;rw [eg c,xJ c]
end
end Go.Jog.Lp
namespace Go.Jog
open Go
section
variable {P:Program} {f:FuncId} {args:List Value} {C:Mem} {L:List Ent}
theorem RB {b:Nat}{c:Obj}{post:Value->List Ent->Prop}(e:Enters P f=true)(h:∀ C',C.le C'->C' b=some c->Fn P f args C' L fun u _ a=>post u a) :
  Fn P f args C (.obj b c::L) fun u _ g=>∃ a,g=.obj b c::a/\post u a:=by
 refine ⟨e,fun w i=>?_⟩;have d:=St.start i;have j:C b=none:=d.sep.n b ⟨_,aF ..,rfl⟩;have k:=d.aside;refine ((h _ (Mem.le_set j) (Mem.set_self C b c)).2 w k.sep).mono fun ex w' ⟨v,C',a,l,m,o⟩=>?_;exact ⟨v,_,_,l,St.back d m,a,Z,o⟩
theorem Rz {a g e s m:Nat}{b:List (List Value)}{l:Value->List Ent->Prop}(o:Enters P f=true)(p:∀ r∈b,r.length=s)(q:b.length=m)
  (h:∀ C',C.le C'->Sl C' s (.slice (some ⟨a,0,none⟩) m g) b->Fn P f args C' L fun u _ d=>l u d) :
  Fn P f args C (.arr (.slice (some ⟨a,0,none⟩) m g) e s m b.flatten::L) fun u _ t=>∃ d,t=.arr (.slice (some ⟨a,0,none⟩) m g) e s m b.flatten::d/\l u d:=by
 subst q;refine ⟨o,fun w x=>?_⟩;obtain ⟨cs,h1,h2,h3,h4,k⟩:=(St.start x).arrObj;have y:C a=none:=k.sep.n a ⟨_,aF ..,rfl⟩;have z:=k.aside;have A:Sl (C.set a (.cells ⟨cs⟩ e (0,0))) s (.slice (some ⟨a,0,none⟩) b.length g) b :=
  Sl.ofBlock (c:=g) (Mem.set_self C a (.cells ⟨cs⟩ e (0,0))) p (fun j v i=>by
   rw [<- h2,Mz] at i;split at i
   ·simpa using i
   ·cases i) h3 h4
 refine ((h _ (Mem.le_set y) A).2 w z.sep).mono fun ex w' ⟨v,C',d,B,D,E⟩=>?_;exact ⟨v,_,_,B,(St.back k D).objArr h2 h1 h3 h4,d,Z,E⟩
theorem Qs {v:Value}{e s m:Nat}{a:List (List Value)}{post:Value->List Ent->Prop}(d:Enters P f=true)(i:∀ r∈a,r.length=s)(j:a.length=m)
  (h:∀ C',C.le C'->Sl C' s v a->Fn P f args C' L fun u _ b=>post u b) :
  Fn P f args C (.arr v e s m a.flatten::L) fun u _ k=>∃ b,k=.arr v e s m a.flatten::b/\post u b:=by
 refine ⟨d,fun w c=>?_⟩;have l:w.ownsRow 0 e s v m a.flatten:=c.e _ (aF ..);rcases l.2 with ⟨h1,h2⟩ | ⟨g,t,x,h1,_,_,h3,h4,_⟩
 ·have h0:a=[]:=MA om_;have n:=h C (Mem.le.refl C) (by rw [h1,h0];exact Sl.nil C s);have hs:=St.perm (St.start c) (Mm (l₁:=[Ent.arr v e s m a.flatten]) (l₂:=L));refine (n.callAt hs).mono fun ex w' ⟨u,C',b,o,_,p,q⟩=>?_;exact ⟨u,C',_,o,St.perm p (Mm (l₁:=b) (l₂:=[Ent.arr v e s m a.flatten])),b,Z,q⟩
 ·subst h1;exact (Rz (e:=e) d i j h).2 w c
end
inductive Lent where
 | obj (b:Nat) (cs:List Value) (t:TypeId)
 | arr (v:Value) (m s:Nat) (e:TypeId) (rows:List (List Value))
def Lent.ent:Lent->Ent
 | .obj b cs t=>.obj b (.cells ⟨cs⟩ t (0,0))
 | .arr v m s e rows=>.arr v e s m rows.flatten
def Lent.wf:Lent->Prop
 | .obj ..=>True
 | .arr _ m s _ rows=>rows.length=m/\∀ r∈rows,r.length=s
def Lent.seen (C:Mem):Lent->Prop
 | .obj b cs t=>C b=some (.cells ⟨cs⟩ t (0,0))
 | .arr v _ s _ rows=>Sl C s v rows
theorem Qr {P:Program}{f:FuncId}{args:List Value}{L:List Ent}{post:Value->List Ent->Prop}(i:Enters P f=true):∀ (ls:List Lent){C:Mem},(∀ x∈ls,x.wf) ->
  (∀ C',C.le C'->(∀ x∈ls,x.seen C')->Fn P f args C' L fun u _ a=>post u a)->Fn P f args C (ls.map Lent.ent++L) fun u _ d=>∃ a,d=ls.map Lent.ent++a/\post u a
 | [],C,_,h=>(h C (Mem.le.refl C) fun x c=>by cases c).mono fun v C' a _ g=>⟨a,rfl,g⟩
 | .obj b cs t::ls,C,j,h=>by
  refine (RB (post:=fun u d=>∃ a,d=ls.map Lent.ent++a/\post u a) i fun C1 h1 k=>?_).mono fun v C' a _ ⟨L1,l,n,o,g⟩=>⟨n,by rw [l,o];rfl,g⟩;refine Qr i ls (fun x c=>j x (LW _ c)) fun p h2 hs=>h p (h1.trans h2) fun x c=>?_;rcases Ma.1 c with rfl | c
  ·exact h2 _ _ k
  ·exact hs x c
 | .arr v m s e rows::ls,C,j,h=>by
  have q:=j _ aF;refine (Qs (e:=e) (post:=fun u d=>∃ a,d=ls.map Lent.ent++a/\post u a) i q.2 q.1 fun C1 h1 k=>?_).mono fun v C' a _ ⟨L1,l,n,o,g⟩=>⟨n,by rw [l,o];rfl,g⟩;refine Qr i ls (fun x c=>j x (LW _ c)) fun p h2 hs=>h p (h1.trans h2) fun x c=>?_;rcases Ma.1 c with rfl | c
  ·exact Sl.mono k h2
  ·exact hs x c
end Go.Jog
namespace Go.Proofs.YthnpijdjlddpmaaGreatDoor
open Tryz
open Go Go.Jog
set_option maxRecDepth 100000
variable {N b:Nat}{bf fs:List Rat}{i j:Nat}{k:Rat}{l:Lp.Line}{ls:List (Rat × Value)}{n:Nat}{p:Lp.Sys}{q r s:Nat}{t:Lp.Tab}{wB:Value}{wF:List Value}{wL wO wW:Value}
theorem K0:qtx 0=[48]:=by decide +kernel
theorem LH:aT 0=[Value.string ⟨#[48]⟩]:=by
 show [al (qtx 0)]=_;rw [K0];rfl
def zF (fs:List Rat)(s q:Nat):Rat:=if q=s then 0 else fs.getD q 0
def jC (fs bf:List Rat)(s:Nat)(k:Rat)(j:Nat):List Rat:=(List.range fs.length).map fun q=>zF fs s q+(if q<j then k*bf.getD q 0 else 0)
theorem gj :(jC fs bf s k j).length=fs.length:=by simp [jC]
theorem tV :fs.set s 0=jC fs bf s k 0:=by
 refine List.ext_getElem? fun q=>?_;unfold jC;rw [List.getElem?_set,LU];by_cases a:q<fs.length
 ·rw [Mr a];simp only [Nt,Nat.not_lt_zero,MW];unfold zF;split
  ·next e=>rw [aI om_,aI e.symm];rw [Rat.add_zero]
  ·next e=>rw [aC (fun b=>e b.symm),ak,aj a];simp only [M9];congr 1;grind
 ·rw [LX om_,LX (by simp;omega)];split
  ·split
   ·omega
   ·rfl
  ·rfl
theorem rH (h:q<fs.length):(jC fs bf s k j)[q]?=some (zF fs s q+(if q<j then k*bf.getD q 0 else 0)):=by
 unfold jC;rw [LU,Mr h];rfl
theorem xL (h:j<fs.length):(jC fs bf s k j).set j (zF fs s j+k*bf.getD j 0)=jC fs bf s k (j+1):=by
 refine List.ext_getElem? fun q=>?_;rw [List.getElem?_set,gj];by_cases a:q<fs.length
 ·rw [rH a,rH a];by_cases e:j=q
  ·subst e;rw [aI rfl,aI a,aI om_]
  ·rw [aC e];by_cases h1:q<j
   ·rw [aI h1,aI om_]
   ·rw [aC h1,aC om_]
 ·rw [LX (by rw [gj];omega),LX (by rw [gj];omega)];split
  ·exact absurd om_ a
  ·rfl
theorem tX (a:bf.getD j 0=0):jC fs bf s k j=jC fs bf s k (j+1):=by
 refine List.map_congr_left fun q _=>?_;by_cases e:q=j
 ·subst e;rw [aC om_,aI om_,a];grind
 ·by_cases h1:q<j
  ·rw [aI h1,aI om_]
  ·rw [aC h1,aC om_]
theorem tW :jC fs bf s 0 j=jC fs bf s 0 0:=by
 refine List.map_congr_left fun q _=>?_;split <;> split <;> grind
theorem Ck {c bc:Rat}(_b:s<fs.length):Lp.putL ⟨c,fs⟩ s ⟨bc,bf⟩=⟨c+fs.getD s 0*bc,jC fs bf s (fs.getD s 0) fs.length⟩:=by
 unfold Lp.putL;congr 1;refine List.map_congr_left fun q a=>?_;rw [aI (Me.1 a)];rfl
theorem JH (a:∀ x∈fs,QB 40 x)(b:q<fs.length):QB 40 (zF fs s q):=by
 unfold zF;split
 ·exact ⟨by decide,by decide⟩
 ·rw [ak,aj b];exact a _ (MP _)
def bl (p:Rat × Value):List Value:=[al (qtx p.1),p.2]
theorem fU:∀ p,(bl p).length=2:=fun _=>rfl
theorem mm {p:Rat × Value}(h:ls[i]?=some p):(ls.map bl).flatten.drop (i*2)=al (qtx p.1)::p.2::(ls.map bl).flatten.drop (i*2+2):=by
 obtain ⟨h1,h2⟩:=aX.1 h;have e:=(ci fU ls i).2;have a:=(ci fU ls (i+1)).2;rw [Nx] at a;rw [e,a,MB h1,h2];rfl
theorem Fl {p:Rat × Value}(h:ls[i]?=some p):ls.set i p=ls:=by
 refine List.ext_getElem? fun j=>?_;rw [List.getElem?_set];split
 ·next e=>subst e;rw [aI (aX.1 h).1,h]
 ·rfl
theorem zK {p:Rat × Value}(h:ls[i]?=some p):((ls.map bl).flatten.drop (i*2)).take 1=[al (qtx p.1)]:=by rw [mm h];rfl
theorem iU {p:Rat × Value}(h:ls[i]?=some p):((ls.map bl).flatten.drop (i*2+1)).take 1=[p.2]:=by rw [<- List.drop_drop,mm h];rfl
theorem vM {p:Rat × Value}(h:ls[i]?=some p)(c:Rat):aA (ls.map bl).flatten [al (qtx c)] (i*2)=((ls.set i (c,p.2)).map bl).flatten:=by
 rw [<- bK fU (c,p.2) (aX.1 h).1];unfold aA;have:(ls.map bl).flatten.drop (i*2+1)=p.2::(ls.map bl).flatten.drop (i*2+2):=by rw [<- List.drop_drop,mm h];rfl
 show _++[_]++List.drop (i*2+1) _=_++[_,_]++List.drop (i*2+2) _;rw [this];simp
theorem Il (C:Mem)(t:Tabs C)(g e f n s:Nat)(i l o p z:Value)(b d:List Rat)(c h:Rat)(ae:b.length=n)(af:d.length=n)(hs:s<n)(q:Sl C 1 z (d.map aT))(Q:QB 40 c)(A:∀ x∈b,QB 40 x)(B:QB 40 h)(S:∀ x∈d,QB 40 x) :
  Jog.Fn cx.P 237 [.pointer (some ⟨g,4,none⟩),.int .i64 s,.agg ⟨[al (qtx h),z]⟩] C [.obj g (.cells ⟨[i,l,o,p,al (qtx c),.slice (some ⟨e,0,none⟩) n f]⟩ 212 (0,0)),.arr (.slice (some ⟨e,0,none⟩) n f) 56 1 n (b.map aT).flatten]
   fun u _ r=>u=.tuple #[]/\r=[.obj g (.cells ⟨[i,l,o,p,al (qtx (c+b.getD s 0*h)),.slice (some ⟨e,0,none⟩) n f]⟩ 212 (0,0)),.arr (.slice (some ⟨e,0,none⟩) n f) 56 1 n ((jC b d s (b.getD s 0) n).map aT).flatten]:=by
 obtain ⟨T,U,rfl,V,ag,_⟩:=id q;simp only [ax] at V q ⊢;have D:s<b.length:=by omega
 have ah:maxLen<=9223372036854775807:=by simp [maxLen]
 obtain ⟨k,E⟩:∃ k,b.getD s 0=k:=⟨_,rfl⟩;have F:b[s]?=some k:=by rw [<- E,ak,aj D];rfl
 have v:QB 40 k:=A k (LQ F);rw [E];refine Ph func237 64 U3 fun w0=>?_;refine Po (L':=[.obj g (.cells ⟨[i,l,o,p,al (qtx c),.slice (some ⟨e,0,none⟩) n f]⟩ 212 (0,0)),.arr (.slice (some ⟨e,0,none⟩) n f) 56 1 n (b.map aT).flatten]) Z ?_;refine Pb fun R a=>?_;refine Pr U6 (fun b5=>?_);refine Pd [0,1,5] a Z ?_;clear a R;refine G.freeze 0 Z (fun _ _ H=>?_);refine O7 3 Z fun R a=>?_;refine Pe (.head _) U9 ?_;refine Pa U6 ?_;refine PG (s*1) U10 (fun _=>⟨by omega,by omega,Z⟩) U2 ?_;refine PT (.tail _ (.head _)) U6 (fun _=>(by rw [ec bG F];rfl)) U2 ?_;refine C4 1 [0,1,5,6] a Z ?_;clear a R;refine O7 3 Z fun R a=>?_;refine Pe (.head _) U9 ?_;refine Pa U6 ?_;refine PG (s*1) U10 (fun _=>⟨by omega,by omega,Z⟩) U2 ?_;refine PJ (j:=1) U11 (by show s*1+1<=_;rw [bS bG];omega) ?_;refine Pd [0,5,6] a Z ?_;clear a R;refine G.perm (L':=[.obj g (.cells ⟨[i,l,o,p,al (qtx c),.slice (some ⟨e,0,none⟩) n f]⟩ 212 (0,0)),.arr (.slice (some ⟨e,0,none⟩) n f) 56 1 n ((jC b d s k 0).map aT).flatten]) (by rw [<- tV,<- bK bG 0 D,LH];exact List.Perm.swap _ _ _) ?_;refine C6 2 [0,5,6,23] Z ?_;refine O9 (fun I=>?_) fun I=>?_
 ·have W:qtx k=[48]:=by simpa using I
  have X:k=0:=lH (W.trans (by decide +kernel:([48]:List UInt8)=qtx 0));subst X;have Y:c+0*h=c:=by grind
  refine Po (L':=[.obj g (.cells ⟨[i,l,o,p,al (qtx (c+0*h)),.slice (some ⟨e,0,none⟩) n f]⟩ 212 (0,0)),.arr (.slice (some ⟨e,0,none⟩) n f) 56 1 n ((jC b d s 0 n).map aT).flatten]) (by rw [Y,tW (j:=n)]) ?_;refine Pl (QC Z  ?_);exact ⟨Z,Z⟩
 ·refine Pv [0,1,2,3,4,5,6,7,8,9,10,11,12] [(8,1),(9,1)] Z kr_ (fun R q a=>?_);refine Pc 4 Z ?_;refine Pe (.head _) U9 ?_;refine Pc 2 Z ?_;refine O8 (bkT H 1) U8 ?_;refine Pw (fun _=>(dm _ t.m_ k h 40 dc_ dc_ v B)) U9 ?_;refine Pw (fun _=>(kX _ t.m_ c (k*h) 80 dc_ dc_ (Q.le dc_) ((rP v B).le dc_))) U9 ?_;refine Pc 2 Z ?_;refine Pg (j:=0) U12 ?_;refine Pd [0,5,6] a Z ?_;clear a q R;refine O7 1 Z fun R a=>?_;refine O8 (bkT H 1) U8 ?_;refine C4 2 [0,6,37,38,39] a Z ?_;clear a R;refine G.loop (fun fr C' r μ=>∃ (j:Nat),(j<=n)/\fr=[(0,[],.pointer (some ⟨g,4,none⟩)),(6,[],al (qtx k)),(37,[],.slice T d.length U),(38,[],.int .i64 d.length),(39,[],.int .i64 j)]/\r=[.obj g (.cells ⟨[i,l,o,p,al (qtx (c+k*h)),.slice (some ⟨e,0,none⟩) n f]⟩ 212 (0,0)),.arr (.slice (some ⟨e,0,none⟩) n f) 56 1 n ((jC b d s k j).map aT).flatten]/\μ=n-j) (hn_ [0,6,37,38,39] Z) ⟨0,LV _,Z,Z,Z⟩ (fun fr ai am m J hI=>?_);obtain ⟨j,hj,rfl,rfl,rfl⟩:=hI;refine C6 1 [0,6,37,38,39,40] Z ?_;refine O9 (fun w=>?_) fun w=>?_
  ·have K:j<n:=by
    have:=K5 w;omega
   obtain ⟨x,y⟩:∃ x,d[j]?=some x:=⟨d[j]'om_,aj om_⟩;have L:QB 40 x:=S x (LQ y);have M:d.getD j 0=x:=by rw [ak,y];rfl
   have aa:(jC b d s k j)[j]?=some (zF b s j):=by
    rw [rH om_,aC (Nat.lt_irrefl _)];congr 1;grind
   have qz:=JH (s:=s) A (show j<b.length by omega);have N:=xL (bf:=d) (s:=s) (k:=k) (show j<b.length by omega);rw [M] at N;refine O7 1 Z fun R a=>?_;refine Pm q.m_ U10 om_ (fD y) fl_ (fun an ab=>?_);refine O8 ab U8 ?_;refine C4 2 [0,6,7,8,37,38,39] a Z ?_;clear a R;refine C6 2 [0,6,7,8,37,38,39,45] Z ?_;refine O9 (fun O=>?_) fun O=>?_
   ·refine Pv [0,1,2,3,4,5,6,7,8,9,10,11,12,13,14,15,16,17] [(14,1),(15,1)] Z kr_ (fun R q a=>?_);refine Pc 3 Z ?_;refine Pe (.head _) U9 ?_;refine Pc 4 Z ?_;refine Pe (.head _) U9 ?_;refine Pa U6 ?_;refine PG (j*1) U10 (fun _=>⟨by omega,by omega,Z⟩) U2 ?_;refine PT (.tail _ (.head _)) U6 (fun _=>(by rw [ec bG aa];rfl)) U2 ?_;refine Pc 2 Z ?_;refine Pw (fun _=>(dm _ t.m_ k x 40 dc_ dc_ v L)) U9 ?_;refine Pw (fun _=>(kX _ t.m_ (zF b s j) (k*x) 80 dc_ dc_ (qz.le dc_) ((rP v L).le dc_))) U9 ?_;refine PG (j*1) U10 (fun _=>⟨by omega,by omega,Z⟩) U2 ?_;refine PJ (j:=1) U11 (by show j*1+1<=_;rw [bS bG,gj];omega) ?_;refine Pd [0,6,37,38,39] a Z ?_;clear a q R;refine Pb fun R a=>?_;refine Pi _ U7 ?_;refine C4 1 [0,6,37,38,39] a Z ?_;clear a R;refine G.perm (L':=[.obj g (.cells ⟨[i,l,o,p,al (qtx (c+k*h)),.slice (some ⟨e,0,none⟩) n f]⟩ 212 (0,0)),.arr (.slice (some ⟨e,0,none⟩) n f) 56 1 n ((jC b d s k (j+1)).map aT).flatten]) (by rw [<- N,<- bK bG _ (by rw [gj];omega)];exact List.Perm.swap _ _ _) ?_;refine Pk (m':=n-(j+1)) om_ J (hn_ [0,6,37,38,39] Z) ⟨j+1,om_,Z,Z,Z⟩
   ·have ac:x=0:=by
     have ad:qtx x=[48]:=by simpa using O
     exact lH (ad.trans (by decide +kernel:([48]:List UInt8)=qtx 0))
    rw [tX (j:=j) (by rw [M];exact ac)];refine Pb fun R a=>?_;refine Pi _ U7 ?_;refine C4 1 [0,6,37,38,39] a Z ?_;clear a R;refine Pk (m':=n-(j+1)) om_ J (hn_ [0,6,37,38,39] Z) ⟨j+1,om_,Z,Z,Z⟩
  ·have K:j=n:=by
    have:=LS w;omega
   rw [K];refine P9 Z ?_;exact ⟨Z,Z⟩
theorem Im (C:Mem)(t:Tabs C)(l m o i e f n s:Nat)(z:Value)(h:List (Rat × Value))(b d:List Rat)(c g:Rat)(af:h.length=m)(q:h[i]?=some (c,.slice (some ⟨e,0,none⟩) n f))(ag:b.length=n)(ah:d.length=n)(hs:s<n)(r:Sl C 1 z (d.map aT))(S:QB 40 c)(A:∀ x∈b,QB 40 x)(B:QB 40 g)(T:∀ x∈d,QB 40 x) :
  Jog.Fn cx.P 237 [.pointer (some ⟨l,i*2,none⟩),.int .i64 s,.agg ⟨[al (qtx g),z]⟩] C [.arr (.slice (some ⟨l,0,none⟩) m o) 209 2 m (h.map bl).flatten,.arr (.slice (some ⟨e,0,none⟩) n f) 56 1 n (b.map aT).flatten]
   fun u _ p=>u=.tuple #[]/\p=[.arr (.slice (some ⟨l,0,none⟩) m o) 209 2 m ((h.set i (c+b.getD s 0*g,.slice (some ⟨e,0,none⟩) n f)).map bl).flatten,.arr (.slice (some ⟨e,0,none⟩) n f) 56 1 n ((jC b d s (b.getD s 0) n).map aT).flatten]:=by
 obtain ⟨U,V,rfl,W,ai,_⟩:=id r;simp only [ax] at W r ⊢;have D:s<b.length:=by omega
 have am:maxLen<=9223372036854775807:=by simp [maxLen]
 obtain ⟨k,E⟩:∃ k,b.getD s 0=k:=⟨_,rfl⟩;have F:b[s]?=some k:=by rw [<- E,ak,aj D];rfl
 have v:QB 40 k:=A k (LQ F);rw [E];refine Ph func237 64 U3 fun w0=>?_;refine Po (L':=[.arr (.slice (some ⟨l,0,none⟩) m o) 209 2 m (h.map bl).flatten,.arr (.slice (some ⟨e,0,none⟩) n f) 56 1 n (b.map aT).flatten]) Z ?_;refine Pb fun R a=>?_;refine Pr U6 (fun b5=>?_);refine Pd [0,1,5] a Z ?_;clear a R;refine G.freeze 0 Z (fun _ _ H=>?_);refine O7 3 Z fun R a=>?_;refine PT (.head _) U6 (fun _=>(by rw [iU q];rfl)) U2 ?_;refine Pa U6 ?_;refine PG (s*1) U10 (fun _=>⟨by omega,by omega,Z⟩) U2 ?_;refine PT (.tail _ (.head _)) U6 (fun _=>(by rw [ec bG F];rfl)) U2 ?_;refine C4 1 [0,1,5,6] a Z ?_;clear a R;refine O7 3 Z fun R a=>?_;refine PT (.head _) U6 (fun _=>(by rw [iU q];rfl)) U2 ?_;refine Pa U6 ?_;refine PG (s*1) U10 (fun _=>⟨by omega,by omega,Z⟩) U2 ?_;refine PJ (j:=1) U11 (by show s*1+1<=_;rw [bS bG];omega) ?_;refine Pd [0,5,6] a Z ?_;clear a R;refine G.perm (L':=[.arr (.slice (some ⟨l,0,none⟩) m o) 209 2 m (h.map bl).flatten,.arr (.slice (some ⟨e,0,none⟩) n f) 56 1 n ((jC b d s k 0).map aT).flatten]) (by rw [<- tV,<- bK bG 0 D,LH];exact List.Perm.swap _ _ _) ?_;refine C6 2 [0,5,6,23] Z ?_;refine O9 (fun I=>?_) fun I=>?_
 ·have X:qtx k=[48]:=by simpa using I
  have Y:k=0:=lH (X.trans (by decide +kernel:([48]:List UInt8)=qtx 0));subst Y;have aa:c+0*g=c:=by grind
  refine Po (L':=[.arr (.slice (some ⟨l,0,none⟩) m o) 209 2 m ((h.set i (c+0*g,.slice (some ⟨e,0,none⟩) n f)).map bl).flatten,.arr (.slice (some ⟨e,0,none⟩) n f) 56 1 n ((jC b d s 0 n).map aT).flatten]) (by rw [aa,tW (j:=n),Fl q]) ?_;refine Pl (QC Z  ?_);exact ⟨Z,Z⟩
 ·refine Pv [0,1,2,3,4,5,6,7,8,9,10,11,12] [(8,1),(9,1)] Z kr_ (fun R r a=>?_);refine Pc 4 Z ?_;refine PT (.head _) U6 (fun _=>(by rw [zK q];rfl)) U2 ?_;refine Pc 2 Z ?_;refine O8 (bkT H 1) U8 ?_;refine Pw (fun _=>(dm _ t.m_ k g 40 dc_ dc_ v B)) U9 ?_;refine Pw (fun _=>(kX _ t.m_ c (k*g) 80 dc_ dc_ (S.le dc_) ((rP v B).le dc_))) U9 ?_;refine Pc 2 Z ?_;refine PJ (j:=0) U11 (by show i*2+1<=_;rw [bS fU];have:=(aX.1 q).1;omega) ?_;refine Pd [0,5,6] a Z ?_;clear a r R;refine Po (L':=[.arr (.slice (some ⟨l,0,none⟩) m o) 209 2 m ((h.set i (c+k*g,.slice (some ⟨e,0,none⟩) n f)).map bl).flatten,.arr (.slice (some ⟨e,0,none⟩) n f) 56 1 n ((jC b d s k 0).map aT).flatten]) (by rw [<- vM q];rfl) ?_;have J:(h.set i (c+k*g,Value.slice (some ⟨e,0,none⟩) n f))[i]?=some (c+k*g,Value.slice (some ⟨e,0,none⟩) n f):=List.getElem?_set_self (aX.1 q).1;refine O7 1 Z fun R a=>?_;refine O8 (bkT H 1) U8 ?_;refine C4 2 [0,6,37,38,39] a Z ?_;clear a R;refine G.loop (fun fr C' p μ=>∃ (j:Nat),(j<=n)/\fr=[(0,[],.pointer (some ⟨l,i*2,none⟩)),(6,[],al (qtx k)),(37,[],.slice U d.length V),(38,[],.int .i64 d.length),(39,[],.int .i64 j)]/\p=[.arr (.slice (some ⟨l,0,none⟩) m o) 209 2 m ((h.set i (c+k*g,.slice (some ⟨e,0,none⟩) n f)).map bl).flatten,.arr (.slice (some ⟨e,0,none⟩) n f) 56 1 n ((jC b d s k j).map aT).flatten]/\μ=n-j) (hn_ [0,6,37,38,39] Z) ⟨0,LV _,Z,Z,Z⟩ (fun fr an ao m K hI=>?_);obtain ⟨j,hj,rfl,rfl,rfl⟩:=hI;refine C6 1 [0,6,37,38,39,40] Z ?_;refine O9 (fun w=>?_) fun w=>?_
  ·have L:j<n:=by
    have:=K5 w;omega
   obtain ⟨x,y⟩:∃ x,d[j]?=some x:=⟨d[j]'om_,aj om_⟩;have M:QB 40 x:=T x (LQ y);have N:d.getD j 0=x:=by rw [ak,y];rfl
   have ab:(jC b d s k j)[j]?=some (zF b s j):=by
    rw [rH om_,aC (Nat.lt_irrefl _)];congr 1;grind
   have qz:=JH (s:=s) A (show j<b.length by omega);have O:=xL (bf:=d) (s:=s) (k:=k) (show j<b.length by omega);rw [N] at O;refine O7 1 Z fun R a=>?_;refine Pm r.m_ U10 om_ (fD y) fl_ (fun ap ac=>?_);refine O8 ac U8 ?_;refine C4 2 [0,6,7,8,37,38,39] a Z ?_;clear a R;refine C6 2 [0,6,7,8,37,38,39,45] Z ?_;refine O9 (fun Q=>?_) fun Q=>?_
   ·refine Pv [0,1,2,3,4,5,6,7,8,9,10,11,12,13,14,15,16,17] [(14,1),(15,1)] Z kr_ (fun R r a=>?_);refine Pc 3 Z ?_;refine PT (.head _) U6 (fun _=>(by rw [iU J];rfl)) U2 ?_;refine Pc 4 Z ?_;refine PT (.head _) U6 (fun _=>(by rw [iU J];rfl)) U2 ?_;refine Pa U6 ?_;refine PG (j*1) U10 (fun _=>⟨by omega,by omega,Z⟩) U2 ?_;refine PT (.tail _ (.head _)) U6 (fun _=>(by rw [ec bG ab];rfl)) U2 ?_;refine Pc 2 Z ?_;refine Pw (fun _=>(dm _ t.m_ k x 40 dc_ dc_ v M)) U9 ?_;refine Pw (fun _=>(kX _ t.m_ (zF b s j) (k*x) 80 dc_ dc_ (qz.le dc_) ((rP v M).le dc_))) U9 ?_;refine PG (j*1) U10 (fun _=>⟨by omega,by omega,Z⟩) U2 ?_;refine PJ (j:=1) U11 (by show j*1+1<=_;rw [bS bG,gj];omega) ?_;refine Pd [0,6,37,38,39] a Z ?_;clear a r R;refine Pb fun R a=>?_;refine Pi _ U7 ?_;refine C4 1 [0,6,37,38,39] a Z ?_;clear a R;refine G.perm (L':=[.arr (.slice (some ⟨l,0,none⟩) m o) 209 2 m ((h.set i (c+k*g,.slice (some ⟨e,0,none⟩) n f)).map bl).flatten,.arr (.slice (some ⟨e,0,none⟩) n f) 56 1 n ((jC b d s k (j+1)).map aT).flatten]) (by rw [<- O,<- bK bG _ (by rw [gj];omega)];exact List.Perm.swap _ _ _) ?_;refine Pk (m':=n-(j+1)) om_ K (hn_ [0,6,37,38,39] Z) ⟨j+1,om_,Z,Z,Z⟩
   ·have ad:x=0:=by
     have ae:qtx x=[48]:=by simpa using Q
     exact lH (ae.trans (by decide +kernel:([48]:List UInt8)=qtx 0))
    rw [tX (j:=j) (by rw [N];exact ad)];refine Pb fun R a=>?_;refine Pi _ U7 ?_;refine C4 1 [0,6,37,38,39] a Z ?_;clear a R;refine Pk (m':=n-(j+1)) om_ K (hn_ [0,6,37,38,39] Z) ⟨j+1,om_,Z,Z,Z⟩
  ·have L:j=n:=by
    have:=LS w;omega
   rw [L];refine P9 Z ?_;exact ⟨Z,Z⟩
open Classical in
theorem rS {l:List Nat}{x:Nat}(h:l[i]?=some x):(l.map aU)[i]?=some (aU x):=by rw [LU,h];rfl
theorem uq {l:List Nat}{q:Nat->Prop}{o:Int}(h:Lp.LeastR l q n o):o=-1∨∃ i:Nat,o=i/\i<n:=by
 cases h with
 | none _=>exact .inl rfl
 | some i a _ _=>exact .inr ⟨i,rfl,a⟩
theorem mq (C:Mem)(v:Value)(l:List Nat)(g:Nat)(f:List Value)(q:Nat->Bool)(d:Sl C 1 v (l.map aU))(_O:Jog.Enters cx.P g=true)
  (E:∀ i,i<l.length->∀ D:Mem,C.le D->Gives cx.P g (.int .i64 i::f) D (.bool (q i))) :
  Pur cx.P 180 [v,.func (.func g) #[] ⟨f⟩] C fun u _=>∃ o:Int,u=.int .i64 o/\Lp.LeastR l (fun i=>q i=true) l.length o:=by
 obtain ⟨s,c0,rfl,F,Q,_⟩:=id d;have S:maxLen<=9223372036854775807:=by simp [maxLen]
 simp only [ax] at d F ⊢;refine Ph func180 33 U3 fun w0=>C6 1 [0,1] Z<|C6 1 [0,1,5] Z<|C6 3 [0,1,5,8,9,10] Z<|G.loop (fun fr C' H I=>∃ (i:Nat)(o:Int),(i<=l.length/\Lp.LeastR l (fun i=>q i=true) i o)/\fr=[(0,[],.slice s l.length c0),(1,[],.func (.func g) #[] ⟨f⟩),(5,[],.int .i64 o),(8,[],.slice s l.length c0),(9,[],.int .i64 l.length),(10,[],.int .i64 i)]/\H=[]/\I=l.length-i) (hn_ [0,1,5,8,9,10] Z) ⟨0, -1,⟨LV _,.none fun j J=>absurd J (Nat.not_lt_zero _)⟩,Z,Z,Z⟩ (fun fr T U m t K=>?_);obtain ⟨i,o,⟨V,a⟩,rfl,rfl,rfl⟩:=K;refine C6 1 [0,1,5,8,9,10,11] Z<|O9 (fun k=>?_) fun k=>?_
 ·have e:i<l.length:=by
   have:=K5 k;omega
  obtain ⟨x,w⟩:∃ x,l[i]?=some x:=⟨l[i],aj e⟩;have y:l.getD i 0=x:=by rw [ak,w];rfl
  have n:=uq a;have L:¬ o<0->(l.map aU)[o.toNat]?=some (aU (l.getD o.toNat 0)):=fun h=>by
   rcases n with h1 | ⟨z,h1,h2⟩
   ·omega
   ·rw [h1,NO];exact rS (by rw [ak,aj om_];rfl)
  refine O7 1 Z fun R b=>Pm d.m_ U10 om_ (rS w) fl_ fun W M=>O8 M U8<|C4 2 [0,1,5,6,7,8,9,10] b Z<|O7 2 Z fun R b=>Pn (E i e _ mup) U7<|Pc 7 Z<|D.index U10 (fun A=>⟨d.mono mup,(by have h:decide (o<0)=false:=A.1;have:=LS h;omega),L (by have h:decide (o<0)=false:=A.1;exact LS h)⟩) fl_ Z fun X N=>PC U6 N U3<|Pa U6<|PD U8<|Pz U8<|Pd [0,1,5,6,8,9,10,29] b Z<|O9 (fun p=>?_) fun p=>?_
  ·have c:q i=true/\(o<0∨x<l.getD o.toNat 0):=by
    simpa using p
   have r:Lp.LeastR l (fun i=>q i=true) (i+1) i:=by
    rcases n with h1 | ⟨z,h1,h2⟩
    ·rw [h1] at a;exact a.first c.1
    ·rw [h1] at a c;refine a.less c.1 ?_;rw [y];rcases c.2 with h3 | h3
     ·omega
     ·exact h3
   refine C6 2 [0,1,5,8,9,10] Z<|Pb fun R b=>Pi _ U7<|C4 1 [0,1,5,8,9,10] b Z<|Pk (m':=l.length-(i+1)) om_ t (hn_ [0,1,5,8,9,10] Z) ⟨i+1,_,⟨by omega,r⟩,Z,Z,Z⟩
  ·have c:q i=true->¬ (o<0∨x<l.getD o.toNat 0):=by
    simpa using p
   have r:Lp.LeastR l (fun i=>q i=true) (i+1) o:=by
    by_cases B:q i=true
    ·have h3:=c B;rcases n with h1 | ⟨z,h1,h2⟩
     ·exact absurd (.inl om_) h3
     ·rw [h1] at a h3 ⊢;refine a.keep ?_;rw [y];exact fun h=>h3 (.inr h)
    ·exact a.no B
   refine Pb fun R b=>Pi _ U7<|C4 1 [0,1,5,8,9,10] b Z<|Pk (m':=l.length-(i+1)) om_ t (hn_ [0,1,5,8,9,10] Z) ⟨i+1,_,⟨by omega,r⟩,Z,Z,Z⟩
 ·have e:i=l.length:=by
   have:=LS k;omega
  exact C6 2 [4] Z<|Pf U2<|⟨Z,o,Z,by rw [<- e];exact a⟩
structure TabV (D:Mem)(b n:Nat)(t:Lp.Tab)(wB wL wO wW:Value)(wF:List Value):Prop where
 o:D b=some (.cells ⟨[.int .i64 n,wB,wL,wO,al (qtx t.worth.c),wW]⟩ 212 (0,0))
 B:Sl D 1 wB (t.basic.map aU)
 O:Sl D 1 wO (t.others.map aU)
 W:Sl D 1 wW (t.worth.f.map aT)
 L:Sl D 2 wL (List.zipWith (fun (l:Lp.Line) w=>[al (qtx l.c),w]) t.lines wF)
 fl:wF.length=t.lines.length
 F:∀ (i:Nat)(l:Lp.Line)(w:Value),t.lines[i]?=some l->wF[i]?=some w->Sl D 1 w (l.f.map aT)
theorem TabV.mono {D E:Mem}{b n:Nat}{t:Lp.Tab}{c d e f:Value}{g:List Value}(h:TabV D b n t c d e f g)(a:D.le E):TabV E b n t c d e f g :=
 ⟨a _ _ h.o,h.B.mono a,h.O.mono a,h.W.mono a,h.L.mono a,h.fl,fun i l w h1 h2=>(h.F i l w h1 h2).mono a⟩
theorem TabV.m_ {D E:Mem}(h:TabV D b n t wB wL wO wW wF)(a:D.le E:=by exact mup):TabV E b n t wB wL wO wW wF:=TabV.mono h a
theorem eI (C:Mem)(b n v:Nat)(t:Lp.Tab)(a c d e:Value)(f:List Value)(h:TabV C b n t a c d e f) :
  Gives cx.P 177 [.pointer (some ⟨b,0,none⟩),.int .i64 v] C (.bool (decide (n<=v))):=by
 refine Ph func177 11 U3 fun w0=>C6 1 [0,1] Z<|O7 4 Z fun R g=>O8 (PtrTo.blockT (h.m_.o) _ 1) U8<|C4 2 [4] g Z<|Pf U2<|⟨?_,Z⟩;congr 1;rw [MH];omega
theorem eE {l:List Nat}(h:i<l.length):(l.map aU)[i]?=some (aU (l.getD i 0)):=rS (by rw [ak,aj h];rfl)
theorem de {l:List Rat}(h:i<l.length):(l.map aT)[i]?=some (aT (l.getD i 0)):=fD (by rw [ak,aj h];rfl)
theorem iT {ls:List Lp.Line}{ws:List Value}(h:i<ls.length)(a:ws.length=ls.length):(List.zipWith (fun (l:Lp.Line) w=>[al (qtx l.c),w]) ls ws)[i]?=some [al (qtx (ls.getD i ⟨0,[]⟩).c),ws.getD i (.slice none 0 0)]:=by
 rw [List.getElem?_zipWith,aj h,aj (show i<ws.length by omega),ak,ak,aj h,aj (show i<ws.length by omega)];rfl
theorem Gr (C:Mem)(a b n i N:Nat)(t:Lp.Tab)(j k e f:Value)(g:List Value)(h:TabV C b n t j k e f g)(l:t.Ok N)(d:C a=some (.cells ⟨[.pointer (some ⟨b,0,none⟩)]⟩ 202 (0,0)))(m:i<t.basic.length)(p:QB 40 (t.line i).c) :
  Gives cx.P 181 [.int .i64 i,.pointer (some ⟨a,0,none⟩)] C (.bool (decide (n<=t.bas i) && decide ((t.line i).c<0))):=by
 obtain ⟨v,w,rfl,x,y,_⟩:=id h.B;obtain ⟨A2,c2,rfl,z,A,_⟩:=id h.L;have E:maxLen<=9223372036854775807:=by simp [maxLen]
 have F:=l.ll;exact Ph func181 25 U3 fun w0=>C6 1 [0,1] Z<|Pv [0,1,2,3,4,5,6,7,8,9,10,11,12,13,14,15,16,17,18,19,20,21] [(8,1)] Z kr_ fun R G q=>O8 (bkT d 1) U8<|O8 (bkT d 1) U8<|Pc 2 Z<|O8 (PtrTo.blockT (h.m_.o) _ 1) U8<|Pa U6<|Pm h.B.m_ U10 om_ (eE m) fl_ fun H r=>O8 r U8<|PH (fun _=>(eI _ b n (t.bas i) t _ _ e f g h.m_)) U9<|Pa U6<|PC U6 (fun _=>PtrTo.blockT (Mem.get d mup) _ 1) U3<|Pc 2 Z<|PC U6 (fun _=>PtrTo.blockT (h.m_.o) _ 1) U3<|Pa U6<|D.index U10 (fun I=>⟨h.L.mono mup,by omega,iT om_ h.fl⟩) fl_ Z fun J s=>Qw Z Z Z Z Z Z Z Z Z Z s fl_ Z fun K u=>PC U6 u U3<|Pw (fun _=>(fu _ (t.line i).c (Md (bE p dc_) dc_))) U9<|Pa U6<|Pz U8<|C4 1 [3] q Z<|Pf U2<|⟨by rw [rK],Z⟩
theorem rJ (q:Rat):decide (0<dX q.num)=decide (0<q):=by
 have h:0<q.num ↔ 0<q:=by rw [Rat.lt_iff];simp
 rw [MH];unfold dX;by_cases h1:q.num<0
 ·rw [aI h1];exact ⟨fun h2=>absurd h2 dc_,fun h2=>absurd (h.2 h2) om_⟩
 ·rw [aC h1];by_cases h2:q.num=0
  ·rw [aI h2];exact ⟨fun h3=>absurd h3 dc_,fun h3=>absurd (h.2 h3) om_⟩
  ·rw [aC h2];exact ⟨fun _=>h.1 om_,fun _=>by decide⟩
theorem kl {C:Mem}(h:TabV C b n t wB wL wO wW wF)(a:t.Ok N)(c:i<t.basic.length):Sl C 1 (wF.getD i (.slice none 0 0)) ((t.line i).f.map aT)/\(t.line i).f.length=t.others.length:=by
 have d:=a.ll;have e:=h.fl;refine ⟨?_,a.fl _ (Lp.line_mem a c)⟩;refine h.F i _ _ (show t.lines[i]?=some (t.line i) from ?_) (show wF[i]?=some _ from ?_)
 ·unfold Lp.Tab.line;rw [ak,aj om_];rfl
 ·rw [ak,aj om_];rfl
theorem Gq (C:Mem)(a j b n i r N:Nat)(t:Lp.Tab)(p q s k:Value)(c:List Value)(h:TabV C b n t p q s k c)(d:t.Ok N)(e:C a=some (.cells ⟨[.pointer (some ⟨b,0,none⟩)]⟩ 202 (0,0)))(u:C j=some (.cells ⟨[.int .i64 r]⟩ 3 (0,0)))
  (l:r<t.basic.length) (v:i<t.others.length) (w:QB 40 ((t.line r).g i)) :
  Gives cx.P 182 [.int .i64 i,.pointer (some ⟨a,0,none⟩),.pointer (some ⟨j,0,none⟩)] C (.bool (decide (n<=t.oth i) && decide (0<(t.line r).g i))):=by
 obtain ⟨G,H,rfl,I,J,_⟩:=id h.O;obtain ⟨A2,c2,rfl,K,M,_⟩:=id h.L;obtain ⟨f,Q⟩:=kl h d l;obtain ⟨S,T,x,U,V,_⟩:=id f;have m:=iT (ls:=t.lines) (ws:=c) (i:=r) (by rw [d.ll];exact l) h.fl;rw [x] at m f;have W:maxLen<=9223372036854775807:=by simp [maxLen]
 have X:=d.ll;exact Ph func182 29 U3 fun w0=>C6 1 [0,1,2] Z<|Pv [0,1,2,3,4,5,6,7,8,9,10,11,12,13,14,15,16,17,18,19,20,21,22,23,24] [(8,1)] Z kr_ fun R Y y=>O8 (bkT e 1) U8<|O8 (bkT e 1) U8<|Pc 2 Z<|O8 (PtrTo.blockT (h.m_.o) _ 1) U8<|Pa U6<|Pm h.O.m_ U10 om_ (eE v) fl_ fun aa z=>O8 z U8<|PH (fun _=>(eI _ b n (t.oth i) t _ _ _ k c h.m_)) U9<|Pa U6<|PC U6 (fun _=>PtrTo.blockT (Mem.get e mup) _ 1) U3<|Pc 2 Z<|PC U6 (fun _=>PtrTo.blockT (h.m_.o) _ 1) U3<|PC U6 (fun _=>PtrTo.blockT (Mem.get u mup) _ 1) U3<|D.index U10 (fun A=>⟨h.L.mono mup,by omega,m⟩) fl_ Z fun ab B=>Qw Z Z Z Z Z Z Z Z Z Z B fl_ Z fun ac E=>PC U6 E U3<|Pa U6<|D.index U10 (fun A=>⟨f.mono mup,by omega,de om_⟩) fl_ Z fun ad F=>PC U6 F U3<|Pw (fun _=>(fu _ ((t.line r).g i) (Md (bE w dc_) dc_))) U9<|Pa U6<|Pz U8<|C4 1 [4] y Z<|Pf U2<|⟨by rw [<- rJ],Z⟩
theorem IK (C:Mem)(a b n i N:Nat)(t:Lp.Tab)(e f j k:Value)(d:List Value)(h:TabV C b n t e f j k d)(l:t.Ok N)(c:C a=some (.cells ⟨[.pointer (some ⟨b,0,none⟩)]⟩ 202 (0,0)))(m:i<t.others.length) :
  Gives cx.P 183 [.int .i64 i,.pointer (some ⟨a,0,none⟩)] C (.bool (!decide (n<=t.oth i) && !decide (t.worth.g i=0))):=by
 obtain ⟨s,u,rfl,v,w,_⟩:=id h.O;obtain ⟨A2,c2,rfl,x,y,_⟩:=id h.W;have z:maxLen<=9223372036854775807:=by simp [maxLen]
 have A:=l.wl;refine Ph func183 25 U3 fun w0=>C6 1 [0,1] Z<|Pv [0,1,2,3,4,5,6,7,8,9,10,11,12,13,14,15,16,17,18,19,20,21] [(8,1)] Z kr_ fun R B p=>O8 (bkT c 1) U8<|O8 (bkT c 1) U8<|Pc 2 Z<|O8 (PtrTo.blockT (h.m_.o) _ 1) U8<|Pa U6<|Pm h.O.m_ U10 om_ (eE m) fl_ fun E q=>O8 q U8<|PH (fun _=>(eI _ b n (t.oth i) t _ _ _ _ d h.m_)) U9<|Pc 2 Z<|PC U6 (fun _=>PtrTo.blockT (Mem.get c mup) _ 1) U3<|Pc 3 Z<|PC U6 (fun _=>PtrTo.blockT (h.m_.o) _ 1) U3<|Pa U6<|D.index U10 (fun F=>⟨h.W.mono mup,by omega,de om_⟩) fl_ Z fun G r=>PC U6 r U3<|Pa U6<|Pz U8<|C4 1 [3] p Z<|Pf U2<|⟨?_,Z⟩;show Value.bool _=Value.bool _;congr 1;congr 1;show (!((⟨(qtx (t.worth.g i)).toArray⟩:ByteArray).data.toList == (⟨#[48]⟩:ByteArray).data.toList))=_;rw [fw]
theorem IJ (C:Mem)(a b n i N:Nat)(t:Lp.Tab)(e f j k:Value)(d:List Value)(h:TabV C b n t e f j k d)(l:t.Ok N)(c:C a=some (.cells ⟨[.pointer (some ⟨b,0,none⟩)]⟩ 202 (0,0)))(m:i<t.others.length)(p:QB 40 (t.worth.g i)) :
  Gives cx.P 184 [.int .i64 i,.pointer (some ⟨a,0,none⟩)] C (.bool (decide (n<=t.oth i) && decide (t.worth.g i<0))):=by
 obtain ⟨u,v,rfl,w,x,_⟩:=id h.O;obtain ⟨A2,c2,rfl,y,z,_⟩:=id h.W;have A:maxLen<=9223372036854775807:=by simp [maxLen]
 have B:=l.wl;exact Ph func184 25 U3 fun w0=>C6 1 [0,1] Z<|Pv [0,1,2,3,4,5,6,7,8,9,10,11,12,13,14,15,16,17,18,19,20,21] [(8,1)] Z kr_ fun R E q=>O8 (bkT c 1) U8<|O8 (bkT c 1) U8<|Pc 2 Z<|O8 (PtrTo.blockT (h.m_.o) _ 1) U8<|Pa U6<|Pm h.O.m_ U10 om_ (eE m) fl_ fun F r=>O8 r U8<|PH (fun _=>(eI _ b n (t.oth i) t _ _ _ _ d h.m_)) U9<|Pa U6<|PC U6 (fun _=>PtrTo.blockT (Mem.get c mup) _ 1) U3<|Pc 3 Z<|PC U6 (fun _=>PtrTo.blockT (h.m_.o) _ 1) U3<|Pa U6<|D.index U10 (fun G=>⟨h.W.mono mup,by omega,de om_⟩) fl_ Z fun H s=>PC U6 s U3<|Pw (fun _=>(fu _ (t.worth.g i) (Md (bE p dc_) dc_))) U9<|Pa U6<|Pz U8<|C4 1 [3] q Z<|Pf U2<|⟨by rw [rK],Z⟩
theorem rC (n:Nat):List.replicate n (al [48])=((List.replicate n (0:Rat)).map aT).flatten:=by
 rw [OZ,show aT 0=[al [48]] by unfold aT;rw [K0]];induction n with
 | zero=>rfl
 | succ n a=>rw [MX,MX,Ng,<- a];rfl
def ptF (t:Lp.Tab)(n i:Nat):List Rat:=(List.range n).map fun v=>if v∈t.basic.take i then t.sol v else 0
theorem kY :(ptF t n i).length=n:=by simp [ptF]
theorem Co {v:Nat}(h:v<n):(ptF t n i)[v]?=some (if v∈t.basic.take i then t.sol v else 0):=by
 unfold ptF;rw [LU,Mr h];rfl
theorem FI (t:Lp.Tab)(n:Nat):ptF t n 0=List.replicate n 0:=by
 refine List.ext_getElem? fun v=>?_;by_cases h:v<n
 ·rw [Co h,Nq,aI h,List.take_zero,aC M3]
 ·rw [LX (by rw [kY];omega),LX (by simp;omega)]
theorem jT (h:i<t.basic.length):t.basic.take (i+1)=t.basic.take i++[t.bas i]:=by
 rw [Mx];congr 1;unfold Lp.Tab.bas;rw [ak,aj h];rfl
theorem Ip (b:t.Ok N)(h:i<t.basic.length)(d:t.bas i<n):(ptF t n i).set (t.bas i) (t.line i).c=ptF t n (i+1):=by
 refine List.ext_getElem? fun v=>?_;rw [List.getElem?_set,kY];by_cases a:v<n
 ·rw [Co a,Co a,jT h];by_cases e:t.bas i=v
  ·subst e;rw [aI rfl,aI a,aI (by simp),Lp.sol_bas b h]
  ·rw [aC e];by_cases hm:v∈t.basic.take i
   ·rw [aI hm,aI (by simp [hm])]
   ·rw [aC hm,aC (by simp [hm];exact fun h2=>e h2.symm)]
 ·rw [aC om_,LX (by rw [kY];omega),LX (by rw [kY];omega)]
theorem FJ (h:i<t.basic.length)(a:n<=t.bas i):ptF t n i=ptF t n (i+1):=by
 refine List.map_congr_left fun v hm=>?_;have b:=Me.1 hm;rw [jT h];by_cases hm:v∈t.basic.take i
 ·rw [aI hm,aI (by simp [hm])]
 ·rw [aC hm,aC (by simp [hm];omega)]
theorem Iq (a:t.Ok N):ptF t n t.basic.length=(List.range n).map t.sol:=by
 refine List.map_congr_left fun v _=>?_;rw [Mb];split
 ·rfl
 ·next h=>exact (Lp.sol_oth a h).symm
theorem xN (C:Mem)(b n N:Nat)(t:Lp.Tab)(w x p q:Value)(r:List Value)(h:TabV C b n t w x p q r)(f:t.Ok N)(y:n<=1000000) :
  Jog.Fn cx.P 119 [.pointer (some ⟨b,0,none⟩)] C [] fun u _ c=>∃ g,u=.slice (some ⟨g,0,none⟩) n n/\c=[.arr u 56 1 n (((List.range n).map t.sol).map aT).flatten]:=by
 obtain ⟨z,s,rfl,A,Q,_⟩:=id h.B;obtain ⟨A2,c2,rfl,S,T,_⟩:=id h.L;have E:=h.B;have U:t.basic.length<=s:=by rwa [ax] at A
 have V:maxLen<=9223372036854775807:=by simp [maxLen]
 have W:=f.ll;have F:=h.fl;refine Ph func119 38 U3 fun w0=>C6 1 [0] Z<|Px [(4,3)] Z fun R a=>Pc 3 Z<|O8 (PtrTo.blockT (h.m_.o) _ 1) U8<|D.call (il _ n y) Z (.inr dc_) U6 (LR _) fl_ (fun X _ Y _ H=>?_);obtain ⟨g,rfl,rfl⟩:=H;refine C4 1 [0,3] a Z<|O7 3 Z fun R a=>O8 (PtrTo.blockT (h.m_.o) _ 1) U8<|C4 2 [0,3,14,15,16] a Z<|Po (L':=[.arr (.slice (some ⟨g,0,none⟩) n n) 56 1 n ((ptF t n 0).map aT).flatten]) (by rw [FI,<- rC];rfl)<|G.loop (fun fr C' c I=>∃ (i:Nat),(i<=t.basic.length)/\fr=[(0,[],.pointer (some ⟨b,0,none⟩)),(3,[],.slice (some ⟨g,0,none⟩) n n),(14,[],.slice z (t.basic.map aU).length s),(15,[],.int .i64 (t.basic.map aU).length),(16,[],.int .i64 i)]/\c=[.arr (.slice (some ⟨g,0,none⟩) n n) 56 1 n ((ptF t n i).map aT).flatten]/\I=t.basic.length-i) (hn_ [0,3,14,15,16] Z) ⟨0,LV _,Z,Z,Z⟩ (fun fr aa ab m v J=>?_);obtain ⟨i,hi,rfl,rfl,rfl⟩:=J;refine C6 1 [0,3,14,15,16,17] Z<|O9 (fun k=>?_) fun k=>?_
 ·have d:i<t.basic.length:=by
   have:=K5 k;rw [ax] at this;omega
  refine O7 1 Z fun R a=>Pm E.m_ U10 om_ (show (t.basic.map aU)[i]?=some (aU (t.bas i)) from eE d) fl_ fun ac K=>O8 K U8<|C4 2 [0,3,4,5,14,15,16] a Z<|O7 2 Z fun R a=>Pn (eI _ b n (t.bas i) t _ _ p q r h.m_) U7<|C4 1 [0,3,4,5,14,15,16,24] a Z<|O9 (fun l=>?_) fun l=>?_
  ·have e:t.bas i<n:=by
    have ad:¬ n<=t.bas i:=by simpa using l
    omega
   refine O7 5 Z fun R a=>O8 (PtrTo.blockT (h.m_.o) _ 1) U8<|Pa U6<|Pm h.L.m_ U10 om_ (iT om_ F) fl_ fun ae M=>Ql M U10 fl_ fun af O=>O8 O U8<|PG (t.bas i*1) U10 (fun _=>⟨by omega,by omega,Z⟩) U2<|PJ (j:=0) U11 (by show t.bas i*1+1<=_;rw [bS bG,kY];omega)<|Pd [0,3,14,15,16] a Z<|Pb fun R a=>Pi _ U7<|C4 1 [0,3,14,15,16] a Z<|Po (L':=[.arr (.slice (some ⟨g,0,none⟩) n n) 56 1 n ((ptF t n (i+1)).map aT).flatten]) (by rw [<- Ip f d e,<- bK bG _ (by rw [kY];exact e)];rfl)<|Pk (m':=t.basic.length-(i+1)) om_ v (hn_ [0,3,14,15,16] Z) ⟨i+1,om_,Z,Z,Z⟩
  ·have e:n<=t.bas i:=by simpa using l
   rw [FJ d e];refine Pb fun R a=>Pi _ U7<|C4 1 [0,3,14,15,16] a Z<|Pk (m':=t.basic.length-(i+1)) om_ v (hn_ [0,3,14,15,16] Z) ⟨i+1,om_,Z,Z,Z⟩
 ·have d:i=t.basic.length:=by
   have:=LS k;rw [ax] at this;omega
  refine C6 2 [2] Z<|Pl (PM Z Z ?_);exact ⟨g,Z,by rw [d,Iq f]⟩
def duF (p:Lp.Sys)(t:Lp.Tab)(l:Lp.Line)(i:Nat):List Rat:=(List.range p.m).map fun r=>if p.n+r∈t.others.take i then Lp.dualV p t l r else 0
theorem lk :(duF p t l i).length=p.m:=by simp [duF]
theorem DP (h:r<p.m):(duF p t l i)[r]?=some (if p.n+r∈t.others.take i then Lp.dualV p t l r else 0):=by
 unfold duF;rw [LU,Mr h];rfl
theorem Gv (p:Lp.Sys)(t:Lp.Tab)(l:Lp.Line):duF p t l 0=List.replicate p.m 0:=by
 refine List.ext_getElem? fun v=>?_;by_cases h:v<p.m
 ·rw [DP h,Nq,aI h,List.take_zero,aC M3]
 ·rw [LX (by rw [lk];omega),LX (by simp;omega)]
theorem xl (h:i<t.others.length):t.others.take (i+1)=t.others.take i++[t.oth i]:=by
 rw [Mx];congr 1;unfold Lp.Tab.oth;rw [ak,aj h];rfl
theorem I5 (b:Lp.TabOf p t)(h:i<t.others.length)(c:p.n<=t.oth i):(duF p t l i).set (t.oth i-p.n) (l.g i)=duF p t l (i+1):=by
 refine List.ext_getElem? fun v=>?_;rw [List.getElem?_set,lk];by_cases a:v<p.m
 ·rw [DP a,DP a,xl h];by_cases e:t.oth i-p.n=v
  ·subst e;rw [aI rfl,aI a,aI (by rw [show p.n+(t.oth i-p.n)=t.oth i by omega];simp),Lp.dualV_at b h c]
  ·rw [aC e];by_cases hm:p.n+v∈t.others.take i
   ·rw [aI hm,aI (by simp [hm])]
   ·rw [aC hm,aC (by simp [hm];omega)]
 ·rw [LX (by rw [lk];omega),LX (by rw [lk];omega)];have:=b.ok.lt _ (Mh.2 (.inr (Lp.oth_mem h)));split
  ·exact aC om_
  ·rfl
theorem Gw (h:i<t.others.length)(a:t.oth i<p.n):duF p t l i=duF p t l (i+1):=by
 refine List.map_congr_left fun v _=>?_;rw [xl h];by_cases hm:p.n+v∈t.others.take i
 ·rw [aI hm,aI (by simp [hm])]
 ·rw [aC hm,aC (by simp [hm];omega)]
theorem I6 :duF p t l t.others.length=(List.range p.m).map (Lp.dualV p t l):=by
 refine List.map_congr_left fun v _=>?_;rw [Mb];split
 ·rfl
 ·next h=>exact (Lp.dualV_none h).symm
theorem DO (C:Mem)(p:Lp.Sys)(b:Nat)(t:Lp.Tab)(l:Lp.Line)(E F H s w:Value)(v:List Value)(h:TabV C b p.n t E F H s v)(x:Lp.TabOf p t)(I:p.m<=1000000)(y:Sl C 1 w (l.f.map aT))(X:l.f.length=t.others.length) :
  Jog.Fn cx.P 121 [.pointer (some ⟨b,0,none⟩),.agg ⟨[al (qtx l.c),w]⟩,.int .i64 p.m] C [] fun u _ e=>∃ g,u=.slice (some ⟨g,0,none⟩) p.m p.m/\e=[.arr u 56 1 p.m (((List.range p.m).map (Lp.dualV p t l)).map aT).flatten]:=by
 obtain ⟨J,z,rfl,K,Y,_⟩:=id h.O;obtain ⟨A3,c3,rfl,aa,ab,_⟩:=id y;have L:=h.O;have ac:t.others.length<=z:=by rwa [ax] at K
 have ad:maxLen<=9223372036854775807:=by simp [maxLen]
 refine Ph func121 40 U3 fun w0=>Pb fun R a=>Pr U6 fun M=>C4 1 [0,2,4] a Z<|G.freeze 0 Z fun _ _ N=>Px [(1,3)] Z fun R a=>Pa U6<|D.call (il _ p.m I) Z (.inr dc_) U6 (LR _) fl_ (fun ae _ af _ Q=>?_);obtain ⟨g,rfl,rfl⟩:=Q;refine C4 1 [0,4,7] a Z<|O7 3 Z fun R a=>O8 (PtrTo.blockT (h.m_.o) _ 1) U8<|C4 2 [0,4,7,15,16,17] a Z<|Po (L':=[.arr (.slice (some ⟨g,0,none⟩) p.m p.m) 56 1 p.m ((duF p t l 0).map aT).flatten]) (by rw [Gv,<- rC];rfl)<|G.loop (fun fr C' e S=>∃ (i:Nat),(i<=t.others.length)/\fr=[(0,[],.pointer (some ⟨b,0,none⟩)),(4,[],.pointer (some ⟨M,0,none⟩)),(7,[],.slice (some ⟨g,0,none⟩) p.m p.m),(15,[],.slice J (t.others.map aU).length z),(16,[],.int .i64 (t.others.map aU).length),(17,[],.int .i64 i)]/\e=[.arr (.slice (some ⟨g,0,none⟩) p.m p.m) 56 1 p.m ((duF p t l i).map aT).flatten]/\S=t.others.length-i) (hn_ [0,4,7,15,16,17] Z) ⟨0,LV _,Z,Z,Z⟩ (fun fr ag ah m A T=>?_);obtain ⟨i,hi,rfl,rfl,rfl⟩:=T;refine C6 1 [0,4,7,15,16,17,18] Z<|O9 (fun k=>?_) fun k=>?_
 ·have d:i<t.others.length:=by
   have:=K5 k;rw [ax] at this;omega
  have ai:=x.ok.lt _ (Mh.2 (.inr (Lp.oth_mem d)));refine O7 1 Z fun R a=>Pm L.m_ U10 om_ (show (t.others.map aU)[i]?=some (aU (t.oth i)) from eE d) fl_ fun aj U=>O8 U U8<|C4 2 [0,4,7,8,9,15,16,17] a Z<|O7 2 Z fun R a=>Pn (eI _ b p.n (t.oth i) t _ _ _ s v h.m_) U7<|Pd [0,4,7,8,9,15,16,17,24] a Z<|O9 (fun q=>?_) fun q=>?_
  ·have r:p.n<=t.oth i:=by simpa using q
   have B:((t.oth i:Int)-(p.n:Int)).toNat=t.oth i-p.n:=by omega
   have V:=I5 (l:=l) x d r;refine Pv [0,1,2,3,4,5,6,7,8,9,10,11,12,13] [] Z kr_ fun R hB a=>Pc 5 Z<|O8 (PtrTo.blockT (h.m_.o) _ 1) U8<|Pi _ U7<|Pa U6<|O8 (bkT N 1) U8<|Pa U6<|Pm y.m_ U10 om_ (de om_) fl_ fun ak W=>O8 W U8<|PG (((t.oth i:Int)-(p.n:Int)).toNat*1) U10 (fun _=>⟨by omega,by omega,Z⟩) U2<|PJ (j:=0) U11 (by show ((t.oth i:Int)-(p.n:Int)).toNat*1+1<=_;rw [B,bS bG,lk];omega)<|Pd [0,4,7,15,16,17] a Z<|Pb fun R a=>Pi _ U7<|C4 1 [0,4,7,15,16,17] a Z<|Po (L':=[.arr (.slice (some ⟨g,0,none⟩) p.m p.m) 56 1 p.m ((duF p t l (i+1)).map aT).flatten]) (by rw [B,<- V,<- bK bG _ (by rw [lk];omega)];rfl)<|Pk (m':=t.others.length-(i+1)) om_ A (hn_ [0,4,7,15,16,17] Z) ⟨i+1,om_,Z,Z,Z⟩
  ·have r:t.oth i<p.n:=by
    have am:¬ p.n<=t.oth i:=by simpa using q
    omega
   rw [Gw d r];refine Pb fun R a=>Pi _ U7<|C4 1 [0,4,7,15,16,17] a Z<|Pk (m':=t.others.length-(i+1)) om_ A (hn_ [0,4,7,15,16,17] Z) ⟨i+1,om_,Z,Z,Z⟩
 ·have d:i=t.others.length:=by
   have:=LS k;rw [ax] at this;omega
  refine C6 2 [6] Z<|Pl (PM Z Z ?_);exact ⟨g,Z,by rw [d,I6]⟩
def ngF (p:Lp.Sys)(t:Lp.Tab)(l:Lp.Line)(i:Nat):List Rat:=(List.range p.m).map fun r=>if r<i then -Lp.dualV p t l r else Lp.dualV p t l r
theorem gm :(ngF p t l i).length=p.m:=by simp [ngF]
theorem xY (h:r<p.m):(ngF p t l i)[r]?=some (if r<i then -Lp.dualV p t l r else Lp.dualV p t l r):=by
 unfold ngF;rw [LU,Mr h];rfl
theorem FZ (p:Lp.Sys)(t:Lp.Tab)(l:Lp.Line):(List.range p.m).map (Lp.dualV p t l)=ngF p t l 0:=List.map_congr_left fun r _=>by rw [aC (Nat.not_lt_zero _)]
theorem IH (h:i<p.m):(ngF p t l i).set i (-Lp.dualV p t l i)=ngF p t l (i+1):=by
 refine List.ext_getElem? fun v=>?_;rw [List.getElem?_set,gm];by_cases a:v<p.m
 ·rw [xY a,xY a];by_cases e:i=v
  ·subst e;rw [aI rfl,aI a,aI om_]
  ·rw [aC e];by_cases hm:v<i
   ·rw [aI hm,aI om_]
   ·rw [aC hm,aC om_]
 ·rw [aC om_,LX (by rw [gm];omega),LX (by rw [gm];omega)]
theorem II (h:t.bas i-p.n<p.m):(ngF p t (t.line i) p.m).set (t.bas i-p.n) 1=(List.range p.m).map (Lp.refV p t i):=by
 refine List.ext_getElem? fun v=>?_;rw [List.getElem?_set,gm,LU];by_cases a:v<p.m
 ·rw [xY a,Mr a,aI a];unfold Lp.refV;by_cases e:t.bas i-p.n=v
  ·subst e;rw [aI rfl,aI h,Nt,aI rfl]
  ·rw [aC e,Nt,aC (fun b=>e b.symm)]
 ·rw [aC om_,LX (by rw [gm];omega),LX (by simp;omega)];rfl
theorem qtx1:qtx 1=[49]:=by decide +kernel
theorem enc1:aT 1=[Value.string ⟨#[49]⟩]:=by
 show [al (qtx 1)]=_;rw [qtx1];rfl
theorem Fv (C:Mem)(p:Lp.Sys)(b i:Nat)(t:Lp.Tab)(A E s v:Value)(e:List Value)(h:TabV C b p.n t A E s v e)(w:Lp.TabOf p t)(F:p.m<=1000000)(f:i<t.basic.length)(W:p.n<=t.bas i)(H:∀ r,QB 40 (Lp.dualV p t (t.line i) r)) :
  Pur cx.P 117 [.pointer (some ⟨b,0,none⟩),.int .i64 i,.int .i64 p.m] C fun u D=>∃ g,u=.agg ⟨[.slice (some ⟨g,0,none⟩) p.m p.m]⟩/\Sl D 1 (.slice (some ⟨g,0,none⟩) p.m p.m) (((List.range p.m).map (Lp.refV p t i)).map aT):=by
 have ok:=w.ok;obtain ⟨X,Y,rfl,aa,ab,_⟩:=id h.B;obtain ⟨A2,c2,rfl,ac,ad,_⟩:=id h.L;obtain ⟨k,I⟩:=kl h ok f;obtain ⟨A3,c3,J,ae,af,_⟩:=id k;have ag:=ok.ll;have x:=iT (ls:=t.lines) (ws:=e) (i:=i) om_ h.fl;rw [J] at x k;have ah:maxLen<=9223372036854775807:=by simp [maxLen]
 have ai:=ok.lt _ (Mh.2 (.inl (Lp.bas_mem f)));have K:t.bas i-p.n<p.m:=by omega
 have z:((t.bas i:Int)-(p.n:Int)).toNat=t.bas i-p.n:=by omega
 refine Ph func117 49 U3 fun w0=>Pb fun R a=>Pq U5 fun c=>Pd [0,1,2,6] a Z<|Px [(9,3)] Z fun R a=>Pc 4 Z<|O8 (PtrTo.blockT (h.m_.o) _ 1) U8<|Pa U6<|Pm h.L.m_ U10 om_ x fl_ fun aj M=>O8 M U8<|Pa U6<|D.call (DO _ p b t (t.line i) _ _ s v _ e h.m_ w F k.m_ I) Z (.inr dc_) U6 (LR _) fl_ (fun ak _ al _ N=>?_);obtain ⟨g,rfl,rfl⟩:=N;refine C4 1 [0,1,6,7] a Z<|C6 3 [0,1,6,7,20,21,22] Z<|Po (L':=[.arr (.slice (some ⟨g,0,none⟩) p.m p.m) 56 1 p.m ((ngF p t (t.line i) 0).map aT).flatten,.obj c (.cells ⟨[.slice none 0 0]⟩ 75 (0,0))]) (by rw [<- FZ];rfl)<|G.loop (fun fr C' l O=>∃ (j:Nat),(j<=p.m)/\fr=[(0,[],.pointer (some ⟨b,0,none⟩)),(1,[],.int .i64 i),(6,[],.pointer (some ⟨c,0,none⟩)),(7,[],.slice (some ⟨g,0,none⟩) p.m p.m),(20,[],.slice (some ⟨g,0,none⟩) p.m p.m),(21,[],.int .i64 p.m),(22,[],.int .i64 j)]/\l=[.arr (.slice (some ⟨g,0,none⟩) p.m p.m) 56 1 p.m ((ngF p t (t.line i) j).map aT).flatten,.obj c (.cells ⟨[.slice none 0 0]⟩ 75 (0,0))]/\O=p.m-j) (hn_ [0,1,6,7,20,21,22] Z) ⟨0,LV _,Z,Z,Z⟩ (fun fr am an m Q S=>?_);obtain ⟨j,hj,rfl,rfl,rfl⟩:=S;refine C6 1 [0,1,6,7,20,21,22,23] Z<|O9 (fun q=>?_) fun q=>?_
 ·have d:j<p.m:=by
   have:=K5 q;omega
  have T:(ngF p t (t.line i) j)[j]?=some (Lp.dualV p t (t.line i) j):=by rw [xY d,aC (Nat.lt_irrefl _)]
  refine O7 1 Z fun R a=>PG (j*1) U10 (fun _=>⟨by omega,by omega,Z⟩) U2<|PT (.head _) U6 (fun _=>(by rw [ec bG T];rfl)) U2<|C4 2 [0,1,6,7,8,9,20,21,22] a Z<|O7 3 Z fun R a=>Pp (dT _ _ (Md (bE (H j) dc_) dc_)) U7 fl_<|PG (j*1) U10 (fun _=>⟨by omega,by omega,Z⟩) U2<|PJ (j:=0) U11 (by show j*1+1<=_;rw [bS bG,gm];omega)<|Pd [0,1,6,7,20,21,22] a Z<|Pb fun R a=>Pi _ U7<|C4 1 [0,1,6,7,20,21,22] a Z<|Po (L':=[.arr (.slice (some ⟨g,0,none⟩) p.m p.m) 56 1 p.m ((ngF p t (t.line i) (j+1)).map aT).flatten,.obj c (.cells ⟨[.slice none 0 0]⟩ 75 (0,0))]) (by rw [<- IH d,<- bK bG _ (by rw [gm];omega)];rfl)<|Pk (m':=p.m-(j+1)) om_ Q (hn_ [0,1,6,7,20,21,22] Z) ⟨j+1,om_,Z,Z,Z⟩
 ·have d:j=p.m:=by
   have:=LS q;omega
  subst d;refine Pv [0,1,2,3,4,5,6,7,8,9,10,11,12,13,14] [] Z kr_ fun R hB a=>Pc 4 Z<|O8 (PtrTo.blockT (h.m_.o) _ 1) U8<|Pa U6<|Pm h.B.m_ U10 om_ (show (t.basic.map aU)[i]?=some (aU (t.bas i)) from eE f) fl_ fun ao U=>O8 U U8<|Pc 3 Z<|O8 (PtrTo.blockT (h.m_.o) _ 1) U8<|Pi _ U7<|PG (((t.bas i:Int)-(p.n:Int)).toNat*1) U10 (fun _=>⟨by omega,by omega,Z⟩) U2<|PJ (j:=0) U11 (by show ((t.bas i:Int)-(p.n:Int)).toNat*1+1<=_;rw [z,bS bG,gm];omega)<|Pd [6,7] a Z<|O7 1 Z fun R a=>PB [.slice (some ⟨g,0,none⟩) p.m p.m] U8<|Pg (j:=1) U12<|Pd [6] a Z<|G.freezeArr 1 (((List.range p.m).map (Lp.refV p t i)).map aT) rfl (by rw [z,<- II K,<- bK bG 1 (by rw [gm];omega),enc1]) (by intro r hr;obtain ⟨y,_,rfl⟩:=L4.1 hr;rfl) (by simp) fun Cg hg V=>Pl (PW (.head _) U4 ?_);exact ⟨Z,g,Z,V⟩
end Go.Proofs.YthnpijdjlddpmaaGreatDoor
namespace Go.Jog
open Go
variable {C:Mem}{F:Fx}{L:List Ent}{P:Program}{args:List Value}{f:FuncId}{fr:Fr}{m s t:Nat}{v:Value}{xs:List Value}
theorem Fn.form {a:Value->Mem->List Ent->Prop}{e:Nat}(d:Enters P f=true)(k:0<m)
  (h:∀ g c,v=.slice (some ⟨g,0,none⟩) m c->Fn P f args C (.arr v e s m xs::L) a):Fn P f args C (.arr v e s m xs::L) a:=by
 refine ⟨d,fun w b=>?_⟩;have i:w.ownsRow 0 e s v m xs:=b.e _ (aF ..);rcases i.2 with ⟨h1,_⟩ | ⟨g,j,l,h1,_⟩
 ·omega
 ·exact (h g j h1).2 w b
theorem Fn.perm {P:Program}{f:FuncId}{a:List Value}{C:Mem}{L L2:List Ent}{post:Value->Mem->List Ent->Prop}(c:L.Perm L2)(h:Fn P f a C L2 post):Fn P f a C L post:=by
 refine ⟨h.1,fun w d=>?_⟩;have hs:St w C L C (L2++[]) w:=by rw [Mi];exact (St.start d).perm c
 refine (h.callAt hs).mono fun ex w' ⟨u,C',L',e,_,b,g⟩=>?_;rw [Mi] at b;exact ⟨u,C',L',e,b,g⟩
theorem P7 {q:Value->Prop}(c:Enters P f=true)(a:List Lent)(d:∀ x∈a,x.wf)(h:∀ C',C.le C'->(∀ x∈a,x.seen C')->Pur P f args C' fun u _=>q u) :
  Fn P f args C (a.map Lent.ent) fun u _ b=>q u/\b=a.map Lent.ent:=by
 have h1:=Qr (L:=[]) (post:=fun u b=>b=[]/\q u) c a d fun C' e hs=>h C' e hs;rw [Mi] at h1;refine h1.mono ?_;rintro u C' b _ ⟨i,rfl,rfl,g⟩;exact ⟨g,Mi _⟩
theorem QE {k:List KI}{e:Exit}(j:Nat)(a:L[j]?=some (.arr v t s m xs))(b:0<m)(h:∀ g c,v=.slice (some ⟨g,0,none⟩) m c->G F k e fr C L):G F k e fr C L:=by
 cases m with
 | zero=>exact absurd b (Nat.lt_irrefl _)
 | succ m=>exact RH j a h
theorem Q2 (j:Nat){r b:Nat}{c:List Value}{l:TypeId}{m:Nat × Nat}{d:TI}{u:Value}(n:L[j]?=some (.obj b (.cells ⟨c⟩ l m)))(x:F.fn.results=#[.cell r t,.tmp s])(y:ev fr [] (.tmp r)=some (.pointer (some ⟨b,0,none⟩)))(z:ev fr [] (.tmp s)=some u)
  (A:F.cx.T.get t=some d) (B:cQ d (c.take d.size)=some v) (h:F.post (.tuple #[v,u]) C (L.eraseIdx j)) (o:F.ends:=by exact ⟨fun _ _ _ h=>h,rfl⟩):G F [] .ret fr C L:=fun _ a w f q=>by
 refine o.kq ?_;have g:=bC f (fun p i=>by cases i) y;have k:=bC f (fun p i=>by cases i) z;simp only [Act.eval] at g k;have hm:Ent.obj b (.cells ⟨c⟩ l m)∈L:=LQ n;refine bodyPost_ret (v:=.tuple #[v,u]) ?_ (f.defers.trans o.2) ⟨_,C,_,Z,St.drop (St.perm q (ae n)),h⟩;have D:=dY (F:=F) A (q.sep.e _ hm) B;simp only [MO] at g k;simp [results,x,g,k,asAddr,D]
theorem kg {b:Type}{l:List Nat}(c:l.Nodup){i:Nat}(h:i∈l)(f g:Nat->b)(d:∀ j,j∈l->j≠i->f j=g j):(l.map f).Perm (f i::(l.erase i).map g):=by
 refine ((List.perm_cons_erase h).map f).trans ?_;rw [Mp];refine List.Perm.cons _ (List.Perm.of_eq (List.map_congr_left fun j a=>?_));rw [c.mem_erase_iff] at a;exact d j a.2 a.1
end Go.Jog
namespace Go.Proofs.YthnpijdjlddpmaaGreatDoor
open Tryz
open Go Go.Jog
set_option maxRecDepth 100000
variable {N b i:Nat}{k:Rat}{n:Nat}{p:Lp.Sys}{s:Nat}{t:Lp.Tab}{wB:Value}{wF:Nat->Value}{wL wO wW:Value}
def cC (t:Lp.Tab)(wF:Nat->Value):List (Rat × Value):=(List.range t.basic.length).map fun i=>((t.line i).c,wF i)
theorem eT :(cC t wF).length=t.basic.length:=by simp [cC]
theorem me (h:i<t.basic.length):(cC t wF)[i]?=some ((t.line i).c,wF i):=by
 unfold cC;rw [LU,Mr h];rfl
def Hd (t:Lp.Tab)(wF:Nat->Value)(i:Nat):Lent:=.arr (wF i) t.others.length 1 56 ((t.line i).f.map aT)
def eD (b n:Nat)(t:Lp.Tab)(wB wL wO wW:Value)(wF:Nat->Value):List Lent :=
 .obj b [.int .i64 n,wB,wL,wO,al (qtx t.worth.c),wW] 212::.arr wB t.basic.length 1 3 (t.basic.map aU)::.arr wL t.basic.length 2 209 ((cC t wF).map bl)
  :: .arr wO t.others.length 1 3 (t.others.map aU)::.arr wW t.others.length 1 56 (t.worth.f.map aT)::(List.range t.basic.length).map (Hd t wF)
theorem gu (a:t.Ok N)(h:i<t.basic.length):(t.line i).f.length=t.others.length:=a.fl _ (Lp.line_mem a h)
theorem dy {l:List Rat}:∀ r∈l.map aT,r.length=1:=fun r hr=>by
 obtain ⟨x,_,rfl⟩:=L4.1 hr;rfl
theorem sr {l:List Nat}:∀ r∈l.map aU,r.length=1:=fun r hr=>by
 obtain ⟨x,_,rfl⟩:=L4.1 hr;rfl
theorem fB (c:t.Ok N):∀ x∈eD b n t wB wL wO wW wF,x.wf:=by
 intro x a;unfold eD at a;simp only [Ma,L4,Me] at a;rcases a with rfl | rfl | rfl | rfl | rfl | ⟨i,d,rfl⟩
 ·trivial
 ·exact ⟨by simp,sr⟩
 ·exact ⟨by simp [eT],fun r hr=>by obtain ⟨y,_,rfl⟩:=L4.1 hr;rfl⟩
 ·exact ⟨by simp,sr⟩
 ·exact ⟨by simp [c.wl],dy⟩
 ·exact ⟨by simp [gu c d],dy⟩
theorem Bc {b:Type}{f:Lp.Line->Value->b}(a:t.Ok N):List.zipWith f t.lines ((List.range t.basic.length).map wF)=(List.range t.basic.length).map fun i=>f (t.line i) (wF i):=by
 refine List.ext_getElem? fun i=>?_;rw [List.getElem?_zipWith,LU,LU];by_cases h:i<t.basic.length
 ·have h2:t.lines[i]?=some (t.line i):=by
   unfold Lp.Tab.line;rw [ak,aj (by rw [a.ll];exact h)];rfl
  rw [h2,Mr h];rfl
 ·rw [LX (show (List.range t.basic.length).length<=i by simp;omega),LX (show t.lines.length<=i by rw [a.ll];omega)];rfl
theorem ei {C:Mem}(c:t.Ok N)(h:∀ x∈eD b n t wB wL wO wW wF,x.seen C):TabV C b n t wB wL wO wW ((List.range t.basic.length).map wF):=by
 have h1:=h _ (aF ..);have h2:=h _ (LW _ (aF ..));have h3:=h _ (LW _ (LW _ (aF ..)));have h4:=h _ (LW _ (LW _ (LW _ (aF ..))));have h5:=h _ (LW _ (LW _ (LW _ (LW _ (aF ..)))));have j:∀ i,i<t.basic.length->Sl C 1 (wF i) ((t.line i).f.map aT):=fun i a =>
  h (Hd t wF i) (LW _ (LW _ (LW _ (LW _ (LW _ (L4.2 ⟨i,Me.2 a,rfl⟩))))))
 refine ⟨h1,h2,h4,h5, ?_,by simp [c.ll],fun i l w e g=>?_⟩
 ·rw [Bc c];have d:Sl C 2 wL ((cC t wF).map bl):=h3;unfold cC at d;rw [ME] at d;exact d
 ·have a:i<t.lines.length:=(aX.1 e).1;rw [c.ll] at a;rw [LU,Mr a] at g;cases g
  have:t.line i=l:=by unfold Lp.Tab.line;rw [ak,e];rfl
  rw [<- this];exact j i a
theorem FH (C:Mem)(o:Tabs C)(e m f i n s:Nat)(w g:Value)(d:List (Rat × Value))(a b:List Rat)(c h:Rat)(p:d.length=m)(q:d[i]?=some (c,w))(r:a.length=n)(k:b.length=n)(t:s<n)(v:QB 40 c)(y:∀ x∈a,QB 40 x)(z:QB 40 h)(A:∀ x∈b,QB 40 x) :
  Jog.Fn cx.P 237 [.pointer (some ⟨e,i*2,none⟩),.int .i64 s,.agg ⟨[al (qtx h),g]⟩] C [.arr g 56 1 n (b.map aT).flatten,.arr (.slice (some ⟨e,0,none⟩) m f) 209 2 m (d.map bl).flatten,.arr w 56 1 n (a.map aT).flatten]
   fun u _ j=>u=.tuple #[]/\j=[.arr g 56 1 n (b.map aT).flatten,.arr (.slice (some ⟨e,0,none⟩) m f) 209 2 m ((d.set i (c+a.getD s 0*h,w)).map bl).flatten,.arr w 56 1 n ((jC a b s (a.getD s 0) n).map aT).flatten]:=by
 have l:Jog.Enters cx.P 237=true:=by kernel_rfl
 refine Fn.perm (L2:=[.arr w 56 1 n (a.map aT).flatten,.arr g 56 1 n (b.map aT).flatten,.arr (.slice (some ⟨e,0,none⟩) m f) 209 2 m (d.map bl).flatten]) (Mm (l₁:=[_,_]) (l₂:=[_]))<|Fn.form l om_ fun D E F=>?_;subst F;refine Fn.perm (Mm (l₁:=[_]) (l₂:=[_,_]))<|(Qs (post:=fun u j=>u=.tuple #[]/\j=[.arr (.slice (some ⟨e,0,none⟩) m f) 209 2 m ((d.set i (c+a.getD s 0*h,_)).map bl).flatten,.arr _ 56 1 n ((jC a b s (a.getD s 0) n).map aT).flatten]) l dy (by simp [k]) fun C' G H=>Im C' (o.mono G) e m f i D E n s g d a b c h p q r k t H v y z A).mono ?_;rintro u C' j _ ⟨B,rfl,h1,rfl⟩;exact ⟨h1,Z⟩
theorem FF (C:Mem)(o:Tabs C)(d n s:Nat)(e f g h w i:Value)(a b:List Rat)(c j:Rat)(p:a.length=n)(l:b.length=n)(q:s<n)(r:QB 40 c)(t:∀ x∈a,QB 40 x)(v:QB 40 j)(y:∀ x∈b,QB 40 x) :
  Jog.Fn cx.P 237 [.pointer (some ⟨d,4,none⟩),.int .i64 s,.agg ⟨[al (qtx j),i]⟩] C [.arr i 56 1 n (b.map aT).flatten,.obj d (.cells ⟨[e,f,g,h,al (qtx c),w]⟩ 212 (0,0)),.arr w 56 1 n (a.map aT).flatten]
   fun u _ k=>u=.tuple #[]/\k=[.arr i 56 1 n (b.map aT).flatten,.obj d (.cells ⟨[e,f,g,h,al (qtx (c+a.getD s 0*j)),w]⟩ 212 (0,0)),.arr w 56 1 n ((jC a b s (a.getD s 0) n).map aT).flatten]:=by
 have m:Jog.Enters cx.P 237=true:=by kernel_rfl
 refine Fn.perm (L2:=[.arr w 56 1 n (a.map aT).flatten,.arr i 56 1 n (b.map aT).flatten,.obj d (.cells ⟨[e,f,g,h,al (qtx c),w]⟩ 212 (0,0))]) (Mm (l₁:=[_,_]) (l₂:=[_]))<|Fn.form m om_ fun A B D=>?_;subst D;refine Fn.perm (Mm (l₁:=[_]) (l₂:=[_,_]))<|(Qs (post:=fun u k=>u=.tuple #[]/\k=[.obj d (.cells ⟨[e,f,g,h,al (qtx (c+a.getD s 0*j)),_]⟩ 212 (0,0)),.arr _ 56 1 n ((jC a b s (a.getD s 0) n).map aT).flatten]) m dy (by simp [l]) fun C' E F=>Il C' (o.mono E) d A B n s e f g h i a b c j p l q F r t v y).mono ?_;rintro u C' k _ ⟨z,rfl,h1,rfl⟩;exact ⟨h1,Z⟩
theorem lL {F:Nat}{o:Int}(h:Lp.LeaveR F t s n o):o=-1∨∃ r:Nat,o=r/\r<n/\F<=t.bas r/\(t.line r).g s<0:=by
 cases h with
 | none _=>exact .inl rfl
 | some r h1 h2 h3 _=>exact .inr ⟨r,rfl,h1,h2,h3⟩
theorem CB (a b:Rat):decide (qM a b > 0)=decide (b<a):=by
 unfold qM;rw [MH];split
 ·next h=>exact ⟨fun h2=>absurd h2 dc_,fun h2=>by grind⟩
 ·split
  ·next h=>exact ⟨fun _=>h,fun _=>by decide⟩
  ·next h=>exact ⟨fun h2=>absurd h2 dc_,fun h2=>absurd h2 h⟩
theorem CC (a b:Rat):(qM a b == 0)=decide (b=a):=by
 unfold qM;split
 ·next h=>rw [Mk (by grind)];rfl
 ·split
  ·next h=>rw [Mk (by grind)];rfl
  ·next h=>rw [Mc (by grind)];rfl
theorem F9 (C:Mem)(T:Tabs C)(b n s N:Nat)(t:Lp.Tab)(wB wL U V:Value)(k:List Value)(h:TabV C b n t wB wL U V k)(W:t.Ok N)(hs:s<t.others.length)(X:∀ i,i<t.basic.length->QB 16 (t.line i).c/\QB 16 ((t.line i).g s)) :
  Pur cx.P 185 [.pointer (some ⟨b,0,none⟩),.int .i64 s] C fun u _=>∃ o:Int,u=.int .i64 o/\Lp.LeaveR n t s t.basic.length o:=by
 obtain ⟨A1,c1,rfl,ax,ay,_⟩:=id h.B;obtain ⟨A2,c2,rfl,az,aA,_⟩:=id h.L;have E:=h.B;have aB:maxLen<=9223372036854775807:=by simp [maxLen]
 have aC:=W.ll;have ad:=h.fl;have aD:(List.zipWith (fun (l:Lp.Line) w=>[al (qtx l.c),w]) t.lines k).length=t.basic.length:=by simp;omega
 refine Ph func185 85 U3 fun w0=>C6 1 [0,1] Z<|C6 1 [0,1,5] Z<|C6 1 [0,1,5,6] Z<|O7 3 Z fun R a=>O8 (PtrTo.blockT (h.m_.o) _ 1) U8<|C4 2 [0,1,5,6,15,16,17] a Z<|G.loop (fun fr C' L' μ=>∃ (i:Nat)(o:Int)(v:Str),(i<=t.basic.length/\Lp.LeaveR n t s i o/\∀ r:Nat,o=r->v=qtx ((t.line r).c / -(t.line r).g s))/\fr=[(0,[],.pointer (some ⟨b,0,none⟩)),(1,[],.int .i64 s),(5,[],.int .i64 o),(6,[],al v),(15,[],.slice A2 (List.zipWith (fun (l:Lp.Line) w=>[al (qtx l.c),w]) t.lines k).length c2),(16,[],.int .i64 (List.zipWith (fun (l:Lp.Line) w=>[al (qtx l.c),w]) t.lines k).length),(17,[],.int .i64 i)]/\L'=[]/\μ=t.basic.length-i) (hn_ [0,1,5,6,15,16,17] Z) ⟨0, -1,[],⟨LV _,.none fun j hj=>absurd hj (Nat.not_lt_zero _),fun r hr=>by omega⟩,Z,Z,Z⟩ (fun fr aE aF m _ hI=>?_);obtain ⟨i,o,v,⟨hi,f,F⟩,rfl,rfl,rfl⟩:=hI;refine C6 1 [0,1,5,6,15,16,17,18] Z<|O9 (fun H=>?_) fun H=>?_
 ·have p:i<t.basic.length:=by
   have:=K5 H;omega
  obtain ⟨z,aG⟩:=kl h W p;obtain ⟨A3,c3,ae,aH,aI,_⟩:=id z;obtain ⟨Y,I⟩:=X i p;have aa:=iT (ls:=t.lines) (ws:=k) (i:=i) om_ ad;rw [ae] at aa z;have ab:(qtx ((t.line i).g s)).length<=1000000:=Md (bE I dc_) dc_;refine O7 1 Z fun R a=>Pm h.L.m_ U10 om_ aa fl_ fun aJ af=>O8 af U8<|Pq U5 fun b8=>Pa U6<|Pg (j:=0) U12<|Pd [0,1,5,6,7,8,15,16,17] a Z<|G.freeze 0 Z fun _ _ J=>O7 4 Z fun R a=>O8 (PtrTo.blockT (h.m_.o) _ 1) U8<|Pa U6<|Pm E.m_ U10 om_ (eE p) fl_ fun aK ag=>O8 ag U8<|Pn (eI _ b n (t.bas i) t _ _ U V k h.m_) U7<|Pc 3 Z<|PC U6 (fun _=>PtrTo.blockT (Mem.get J mup) _ 1) U3<|Pa U6<|D.index U10 (fun hg=>⟨z.mono mup,by omega,de om_⟩) fl_ Z fun aL ah=>PC U6 ah U3<|PH (fun _=>(fu _ ((t.line i).g s) ab)) U9<|Pa U6<|PD U8<|Pd [0,1,5,6,7,8,15,16,17,40] a Z<|O9 (fun K=>?_) fun K=>?_
  ·have d:n<=t.bas i->0<=(t.line i).g s:=by
    intro h1;have d:(!decide (n<=t.bas i) || decide (dX ((t.line i).g s).num ≥ 0))=true:=K;rw [Cp,Mc h1] at d;simpa using d
   refine Pb fun R a=>Pi _ U7<|C4 1 [0,1,5,6,15,16,17] a Z<|Pk (m':=t.basic.length-(i+1)) om_ mup (hn_ [0,1,5,6,15,16,17] Z) ⟨i+1,o,v,⟨by omega,f.no d,F⟩,Z,Z,Z⟩
  ·have d:n<=t.bas i/\(t.line i).g s<0:=by
    have d:(!decide (n<=t.bas i) || decide (dX ((t.line i).g s).num ≥ 0))=false:=K;rw [Cp] at d;simp only [Nb,Bool.not_eq_false',LY,Mf] at d;exact ⟨d.1,by have:=d.2;grind⟩
   have ac:-(t.line i).g s≠0:=by have:=d.2;grind
   have ai:=kI Y (fk I) ac;refine Pv [0,1,2,3,4,5,6,7,8,9,10,11,12,13] [(7,1),(8,1)] Z kr_ fun R hB a=>Pa U6<|O8 (bkT J 1) U8<|Pa U6<|O8 (bkT J 1) U8<|Pa U6<|Pm z.m_ U10 om_ (de om_) fl_ fun aM aj=>O8 aj U8<|PH (fun _=>(dT _ ((t.line i).g s) ab)) U9<|Pw (fun _=>(gg _ T.m_ (t.line i).c (-(t.line i).g s) 16 dc_ dc_ Y (fk I) ac)) U9<|C4 5 [0,1,5,6,7,9,15,16,17] a Z<|C6 1 [0,1,5,6,7,9,15,16,17] Z<|C6 2 [0,1,5,6,7,9,15,16,17,54] Z<|O9 (fun M=>?_) fun M=>?_
   ·have ak:0<=o:=by simpa using K5 M
    obtain ⟨r,O,aN,aO,aP⟩:=(lL f).resolve_left om_;obtain ⟨am,an⟩:=X r om_;have ao:-(t.line r).g s≠0:=by grind
    have ap:=kI am (fk an) ao;have aq:=F r O;rw [O] at f;subst O;subst aq;obtain ⟨x,A⟩:∃ x,(t.line i).c / -(t.line i).g s=x:=⟨_,rfl⟩;obtain ⟨y,hy⟩:∃ y,(t.line r).c / -(t.line r).g s=y:=⟨_,rfl⟩;refine O7 2 Z fun R a=>Pp (gi _ T.m_ _ _ 32 dc_ dc_ ai ap) U7 fl_<|C4 1 [0,1,5,6,7,9,11,15,16,17] a Z<|Pv [0,1,2,3,4,5,6,7,8,9,10,11,12,13,14,15,16,17,18,19,20,21,22] [] Z kr_ fun R hB a=>Pc 9 Z<|PC U6 (fun _=>PtrTo.blockT (h.m_.o) _ 1) U3<|Pa U6<|D.index U10 (fun hg=>⟨E.mono mup,by omega,eE p⟩) fl_ Z fun aQ ar=>PC U6 ar U3<|Pc 3 Z<|PC U6 (fun _=>PtrTo.blockT (h.m_.o) _ 1) U3<|Pa U6<|D.index U10 (fun hg=>⟨E.mono mup,by omega,by rw [NO];exact eE om_⟩) fl_ Z fun aR au=>PC U6 au U3<|Pa U6<|Pz U8<|PD U8<|Pd [0,1,5,6,7,9,15,16,17,80] a Z<|O9 (fun Q=>?_) fun Q=>?_
    ·have e:y<x∨y=x/\t.bas r<t.bas i:=by
      have e:(decide (qM ((t.line i).c / -(t.line i).g s) ((t.line r).c / -(t.line r).g s) > 0) || (qM ((t.line i).c / -(t.line i).g s) ((t.line r).c / -(t.line r).g s) == 0 && decide ((t.bas i:Int) > (t.bas r:Int))))=true:=Q;rw [A,hy,CB,CC] at e;simp only [Nl,L3,LY] at e;rcases e with h1 | ⟨h1,h2⟩
      ·exact .inl h1
      ·exact .inr ⟨h1,by omega⟩
     have q:=f.keep (by rw [A,hy];exact e.elim .inl (fun h1=>.inr ⟨h1.1,by have:=h1.2;omega⟩));refine Pb fun R a=>Pi _ U7<|C4 1 [0,1,5,6,15,16,17] a Z<|Pk (m':=t.basic.length-(i+1)) om_ mup (hn_ [0,1,5,6,15,16,17] Z) ⟨i+1,(r:Int),qtx ((t.line r).c / -(t.line r).g s),⟨by omega,q,F⟩,Z,Z,Z⟩
    ·have e:x<y∨x=y/\t.bas i<=t.bas r:=by
      have e:(decide (qM ((t.line i).c / -(t.line i).g s) ((t.line r).c / -(t.line r).g s) > 0) || (qM ((t.line i).c / -(t.line i).g s) ((t.line r).c / -(t.line r).g s) == 0 && decide ((t.bas i:Int) > (t.bas r:Int))))=false:=Q;rw [A,hy,CB,CC] at e;simp only [Nb,OH,Mf] at e;obtain ⟨h1,h2⟩:=e;by_cases h3:x<y
      ·exact .inl h3
      ·have h4:y=x:=by grind
       rcases h2 with h2 | h2
       ·exact absurd h4 h2
       ·exact .inr ⟨h4.symm,by omega⟩
     have q:=f.less d.1 d.2 (by rw [A,hy];exact e);refine C6 4 [0,1,5,6,15,16,17] Z<|Pb fun R a=>Pi _ U7<|C4 1 [0,1,5,6,15,16,17] a Z<|Pk (m':=t.basic.length-(i+1)) om_ mup (hn_ [0,1,5,6,15,16,17] Z) ⟨i+1,(i:Int),qtx ((t.line i).c / -(t.line i).g s),⟨by omega,q,fun S av=>by rw [show S=i by omega]⟩,Z,Z,Z⟩
   ·have ak:¬ 0<=o:=by simpa using LS M
    have aw:o=-1:=by
     rcases lL f with h1 | ⟨r,h1,_⟩
     ·exact h1
     ·omega
    subst aw;have q:=f.first d.1 d.2;refine C6 4 [0,1,5,6,15,16,17] Z<|Pb fun R a=>Pi _ U7<|C4 1 [0,1,5,6,15,16,17] a Z<|Pk (m':=t.basic.length-(i+1)) om_ mup (hn_ [0,1,5,6,15,16,17] Z) ⟨i+1,(i:Int),qtx ((t.line i).c / -(t.line i).g s),⟨by omega,q,fun S av=>by rw [show S=i by omega]⟩,Z,Z,Z⟩
 ·have p:i=t.basic.length:=by
   have:=LS H;omega
  exact C6 2 [4] Z<|Pf U2<|⟨Z,o,Z,by rw [<- p];exact f⟩
def ryF (t:Lp.Tab)(s n:Nat)(k:Rat)(i:Nat):List Rat:=(List.range n).map fun v=>if v∈t.basic.take i then k*t.dir s v else if v=t.oth s then k else 0
theorem jz :(ryF t s n k i).length=n:=by simp [ryF]
theorem xx {v:Nat}(h:v<n):(ryF t s n k i)[v]?=some (if v∈t.basic.take i then k*t.dir s v else if v=t.oth s then k else 0):=by
 unfold ryF;rw [LU,Mr h];rfl
theorem Fq (h:n<=t.oth s):List.replicate n 0=ryF t s n k 0:=by
 refine List.ext_getElem? fun v=>?_;by_cases a:v<n
 ·rw [xx a,Nq,aI a,List.take_zero,aC M3,aC om_]
 ·rw [LX (by simp;omega),LX (by rw [jz];omega)]
theorem H9 (h:t.oth s<n):(List.replicate n 0).set (t.oth s) k=ryF t s n k 0:=by
 refine List.ext_getElem? fun v=>?_;rw [List.getElem?_set];by_cases a:v<n
 ·rw [xx a,Nq,aI a,List.take_zero,aC M3];by_cases e:t.oth s=v
  ·rw [aI e,aI (by simpa using h),aI e.symm]
  ·rw [aC e,aC (fun b=>e b.symm)]
 ·rw [aC om_,LX (by simp;omega),LX (by rw [jz];omega)]
theorem H8 (b:Lp.TabOf p t)(c:s<t.others.length)(h:i<t.basic.length)(d:t.bas i<n):(ryF t s n k i).set (t.bas i) (k*(t.line i).g s)=ryF t s n k (i+1):=by
 refine List.ext_getElem? fun v=>?_;rw [List.getElem?_set,jz];by_cases a:v<n
 ·rw [xx a,xx a,jT h];by_cases e:t.bas i=v
  ·subst e;rw [aI rfl,aI a,aI (by simp),Lp.dir_bas b c h]
  ·rw [aC e];by_cases hm:v∈t.basic.take i
   ·rw [aI hm,aI (by simp [hm])]
   ·rw [aC hm,aC (show ¬ v∈t.basic.take i++[t.bas i] by simp [hm];exact fun h2=>e h2.symm)]
 ·rw [aC om_,LX (by rw [jz];omega),LX (by rw [jz];omega)]
theorem Fs (h:i<t.basic.length)(a:n<=t.bas i):ryF t s n k i=ryF t s n k (i+1):=by
 refine List.map_congr_left fun v hm=>?_;have b:=Me.1 hm;rw [jT h];by_cases hm:v∈t.basic.take i
 ·rw [aI hm,aI (by simp [hm])]
 ·rw [aC hm,aC (show ¬ v∈t.basic.take i++[t.bas i] by simp [hm];omega)]
theorem Ia (a:Lp.TabOf p t):ryF t s n k t.basic.length=(List.range n).map fun v=>k*t.dir s v:=by
 refine List.map_congr_left fun v _=>?_;rw [Mb];split
 ·rfl
 ·next h =>
  rw [Lp.dir_oth a h];split <;> grind
def jN (t:Lp.Tab)(s:Nat):Rat:=if 0<t.worth.g s then -1 else 1
theorem J7:qtx (-1)=[45,49]:=by decide +kernel
theorem J6 (C:Mem)(N:Tabs C)(p:Lp.Sys)(b s:Nat)(t:Lp.Tab)(Q S T U:Value)(r:List Value)(h:TabV C b p.n t Q S T U r)(x:Lp.TabOf p t)(I:s<t.others.length)(V:p.n<=1000000)(X:∀ i,i<t.basic.length->QB 16 ((t.line i).g s))(Y:QB 16 (t.worth.g s)) :
  Jog.Fn cx.P 120 [.pointer (some ⟨b,0,none⟩),.int .i64 s] C [] fun u _ c=>∃ g,u=.slice (some ⟨g,0,none⟩) p.n p.n/\c=[.arr u 56 1 p.n (((List.range p.n).map fun v=>jN t s*t.dir s v).map aT).flatten]:=by
 have ok:=x.ok;obtain ⟨A1,J,rfl,aa,ao,_⟩:=id h.B;obtain ⟨A2,c2,rfl,ap,aq,_⟩:=id h.L;obtain ⟨A3,c3,rfl,ar,au,_⟩:=id h.O;obtain ⟨A4,c4,rfl,av,aw,_⟩:=id h.W;have ab:=h.B;have ay:t.basic.length<=J:=by rwa [ax] at aa
 have az:maxLen<=9223372036854775807:=by simp [maxLen]
 have aA:=ok.ll;have ac:=h.fl;have aB:=ok.wl;have ad:QB 16 (jN t s):=by unfold jN;split <;> exact ⟨by decide,by decide⟩
 refine Ph func120 72 U3 fun w0=>C6 1 [0,1] Z<|C6 1 [0,1,5] Z<|O7 4 Z fun R a=>O8 (PtrTo.blockT (h.m_.o) _ 1) U8<|Pa U6<|Pm h.W.m_ U10 om_ (de om_) fl_ fun aD ae=>O8 ae U8<|Pp (fu _ (t.worth.g s) (Md (bE Y dc_) dc_)) U7 fl_<|C4 1 [0,1,5,19] a Z<|G.cut (fun fr C' c f=>(True)/\fr=[(0,[],.pointer (some ⟨b,0,none⟩)),(1,[],.int .i64 s),(5,[],al (qtx (jN t s)))]/\c=[]) ?_ (fun fr _ aE f _ l=>?_)
 ·refine O9 (fun y=>?_) fun y=>?_
  ·have z:jN t s=-1:=by
    have d:0<t.worth.g s:=by
     have d:decide (0<dX (t.worth.g s).num)=true:=y;rw [rJ] at d;exact K5 d
    unfold jN;rw [aI d]
   refine C6 1 [0,1,5] Z<|Pj 0 (Mem.le.refl _) (hn_ [0,1,5] Z) ⟨trivial,by rw [z,J7];rfl,Z⟩
  ·have z:jN t s=1:=by
    have d:¬ 0<t.worth.g s:=by
     have d:decide (0<dX (t.worth.g s).num)=false:=y;rw [rJ] at d;exact LS d
    unfold jN;rw [aC d]
   refine Pj 0 (Mem.le.refl _) (hn_ [0,1,5] Z) ⟨trivial,by rw [z,qtx1];rfl,Z⟩
 ·obtain ⟨af,rfl,rfl⟩:=l;refine Px [(4,3)] Z fun R a=>Pc 3 Z<|O8 (PtrTo.blockT (h.m_.o) _ 1) U8<|D.call (il _ p.n V) Z (.inr dc_) U6 (LR _) fl_ fun aF _ aG _ ag=>C4 1 [0,1,5,6] a Z ?_;obtain ⟨g,rfl,rfl⟩:=ag;refine Po (L':=[.arr (.slice (some ⟨g,0,none⟩) p.n p.n) 56 1 p.n ((List.replicate p.n (0:Rat)).map aT).flatten]) (by rw [<- rC];rfl)<|O7 3 Z fun R a=>O8 (PtrTo.blockT (h.m_.o) _ 1) U8<|Pa U6<|Pm h.O.m_ U10 om_ (show (t.others.map aU)[s]?=some (aU (t.oth s)) from eE I) fl_ fun aH ah=>O8 ah U8<|C4 1 [0,1,5,6,7] a Z<|O7 2 Z fun R a=>Pn (eI _ b p.n (t.oth s) t _ _ _ _ r h.m_) U7<|C4 1 [0,1,5,6,7,35] a Z<|G.cut (fun fr C' c f=>(True)/\fr=[(0,[],.pointer (some ⟨b,0,none⟩)),(1,[],.int .i64 s),(5,[],al (qtx (jN t s))),(6,[],.slice (some ⟨g,0,none⟩) p.n p.n)]/\c=[.arr (.slice (some ⟨g,0,none⟩) p.n p.n) 56 1 p.n ((ryF t s p.n (jN t s) 0).map aT).flatten]) ?_ (fun fr _ aJ f _ l=>?_)
  ·refine O9 (fun A=>?_) fun A=>?_
   ·have q:t.oth s<p.n:=by
     have q:¬ p.n<=t.oth s:=by simpa using A
     omega
    refine O7 3 Z fun R a=>PG (t.oth s*1) U10 (fun _=>⟨by omega,by omega,Z⟩) U2<|PJ (j:=0) U11 (by show t.oth s*1+1<=_;rw [bS bG,Nd];omega)<|Pd [0,1,5,6] a Z<|Po (L':=[.arr (.slice (some ⟨g,0,none⟩) p.n p.n) 56 1 p.n ((ryF t s p.n (jN t s) 0).map aT).flatten]) (by rw [<- H9 q,<- bK bG _ (by rw [Nd];exact q)];rfl)<|Pj 0 (Mem.le.refl _) (hn_ [0,1,5,6] Z) ⟨trivial,Z,Z⟩
   ·have q:p.n<=t.oth s:=by simpa using A
    rw [Fq (k:=jN t s) q];refine Pj 0 (Mem.le.refl _) (hn_ [0,1,5,6] Z) ⟨trivial,Z,Z⟩
  ·obtain ⟨af,rfl,rfl⟩:=l;refine O7 3 Z fun R a=>O8 (PtrTo.blockT (h.m_.o) _ 1) U8<|C4 2 [0,1,5,6,43,44,45] a Z<|G.loop (fun fr C' c f=>∃ (i:Nat),(i<=t.basic.length)/\fr=[(0,[],.pointer (some ⟨b,0,none⟩)),(1,[],.int .i64 s),(5,[],al (qtx (jN t s))),(6,[],.slice (some ⟨g,0,none⟩) p.n p.n),(43,[],.slice A1 (t.basic.map aU).length J),(44,[],.int .i64 (t.basic.map aU).length),(45,[],.int .i64 i)]/\c=[.arr (.slice (some ⟨g,0,none⟩) p.n p.n) 56 1 p.n ((ryF t s p.n (jN t s) i).map aT).flatten]/\f=t.basic.length-i) (hn_ [0,1,5,6,43,44,45] Z) ⟨0,LV _,Z,Z,Z⟩ (fun fr aK aL m K l=>?_);obtain ⟨i,hi,rfl,rfl,rfl⟩:=l;refine C6 1 [0,1,5,6,43,44,45,46] Z<|O9 (fun E=>?_) fun E=>?_
   ·have e:i<t.basic.length:=by
     have:=K5 E;rw [ax] at this;omega
    obtain ⟨F,aM⟩:=kl h ok e;obtain ⟨A5,c5,ai,aN,aO,_⟩:=id F;have M:=iT (ls:=t.lines) (ws:=r) (i:=i) om_ ac;rw [ai] at M F;refine O7 1 Z fun R a=>Pm ab.m_ U10 om_ (show (t.basic.map aU)[i]?=some (aU (t.bas i)) from eE e) fl_ fun aP aj=>O8 aj U8<|C4 2 [0,1,5,6,8,9,43,44,45] a Z<|O7 2 Z fun R a=>Pn (eI _ b p.n (t.bas i) t _ _ _ _ r h.m_) U7<|C4 1 [0,1,5,6,8,9,43,44,45,53] a Z<|O9 (fun H=>?_) fun H=>?_
    ·have w:t.bas i<p.n:=by
      have aQ:¬ p.n<=t.bas i:=by simpa using H
      omega
     refine O7 6 Z fun R a=>O8 (PtrTo.blockT (h.m_.o) _ 1) U8<|Pa U6<|Pm h.L.m_ U10 om_ M fl_ fun aR ak=>Ql ak U10 fl_ fun aS am=>O8 am U8<|Pa U6<|Pm F.m_ U10 om_ (de om_) fl_ fun aV an=>O8 an U8<|Pp (dm _ N.m_ (jN t s) ((t.line i).g s) 16 dc_ dc_ ad (X i e)) U7 fl_<|PG (t.bas i*1) U10 (fun _=>⟨by omega,by omega,Z⟩) U2<|PJ (j:=0) U11 (by show t.bas i*1+1<=_;rw [bS bG,jz];omega)<|Pd [0,1,5,6,43,44,45] a Z<|Pb fun R a=>Pi _ U7<|C4 1 [0,1,5,6,43,44,45] a Z<|Po (L':=[.arr (.slice (some ⟨g,0,none⟩) p.n p.n) 56 1 p.n ((ryF t s p.n (jN t s) (i+1)).map aT).flatten]) (by rw [<- H8 x I e w,<- bK bG _ (by rw [jz];exact w)];rfl)<|Pk (m':=t.basic.length-(i+1)) om_ K (hn_ [0,1,5,6,43,44,45] Z) ⟨i+1,om_,Z,Z,Z⟩
    ·have w:p.n<=t.bas i:=by simpa using H
     rw [Fs e w];refine Pb fun R a=>Pi _ U7<|C4 1 [0,1,5,6,43,44,45] a Z<|Pk (m':=t.basic.length-(i+1)) om_ K (hn_ [0,1,5,6,43,44,45] Z) ⟨i+1,om_,Z,Z,Z⟩
   ·have e:i=t.basic.length:=by
     have:=LS E;rw [ax] at this;omega
    refine C6 2 [4] Z<|Pl (PM Z Z ?_);exact ⟨g,Z,by rw [e,Ia x]⟩
end Go.Proofs.YthnpijdjlddpmaaGreatDoor
