/- Laws that the proofs of this seat share, part 6. -/
import Derived.Test.YthnpijdjlddpmaaGreatDoorG5
import Derived.Test.YthnpijdjlddpmaaGreatDoorShelf
set_option maxHeartbeats 4000000
namespace Go.Proofs.YthnpijdjlddpmaaGreatDoor
open Go.Proofs.Tryz
open Go Go.Jog
set_option maxRecDepth 100000
variable {Q a b i j k:Nat}{l:List Nat}{m n:Nat}{o p:List Int}{q:List Nat}{s:Str}{t:Nat}{w:Int}{x:Nat}{z:Int}
def gI (p:List Int)(i:Nat):Int:=p.getD i 0
theorem GY (h:k<p.length):(p.map lZ)[k]?=some (lZ (gI p k))/\p[k]?=some (gI p k):=by
 have e:p[k]?=some (gI p k):=by
  unfold gI;rw [aw,aj h];rfl
 exact ⟨by rw [Qg,e];rfl,e⟩
theorem si (h:p.length<=k):gI p k=0:=by
 unfold gI;rw [aw,Ql h];rfl
theorem LS (p:List Int)(k:Nat):iJ (p.take (k+1))=iJ (p.take k)+(10000:Int) ^ k*gI p k:=by
 rcases QL k p.length with h | h
 ·exact EB (GY h).2
 rw [si h,QE h,QE om_];simp
theorem Ft (o:Int):(o-o % 10000).tdiv 10000=(o-o % 10000) / 10000:=Int.tdiv_eq_ediv_of_dvd (Int.dvd_of_emod_eq_zero om_)
theorem KC (C:Mem)(v:Value)(p:List Int)(g:Sl C 1 v (p.map lZ))(F:0<=iJ p)(H:∀ x∈p, -1000000000000<=x/\x<=1000000000000)(N:p.length<=100000):Pur cx.P 290 [v] C fun u D=>PieC D u (iJ p).toNat:=by
 obtain ⟨k,c0,rfl,_⟩:=id g;simp only [al] at g ⊢;refine Ud func290 43 U3 fun w0=>TT 1 [0] Z<|TT 1 [0,3] Z<|TT 1 [0,3,4] Z<|TT 1 [0,3,4,5] Z<|G.nilArr 3 1<|G.loop (fun fr C' b c=>∃ (i:Nat)(o:Int)(out:List Nat)(w:Value),(out.length=i/\DigP out/\-1000000000000<=o/\o<=1000000000000/\iJ (p.take i)=(bM out:Nat)+(10000:Int) ^ i*o/\(p.length<=i->(i:Int)+o<=1000000100000))/\fr=[(0,[],.slice k p.length c0),(3,[],w),(4,[],.int .i64 o),(5,[],.int .i64 i)]/\b=[.arr w 3 1 i (out.map aN).flatten]/\c=(p.length-i)*4611686018427387904+o.natAbs) (hn_ [0,3,4,5] Z) ⟨0,0,[],_,⟨Z,(fun x I=>(by cases I)),by omega,by omega,by simp [iJ,bM],fun h=>by omega⟩,Z,Z,Z⟩ (fun fr O Q m _ d=>?_);obtain ⟨i,o,out,w,⟨e,l,S,T,n,B⟩,rfl,rfl,rfl⟩:=d;have q:p.length<=i->0<=o:=fun h=>by
  refine Jo e l (V:=iJ p) F ?_;rw [<- n,QE h]
 have U:(i:Int)<=1000000100000:=by
  rcases QL i p.length with h | h
  ·omega
  have:=q h;have:=B h;omega
 refine TU 7 Z fun R a=>UB U8<|TZ [0,3,4,5,14] a Z<|TW (fun r=>?_) fun r=>?_
 ·have s:i<p.length∨o≠0:=by
   simp at r;omega
  have W:-1000000000000<=gI p i/\gI p i<=1000000000000:=by
   rcases QL i p.length with h | h
   ·exact H _ (Qc (GY h).2)
   rw [si h];omega
  refine TT 4 [0,3,4,5,20] Z<|G.cut (fun fr C' b c=>(True)/\fr=[(0,[],.slice k p.length c0),(3,[],w),(4,[],.int .i64 (o+gI p i)),(5,[],.int .i64 i)]/\b=[.arr w 3 1 i (out.map aN).flatten]) ?_ (fun fr _ X c _ d=>?_)
  ·refine TW (fun t=>?_) fun t=>?_
   ·have f:i<p.length:=by simpa using t
    refine TU 3 Z fun R a=>Ul g.m_ U10 om_ (GY f).1 fl_ fun Y J=>TV J U8<|Ue _ U7<|C4 1 [0,3,4,5] a Z<|Uj 0 (Mem.le.refl _) (hn_ [0,3,4,5] Z) ⟨trivial,Z,Z⟩
   have f:p.length<=i:=by
    have:¬ i<p.length:=by simpa using t
    omega
   rw [show o=o+gI p i by rw [si f,Int.add_zero]];refine Uj 0 (Mem.le.refl _) (hn_ [0,3,4,5] Z) ⟨trivial,by rw [si f];simp,Z⟩
  obtain ⟨_,rfl,rfl⟩:=d;refine TU 1 Z fun R a=>Wq (Int.tmod (o+gI p i) 10000) Z Z Z Z Z Z om_ Z Z Z<|C4 1 [0,3,4,5,6] a Z ?_;have y:=I4 (o+gI p i);have aa:-10000<=Int.tmod (o+gI p i) 10000/\Int.tmod (o+gI p i) 10000<10000:=by
   have:=TA (o+gI p i) (show (10000:Int)≠0 by decide);have:=Int.emod_lt_of_pos (o+gI p i) (show (0:Int)<10000 by decide);split at y <;> omega
  refine TT 2 [0,3,4,5,6,30] Z<|G.cut (fun fr C' b c=>(True)/\fr=[(0,[],.slice k p.length c0),(3,[],w),(4,[],.int .i64 (o+gI p i)),(5,[],.int .i64 i),(6,[],.int .i64 (((o+gI p i) % 10000).toNat:Nat))]/\b=[.arr w 3 1 i (out.map aN).flatten]) ?_ (fun fr _ ab c _ d=>?_)
  ·refine TW (fun z=>?_) fun z=>?_
   ·have A:Int.tmod (o+gI p i) 10000<0:=by simpa using z
    rw [aU A] at y;refine TU 1 Z fun R a=>UG (((((o+gI p i) % 10000).toNat:Nat):Int)) U4 om_ om_ om_ U2<|C4 1 [0,3,4,5,6] a Z<|Uj 0 (Mem.le.refl _) (hn_ [0,3,4,5,6] Z) ⟨trivial,Z,Z⟩
   have A:¬ Int.tmod (o+gI p i) 10000<0:=by simpa using z
   rw [az A] at y;rw [show Int.tmod (o+gI p i) 10000=((((o+gI p i) % 10000).toNat:Nat):Int) by omega];refine Uj 0 (Mem.le.refl _) (hn_ [0,3,4,5,6] Z) ⟨trivial,Z,Z⟩
  obtain ⟨_,rfl,rfl⟩:=d;refine TU 2 Z fun R a=>Uq [aN (((o+gI p i) % 10000).toNat)] U12 fun ac _ _ K=>D.append (j:=0) U11 K Z ax (by show (i+1)*8<=_;omega) fl_ fun E=>C4 1 [0,3,4,5,6] a Z<|TU 2 Z fun R a=>UG ((o+gI p i-(o+gI p i) % 10000)) U4 om_ om_ om_ U2<|Vj ((o+gI p i-(o+gI p i) % 10000) / 10000) U6 om_ (Ft _) (by rw [IntKind.wrap_i64];omega) U2<|C4 1 [0,3,4,5] a Z<|TU 1 Z fun R a=>Ue _ U7<|C4 1 [0,3,4,5] a Z ?_;have hm:(p.length-(i+1))*4611686018427387904+((o+gI p i-(o+gI p i) % 10000) / 10000).natAbs<(p.length-i)*4611686018427387904+o.natAbs:=by
   rcases QL i p.length with h2 | h2
   ·omega
   have h3:=q h2;rw [si h2];omega
  refine Um (L':=[.arr E 3 1 (i+1) ((out++[((o+gI p i) % 10000).toNat]).map aN).flatten]) (by simp [aN])<|Ug (m':=(p.length-(i+1))*4611686018427387904+((o+gI p i-(o+gI p i) % 10000) / 10000).natAbs) om_ mup (hn_ [0,3,4,5] Z) ⟨i+1,(o+gI p i-(o+gI p i) % 10000) / 10000,out++[((o+gI p i) % 10000).toNat],E,⟨by simp [e],l.snoc (by show ((o+gI p i) % 10000).toNat<10000;omega),by omega,by omega,by
   refine HB e ?_;rw [LS,n,Tn];omega,fun h=>by
   rcases QL i p.length with h2 | h2
   ·omega
   have h3:=q h2;have h4:=B h2;rw [si h2] at *;omega⟩,rfl,rfl,rfl⟩
 have s:p.length<=i/\o=0:=by
  simp at r;omega
 refine Uv [(1,3)] Z fun R a=>TX U6<|D.call (uK _ _ out e) Z (.inr dc_) U6 (Qh _) fl_ (fun ad _ ae _ L=>?_);obtain ⟨rfl,M⟩:=L;refine C4 1 [2] a Z<|Ub U2<|⟨Z,xj out,mg l, ?_,M⟩;rw [QE s.1,s.2] at n;rw [il];omega
theorem zR:∀ (l:List Int)(i:Nat)(x:Int),i<l.length->iJ (l.set i x)=iJ l+(10000:Int) ^ i*(x-gI l i)
 | [],i,x,h=>by simp at h
 | a::l,0,x,_=>by
  show x+10000*iJ l=a+10000*iJ l+1*(x-a);omega
 | a::l,i+1,x,h=>by
  have b:=zR l i x (by simpa using h);show a+10000*iJ (l.set i x)=a+10000*iJ l+(10000:Int) ^ (i+1)*(x-gI l i);rw [b,Tn,<- Int.mul_assoc,Int.pow_succ,Int.mul_comm ((10000:Int) ^ i) 10000];omega
theorem EA (l:List Int):iJ (l++[0])=iJ l:=by rw [vA];omega
structure Joins (p q:List Nat)(k:Int)(i:Nat)(o:List Int):Prop where
 len:o.length=max p.length i
 val:iJ o=(bM p:Nat)+k*(bM (q.take i):Nat)
 rest:∀ j,i<=j->gI o j=(gP p j:Nat)
 lim:∀ x∈o, -100000000<=x/\x<=100000000
theorem O2 (p:List Nat)(j:Nat):gI (p.map fun x:Nat=>(x:Int)) j=(gP p j:Nat):=by
 unfold gI gP;rw [aw,aw,Qg];cases p[j]? <;> rfl
theorem yC (p q:List Nat)(k:Int)(a:DigP p):Joins p q k 0 (p.map fun x:Nat=>(x:Int)):=by
 refine ⟨by simp,by rw [zS];simp [bM],fun j _=>O2 p j,fun x b=>?_⟩;obtain ⟨y,hy,rfl⟩:=Qk.1 b;have:y<10000:=a y hy;omega
theorem Joins.zero {p:List Nat}{k:Int}(h:Joins p q k i o)(c:o.length<=i):iJ (o++[0])=(bM p:Nat)+k*(bM (q.take i):Nat)/\(∀ j,i<=j->gI (o++[0]) j=(gP p j:Nat))/\(∀ x∈o++[0], -100000000<=x/\x<=100000000):=by
 refine ⟨by rw [EA,h.val],fun j a=>?_,fun x b=>?_⟩
 ·have h1:=h.rest j a;have h2:gI o j=0:=by unfold gI;rw [aw,Ql om_];rfl
  rw [<- h1,h2];unfold gI;rw [aw,QH om_];cases j-o.length <;> rfl
 rcases Qt.1 b with h1 | h1
 ·exact h.lim x h1
 simp at h1;subst h1;omega
theorem GX {x:Int}(h:i≠j):gI (o.set i x) j=gI o j:=by
 unfold gI;rw [aw,aw,TD h]
theorem Dq {p:List Nat}{k:Int}{y:Nat}(d:DigP p)(f:DigP q)(a:-9999<=k/\k<=9999)(b:q[i]?=some y)(g:o.length=max p.length (i+1))
  (h:iJ o=(bM p:Nat)+k*(bM (q.take i):Nat)) (c:∀ j,i<=j->gI o j=(gP p j:Nat)) (l:∀ x∈o, -100000000<=x/\x<=100000000) :
  Joins p q k (i+1) (o.set i (gI o i+k*(y:Nat))):=by
 have n:y<10000:=f y (Qc b);have r:gP p i<10000:=GW d i;have s:-99980001<=k*(y:Int)/\k*(y:Int)<=99980001:=by
  have h0:(0:Int)<=y:=by omega
  have h1:k*(y:Int)<=9999*(y:Int):=Su a.2 h0;have h2:(-9999:Int)*(y:Int)<=k*(y:Int):=Su a.1 h0;omega
 refine ⟨by rw [Q4];exact g, ?_,fun j t=>?_,fun x m=>?_⟩
 ·rw [zR o i _ om_,h,iI b];have e:((bM (q.take i)+BP ^ i*y:Nat):Int)=(bM (q.take i):Nat)+(10000:Int) ^ i*(y:Int):=by
   rw [SR,Q6,Int.natCast_pow];rfl
  rw [e,Tn,show gI o i+k*(y:Int)-gI o i=k*(y:Int) by omega,Int.mul_left_comm];omega
 ·rw [GX om_];exact c j om_
 rcases SK m with h1 | h1
 ·exact l x h1
 subst h1;rw [c i (Qb _)];omega
theorem BC (h:k<p.length):p[k]?=some (gI p k):=by
 unfold gI;rw [aw,aj h];rfl
theorem ni (h:Cv l)(a:bM l<BP ^ m):l.length<=m:=by
 apply QK;intro b;have h1:=uU h om_;have h2:BP ^ m<=BP ^ (l.length-1):=QD dc_ om_;omega
theorem uE (x:Int):(lZ x).length=1:=rfl
theorem fk (x:Nat):(aN x).length=1:=rfl
theorem HC (C:Mem)(v:Value)(p:List Int)(a:p.length=n)(b:0<=iJ p)(c:∀ x∈p, -1000000000000<=x/\x<=1000000000000)(d:p.length<=100000):Jog.Fn cx.P 290 [v] C [.arr v 3 1 n (p.map lZ).flatten] fun u C' e=>e=[]/\PieC C' u (iJ p).toNat :=
 Jog.Fn.give (p.map lZ) kr_ (by intro r hr;obtain ⟨y,_,rfl⟩:=Qk.1 hr;rfl) (by rw [al,a]) (fun C' _ hs=>KC C' v p hs b c d)
theorem wQ (C:Mem)(I J:Value)(p q:List Nat)(k:Int)(V:Sl C 1 I (p.map aN))(d:Sl C 1 J (q.map aN))(K:DigP p)(L:DigP q)(f:-9999<=k/\k<=9999)(W:0<=(bM p:Int)+k*(bM q:Int))(aq:p.length<=50000)(ar:q.length<=50000) :
  Pur cx.P 263 [I,J,.int .i64 k,.int .i64 0] C fun u D=>PieC D u ((bM p:Int)+k*(bM q:Int)).toNat:=by
 obtain ⟨M,c0,rfl,_⟩:=id d;simp only [al] at d ⊢;refine Ud func263 45 U3 fun w0=>TT 1 [0,1,2,3] Z<|TY fun R a=>Va [] U12 fl_ fun au=>TX U6<|D.append (j:=0) U11 V (by rw [Qv];intro r hr;obtain ⟨y,_,rfl⟩:=Qk.1 hr;rfl) (by rw [al];simp only [Qu,maxLen];omega) (by rw [al];show (0+p.length)*8<=_;omega) fl_ fun X=>C4 1 [1,2,3,9] a Z<|TT 1 [1,2,3,9,10] Z<|Um (L':=[.arr X 3 1 (p.map fun x:Nat=>(x:Int)).length (((p.map fun x:Nat=>(x:Int)).map lZ).flatten)]) (by rw [Q1];simp;rfl)<|G.loop (fun fr C' c g=>∃ (i:Nat)(o:List Int)(w:Value),(i<=q.length/\Joins p q k i o)/\fr=[(1,[],.slice M q.length c0),(2,[],.int .i64 k),(3,[],.int .i64 0),(9,[],w),(10,[],.int .i64 i)]/\c=[.arr w 3 1 o.length (o.map lZ).flatten]/\g=q.length-i) (hn_ [1,2,3,9,10] Z) ⟨0,_,_,⟨Qf _,yC p q k K⟩,Z,Z,Z⟩ (fun fr av aw m _ n=>?_);obtain ⟨i,o,w,⟨hi,b⟩,rfl,rfl,rfl⟩:=n;refine TT 4 [1,2,3,9,10,17] Z<|TW (fun z=>?_) fun z=>?_
 ·have A:i<q.length:=by simpa using z
  have ay:=b.len;refine G.loop (fun fr C' c g=>∃ (o2:List Int)(B:Value),((o2=o∨(o2=o++[0]/\o.length<=i)))/\fr=[(1,[],.slice M q.length c0),(2,[],.int .i64 k),(3,[],.int .i64 0),(9,[],B),(10,[],.int .i64 i)]/\c=[.arr B 3 1 o2.length (o2.map lZ).flatten]/\g=i+1-o2.length) (hn_ [1,2,3,9,10] Z) ⟨o,w,.inl Z,Z,Z,Z⟩ (fun fr az aA m _ n=>?_);obtain ⟨o2,B,E,rfl,rfl,rfl⟩:=n;refine WD 0 Z (fun Y N he=>?_);subst he;have aB:o2.length<=50002:=by
   have h1:o2.length<=o.length+1:=by
    have h2:=E.imp (fun e=>congrArg List.length e) (fun e=>congrArg List.length e.1);rw [Qi,aI] at h2;omega
   omega
  refine TU 4 Z fun R a=>UG (((i:Nat):Int)) U4 om_ om_ om_ U2<|C4 1 [1,2,3,9,10,25] a Z<|TW (fun F=>?_) fun F=>?_
  ·have O:o2.length<=i:=by
    have:(o2.length:Int)<=i:=by simpa using F
    omega
   have aa:o2=o:=by
    refine E.elim id fun h=>?_;have:=h.1 ▸ O;rw [Qi,aI] at this;omega
   subst aa;refine TU 1 Z fun R a=>Uq [lZ 0] U12 fun aC _ _ ab=>D.append (j:=0) U11 ab Z ax (by show (o2.length+1)*8<=_;omega) fl_ fun Q=>C4 1 [1,2,3,9,10] a Z<|Um (L':=[.arr Q 3 1 (o2++[0]).length ((o2++[0]).map lZ).flatten]) (by simp [lZ]) ?_;have aD:i+1-(o2++[0]).length<i+1-o2.length:=by rw [Qi,aI];omega
   refine Ug (m':=i+1-(o2++[0]).length) om_ mup (hn_ [1,2,3,9,10] Z) ⟨o2++[0],Q,.inr ⟨Z,O⟩,Z,Z,Z⟩
  have H:i<o2.length:=by
   have:¬ (o2.length:Int)<=i:=by simpa using F
   omega
  have ac:o2.length=max p.length (i+1)/\iJ o2=(bM p:Nat)+k*(bM (q.take i):Nat)/\(∀ j,i<=j->gI o2 j=(gP p j:Nat))/\(∀ x∈o2, -100000000<=x/\x<=100000000):=by
   refine E.elim (fun h=>?_) fun h=>?_
   ·subst h;exact ⟨by omega,b.val,b.rest,b.lim⟩
   obtain ⟨h1,h2⟩:=h;subst h1;have h3:=b.zero h2;exact ⟨by rw [Qi,aI];omega,h3⟩
  obtain ⟨ad,ae,ag,S⟩:=ac;obtain ⟨ah,aj⟩:=pU (l:=q) (k:=i) A;have aE:gP q i<10000:=GW L i;have aF:-99980001<=k*((gP q i:Nat):Int)/\k*((gP q i:Nat):Int)<=99980001:=by
   have h0:(0:Int)<=((gP q i:Nat):Int):=by omega
   have h1:k*((gP q i:Nat):Int)<=9999*((gP q i:Nat):Int):=Su f.2 h0;have h2:(-9999:Int)*((gP q i:Nat):Int)<=k*((gP q i:Nat):Int):=Su f.1 h0;omega
  have aG:=S _ (Qc (BC H));refine V9 0 (m:=o2.length-1) (v:=.slice Y o2.length N) (t:=3) (s:=1) (xs:=(o2.map lZ).flatten) (by rw [show o2.length-1+1=o2.length by omega];rfl) (fun g0 cc ak=>?_);injection ak with am aH an;subst am an;refine Ur [0,1,2,3,4,5,6,7,8,9,10,11,12,13,14] [] Z kr_ fun R hB a=>Ua 3 Z<|UG (((i:Nat):Int)) U4 om_ om_ om_ U2<|UA (i*1) U10 ai U2<|UQ af U6 (fun _=>(by rw [eB uE (BC H)];rfl)) U2<|Ua 3 Z<|Ul d.m_ U10 om_ ah fl_ fun aJ ao=>TV ao U8<|Ue _ U7<|Ue _ U7<|UA (i*1) U10 ai U2<|UD (j:=0) U11 (by show i*1+1<=_;rw [bQ uE];omega)<|TZ [1,2,3,9,10] a Z<|TU 1 Z fun R a=>Ue _ U7<|C4 1 [1,2,3,9,10] a Z<|Um (L':=[.arr (.slice (some ⟨g0,0,none⟩) o2.length N) 3 1 (o2.set i (gI o2 i+k*((gP q i:Nat):Int))).length ((o2.set i (gI o2 i+k*((gP q i:Nat):Int))).map lZ).flatten]) (by rw [<- bN uE _ H,Q4];rfl)<|Ug (m':=q.length-(i+1)) om_ mup (hn_ [1,2,3,9,10] Z) ⟨i+1,_,_,⟨by omega,Dq K L f aj ad ae ag S⟩,Z,Z,Z⟩
 have A:i=q.length:=by
  have:¬ i<q.length:=by simpa using z
  omega
 have T:iJ o=(bM p:Int)+k*(bM q:Int):=by rw [b.val,A,Qo]
 refine Uv [(1,3)] Z fun R a=>TX U6<|D.call (HC _ _ o Z (by rw [T];exact W) (fun x hx=>by have:=b.lim x hx;omega) (by have:=b.len;omega)) Z (.inr dc_) U6 (Qh _) fl_ (fun aK _ aL _ ap=>?_);obtain ⟨rfl,U⟩:=ap;refine C4 1 [8] a Z<|Ub U2 ?_;rw [T] at U;exact ⟨Z,U⟩
theorem N2 (n:Nat):kg ([.int .i64 0]:List Value) n=((List.replicate n 0).map aN).flatten:=by
 rw [ef,Tf];rfl
theorem vz (h:j<l.length):bM (l.drop j)=gP l j+BP*bM (l.drop (j+1)):=by
 rw [QG h,(aF.1 (pU h).2).2];rfl
theorem tA (h:j<l.length):bM ((l.set j x).drop j)=x+BP*bM (l.drop (j+1)):=by
 rw [vz (by rw [Q4];exact h),List.drop_set_of_lt om_];congr 1;unfold gP;rw [aw,To h];rfl
theorem Kg (h:DigP l)(a:x<BP):DigP (l.set j x):=fun y hy=>by
 rcases SK hy with h1 | h1
 ·exact h y h1
 rw [h1];exact a
theorem Bf (C:Mem)(O Q:Value)(p q:List Nat)(v:Sl C 1 O (p.map aN))(g:Sl C 1 Q (q.map aN))(ah:DigP p)(w:Cv q)(i:0<bM q)(aG:p.length<=10000)(aH:q.length<=10000) :
  Pur cx.P 261 [O,Q] C fun u D=>∃ u1 S,u=.tuple #[u1,S]/\PieC D u1 (bM p / bM q)/\PieC D S (bM p % bM q):=by
 obtain ⟨T,c0,rfl,_⟩:=id v;obtain ⟨U,V,rfl,_⟩:=id g;simp only [al] at v g ⊢;refine Ud func261 58 U3 fun w0=>TT 2 [0,1] Z<|TU 2 Z fun R b=>UY U9 (Qb _) (by show 8*p.length<=281474976710656;omega) (by simp only [maxLen];omega) fl_ fun d=>C4 1 [0,1,6] b Z<|TT 1 [0,1,6,7] Z<|TU 2 Z fun R b=>Ue _ U7<|C4 1 [0,1,6,7,8] b Z<|Um (L':=[.arr (qW d p.length p.length) 3 1 p.length ((List.replicate p.length 0).map aN).flatten]) (by rw [<- N2];rfl)<|G.loop (fun fr C' e z=>∃ (k:Nat)(o l:List Nat)(A:Value),(k<=p.length/\o.length=p.length/\DigP o/\bM (o.drop k)=bM (p.drop k) / bM q/\Sl C' 1 A (l.map aN)/\Cv l/\bM l=bM (p.drop k) % bM q)/\fr=[(0,[],.slice T p.length c0),(1,[],.slice U q.length V),(6,[],qW d p.length p.length),(7,[],A),(8,[],.int .i64 ((k:Int)-1))]/\e=[.arr (qW d p.length p.length) 3 1 p.length (o.map aN).flatten]/\z=k+1) (hn_ [0,1,6,7,8] Z) ⟨p.length,List.replicate p.length 0,[],.slice none 0 0,⟨Qb _,RE,(fun x c=>by rw [Sj c];decide),by rw [Rj,SV am];simp [bM],Sl.nil _ _,⟨fun x c=>(by cases c),by simp⟩,by rw [Rj];simp [bM]⟩,Z,Z,Z⟩ (fun fr aJ aK m _ B=>?_);obtain ⟨k,o,l,A,⟨hk,W,X,Y,hs,E,F⟩,rfl,rfl,rfl⟩:=B;refine TT 2 [0,1,6,7,8,19] Z<|TW (fun H=>?_) fun H=>?_
 ·have aa:0<k:=by
   have:(0:Int)<=(k:Int)-1:=by simpa using H
   omega
  obtain ⟨j,rfl⟩:∃ j,k=j+1:=⟨k-1,by omega⟩;rw [show ((j+1:Nat):Int)-1=(j:Int) by omega];obtain ⟨aj,aL⟩:=pU (l:=p) (k:=j) om_;have c:gP p j<BP:=GW ah j;have aM:gP p j<10000:=c;have aO:l.length<=q.length:=ni E (by rw [F];exact Ss (QV _ i) (mF w.1));have ak:DigP (gP p j::l):=fun y hy=>by
   rcases Qp.1 hy with h | h
   ·rw [h];exact c
   exact E.1 y h
  refine Uv [(7,3)] Z fun R b=>Ua 2 Z<|Ul v.m_ U10 om_ aj fl_ fun aP an=>TV an U8<|Va [aN (gP p j)] U12 fl_ fun aQ=>TX U6<|D.append (j:=0) U11 hs.m_ (by rw [Qv];intro r hr;obtain ⟨y,_,rfl⟩:=Qk.1 hr;rfl) (by rw [al];simp only [aI,maxLen];omega) (by rw [al];show (1+l.length)*8<=_;omega) fl_ fun aR=>D.call (uK _ _ (gP p j::l) (n:=1+(l.map aN).length) (by rw [al];simp;omega)) Z (.inr dc_) U6 (Qh _) fl_ (fun ab ao aS _ ap=>?_);obtain ⟨rfl,I⟩:=ap;refine C4 1 [0,1,6,7,8] b Z ?_;obtain ⟨r,ac,J,ad,aT⟩:∃ r,Cv r/\bM r=gP p j+BP*(bM (p.drop (j+1)) % bM q)/\Sl ao 1 ab (r.map aN)/\r.length<=20000:=⟨xj (gP p j::l),mg ak,by rw [il];show gP p j+BP*bM l=_;rw [F],I,by unfold xj;rw [Qq,Qs];omega⟩;have K:=Ha (t:=bM (p.drop (j+1))) (x:=gP p j) i;rw [<- vz om_,<- J] at K;have aq:bM r / bM q<BP:=by rw [J];exact xg i c
  have aU:bM r / bM q<10000:=aq;refine TT 2 [0,1,6,7,8,9,10] Z<|G.loop (fun fr C' e z=>∃ (low a:Nat),(low<=bM r / bM q/\bM r / bM q<=a/\a<=9999)/\fr=[(0,[],.slice T p.length c0),(1,[],.slice U q.length V),(6,[],qW d p.length p.length),(7,[],ab),(8,[],.int .i64 j),(9,[],.int .i64 low),(10,[],.int .i64 a)]/\e=[.arr (qW d p.length p.length) 3 1 p.length (o.map aN).flatten]/\z=a-low) (hn_ [0,1,6,7,8,9,10] Z) ⟨0,9999,⟨Qf _,by omega,Qb _⟩,Z,Z,Z⟩ (fun fr aV aW m _ B=>?_);obtain ⟨low,a,⟨ar,au,av⟩,rfl,rfl,rfl⟩:=B;refine TT 3 [0,1,6,7,8,9,10,32] Z<|TW (fun L=>?_) fun L=>?_
  ·have s:low<a:=by simpa using L
   obtain ⟨aw,ax⟩:=Ng i ar au s;refine TU 2 Z fun R b=>Ue _ U7<|Ue _ U7<|Vj ((((low+a+1) / 2:Nat):Int)) U6 om_ (by rw [SI om_];omega) (by rw [IntKind.wrap_i64];omega) U2<|C4 1 [0,1,6,7,8,9,10,11] b Z<|TU 3 Z fun R b=>Uz (wQ _ _ _ [] q ((((low+a+1) / 2:Nat):Int)) (Sl.nil _ _) g.m_ (fun x c=>(by cases c)) w.1 om_ (by rw [<- Q6];omega) am om_) U7 fl_ (fun aX _ _ ay=>?_);obtain ⟨l2,az,aA,aB⟩:=ay;have ae:bM l2=bM q*((low+a+1) / 2):=by
    have h0:((bM ([]:List Nat):Nat):Int)=0:=rfl;rw [aA,h0,Int.zero_add,<- Q6,RW,Q0]
   refine Uh (Jn _ _ _ r l2 ad.m_ aB.m_ ac az) U7<|TZ [0,1,6,7,8,9,10,11,42] b Z<|TW (fun M=>?_) fun M=>?_
   ·have N:bM r<bM q*((low+a+1) / 2):=by
     rw [<- ae];simpa using M
    have f:=aw N;refine TU 1 Z fun R b=>Ue _ U7<|C4 1 [0,1,6,7,8,9,10] b Z ?_;rw [show ((((low+a+1) / 2:Nat):Int))-1=(((low+a+1) / 2-1:Nat):Int) by omega];refine Ug (m':=(low+a+1) / 2-1-low) om_ mup (hn_ [0,1,6,7,8,9,10] Z) ⟨low,(low+a+1) / 2-1,⟨f.1,f.2,by omega⟩,Z,Z,Z⟩
   have N:¬ bM r<bM q*((low+a+1) / 2):=by
    rw [<- ae];simpa using M
   have f:=ax N;refine TT 2 [0,1,6,7,8,9,10] Z<|Ug (m':=a-(low+a+1) / 2) om_ mup (hn_ [0,1,6,7,8,9,10] Z) ⟨(low+a+1) / 2,a,⟨f.1,f.2,av⟩,Z,Z,Z⟩
  have s:low=bM r / bM q:=by
   have:¬ low<a:=by simpa using L
   omega
  have af:((bM r:Nat):Int) + -(low:Int)*((bM q:Nat):Int)=((bM r % bM q:Nat):Int):=by
   have h1:=S9 (bM r) (bM q);rw [<- s] at h1;have h2:((bM q*low+bM r % bM q:Nat):Int)=(bM r:Nat):=by rw [h1]
   rw [SR,Q6] at h2;rw [Int.neg_mul,Int.mul_comm (low:Int)];omega
  refine TU 3 Z fun R b=>UA (j*1) U10 ai U2<|UD (j:=0) U11 (by show j*1+1<=_;rw [bQ fk];omega)<|TZ [0,1,6,7,8,9] b Z<|TU 4 Z fun R b=>?_;rw [show IntKind.i64.wrap (0-(low:Int))=-(low:Int) by rw [IntKind.wrap_i64];omega];refine Uz (wQ _ _ _ r q (-(low:Int)) ad.m_ g.m_ ac.1 w.1 om_ (by rw [af];omega) om_ om_) U7 fl_ (fun aY _ _ aC=>?_);obtain ⟨l3,aD,ag,aE⟩:=aC;rw [af,RW] at ag;refine C4 1 [0,1,6,7,8] b Z<|TU 1 Z fun R b=>Ue _ U7<|C4 1 [0,1,6,7,8] b Z<|Um (L':=[.arr (qW d p.length p.length) 3 1 p.length ((o.set j low).map aN).flatten]) (by rw [<- bN fk _ (by omega:j<o.length)];rfl)<|Ug (m':=j+1) om_ mup (hn_ [0,1,6,7,8] Z) ⟨j,o.set j low,l3,_,⟨by omega,by rw [Q4];exact W,Kg X (by show low<BP;omega),by rw [tA om_,Y,K.1,s];omega,aE.mono mup,aD,by rw [ag,K.2,J]⟩,Z,Z,Z⟩
 have aa:k=0:=by
  have:¬ (0:Int)<=(k:Int)-1:=by simpa using H
  omega
 subst aa;refine Uv [(1,3)] Z fun R b=>TX U6<|D.call (uK _ _ o W) Z (.inr dc_) U6 (Qh _) fl_ (fun aZ _ a0 _ aF=>?_);obtain ⟨rfl,I⟩:=aF;refine C4 3 [4,5] b Z<|Ui (G.dropAll (Uw U3 ?_));exact ⟨Z,_,_,Z,⟨xj o,mg X,by rw [il,<- Rm (l:=o),Y,Rm],I⟩,⟨l,E,by rw [F,Rm],hs.mono mup⟩⟩
theorem dB (z:Int):cJ 45 (txt z)=(bq z.natAbs,decide (z<0)):=by
 unfold txt;split
 ·rename_i h;rw [Qr h];rfl
 rename_i h;rw [QC h];unfold cJ;rw [az];intro h0;have h1:=(bC z.natAbs).1.1 45 (List.mem_of_mem_head? h0);revert h1;decide
theorem zW (z:Int):txt z=[48] ↔ z=0:=by
 constructor
 ·intro h;have h1:(cJ 45 (txt z)).1=[48]:=by rw [h];rfl
  rw [dB] at h1;have h2:=(bC z.natAbs).2;have h3:bq z.natAbs=[48]:=h1;rw [h3] at h2;have h4:bV [48]=0:=rfl;omega
 rintro rfl;unfold txt;rw [az om_,show bq (0:Int).natAbs=bq 0 from rfl,bq];rfl
theorem lj (z:Int):((⟨(txt z).toArray⟩:ByteArray).data.toList == (⟨#[48]⟩:ByteArray).data.toList)=decide (z=0):=by
 show (txt z == [48])=_;rw [O5,QX];exact zW z
theorem da (n:Nat):txt (n:Int)=bq n:=by
 unfold txt;rw [az om_];rfl
theorem fx (C:Mem)(z:Int):Gives cx.P 258 [ah (txt z)] C (.tuple #[.bool (decide (z<0)),ah (bq z.natAbs)]):=by
 have h:=split_fn C (txt z)
 rwa [dB] at h
theorem Hk {c:UInt8}(h:s[i]?=some c):bV (s.take (i+1))=10*bV (s.take i)+(c.toNat-48):=by
 rw [Hl h];omega
theorem xi (a:∀ c∈s,eN c=true)(d:s.length<=17)(i:Nat):bV (s.take i)<100000000000000000:=by
 have h1:=dU (s:=s.take i) (fun c b=>a c (Ro b));have h2:10 ^ (s.take i).length<=10 ^ 17:=QD dc_ (by rw [Qq];omega);omega
theorem II (C:Mem)(z:Int)(b:(bq z.natAbs).length<=17):Gives cx.P 287 [ah (txt z)] C (.tuple #[.int .i64 z,.bool true]):=by
 obtain ⟨s,k⟩:∃ s,bq z.natAbs=s:=⟨_,rfl⟩;have hs:=(bC z.natAbs).1.1;have d:=(bC z.natAbs).2;rw [k] at b hs d;refine Ud func287 45 U3 fun w0=>TT 2 [0] Z<|TU 1 Z fun R a=>Uk (by have h:=fx C z;rw [k] at h;exact h) U7 fl_<|C4 5 [4,5] a Z<|TT 3 [4,5,16] Z<|TW (fun l=>?_) fun l=>?_
 ·exfalso;have:(s.length:Int) > 19:=by simpa using l
  omega
 refine TT 1 [4,5,6] Z<|TT 1 [4,5,6,7] Z<|G.loop (fun fr C' p q=>∃ (i:Nat),(i<=s.length)/\fr=[(4,[],.bool (decide (z<0))),(5,[],ah s),(6,[],.int .i64 (-((bV (s.take i):Nat):Int))),(7,[],.int .i64 i)]/\p=[]/\q=s.length-i) (hn_ [4,5,6,7] Z) ⟨0,Qf _,Z,Z,Z⟩ (fun fr w x m _ r=>?_);obtain ⟨i,y,rfl,rfl,rfl⟩:=r;refine TT 4 [4,5,6,7,20] Z<|TW (fun e=>?_) fun e=>?_
 ·have f:i<s.length:=by simpa using e
  obtain ⟨c,g⟩:∃ c,s[i]?=some c:=⟨s[i],aj f⟩;have t:=hs c (Qc g);have A:48<=c.toNat/\c.toNat<=57:=by simpa [eN] using t
  have B:=xi hs b i;have u:(-9223372036854775808+(((c.toNat:Nat):Int)-48)).tdiv 10=-((9223372036854775808-(((c.toNat:Nat):Int)-48)) / 10):=by
   rw [show (-9223372036854775808+(((c.toNat:Nat):Int)-48))=-(9223372036854775808-(((c.toNat:Nat):Int)-48)) by omega,Int.neg_tdiv,SI om_]
  refine TU 2 Z fun R a=>UT U8 (fun _=>⟨by omega,g⟩) U2<|UJ (c:=((c.toNat:Nat):Int)) U8 (by rw [IntKind.wrap_i64];omega) fl_<|Ue _ U7<|C4 1 [4,5,6,7,8] a Z<|TU 2 Z fun R a=>Ue _ U7<|Vj (-((9223372036854775808-(((c.toNat:Nat):Int)-48)) / 10)) U6 om_ u (by rw [IntKind.wrap_i64];omega) U2<|C4 1 [4,5,6,7,8,32] a Z<|TW (fun n=>?_) fun n=>?_
  ·exfalso;simp only [Qj] at n;omega
  refine TU 1 Z fun R a=>Ue _ U7<|TX U6<|Ue _ U7<|C4 1 [4,5,6,7] a Z<|TU 1 Z fun R a=>Ue _ U7<|C4 1 [4,5,6,7] a Z ?_;rw [show 10 * -((bV (s.take i):Nat):Int)-(((c.toNat:Nat):Int)-48)=-((bV (s.take (i+1)):Nat):Int) by rw [Hk g];omega];refine Ug (m':=s.length-(i+1)) om_ mup (hn_ [4,5,6,7] Z) ⟨i+1,om_,Z,Z,Z⟩
 have f:i=s.length:=by
  have:¬ i<s.length:=by simpa using e
  omega
 rw [f,Qo,d];refine TT 2 [6,37] Z<|TW (fun j=>?_) fun j=>?_
 ·have v:z<0:=by simpa using j
  refine TT 3 [2,3] Z<|Ui (G.dropAll (Uw U3 ?_));refine ⟨?_,Z⟩;rw [show -((z.natAbs:Nat):Int)=z by omega]
 have v:¬ z<0:=by simpa using j
 have D:z.natAbs<100000000000000000:=by
  have:=xi hs b s.length
  rwa [Qo,d] at this
 refine TT 3 [6,40] Z<|TW (fun o=>?_) fun o=>?_
 ·exfalso;simp at o;omega
 refine TT 4 [2,3] Z<|Ui (G.dropAll (Uw U3 ?_));refine ⟨?_,Z⟩;rw [show IntKind.i64.wrap (0 - -((z.natAbs:Nat):Int))=z by rw [IntKind.wrap_i64];omega]
theorem B7 (C:Mem)(z:Int):Gives cx.P 260 [ah (txt z)] C (.tuple #[.int .i64 (if (bq z.natAbs).length<=17 then z else 0),.bool (decide ((bq z.natAbs).length<=17))]):=by
 refine Ud func260 18 U3 fun w0=>TT 2 [0] Z<|TU 1 Z fun R b=>Uh (fx C z) U7<|C4 5 [0,5] b Z<|TT 3 [0,13] Z<|TW (fun c=>?_) fun c=>?_
 ·have a:¬ (bq z.natAbs).length<=17:=by
   have:((bq z.natAbs).length:Int) > 17:=by simpa using c
   omega
  refine TT 2 [2,3] Z<|Ui (G.dropAll (Uw U3 ?_));rw [az a,QC a];exact ⟨Z,Z⟩
 have a:(bq z.natAbs).length<=17:=by
  have:¬ ((bq z.natAbs).length:Int) > 17:=by simpa using c
  omega
 refine TU 1 Z fun R b=>Uh (II _ z a) U7<|C4 4 [2,3] b Z<|Ui (G.dropAll (Uw U3 ?_));rw [aU a,Qr a];exact ⟨Z,Z⟩
theorem lG (C:Mem)(a:Tabs C)(z:Int)(b:-9223372036854775808<=z)(c:z<=9223372036854775807):Gives cx.P 148 [.int .i64 z] C (ah (txt z)):=by
 exact Ud func148 5 U3 fun w0=>TT 1 [0] Z<|TU 1 Z fun R d=>Uh (je _ a z b c) U7<|C4 1 [2] d Z<|Ub U2<|⟨Z,Z⟩
theorem yg (C:Mem)(z:Int):Gives cx.P 221 [ah (txt z)] C (.int .i64 (if z<0 then -1 else if z=0 then 0 else 1)):=by
 refine Ud func221 13 U3 fun w0=>TT 1 [0] Z<|TU 1 Z fun R e=>Uh (fx C z) U7<|C4 5 [0,3] e Z<|TT 1 [0,10] Z<|TW (fun b=>?_) fun b=>?_
 ·have c:z<0:=by simpa using b
  refine TT 1 [2] Z<|Ub U2 ?_;rw [aU c];exact ⟨Z,Z⟩
 have c:¬ z<0:=by simpa using b
 rw [az c];refine TT 2 [12] Z<|TW (fun a=>?_) fun a=>?_
 ·rw [lj] at a;have d:z=0:=by simpa using a
  refine TT 1 [2] Z<|Ub U2 ?_;rw [aU d];exact ⟨Z,Z⟩
 rw [lj] at a;have d:¬ z=0:=by simpa using a
 refine TT 1 [2] Z<|Ub U2 ?_;rw [az d];exact ⟨Z,Z⟩
theorem rW (C:Mem)(z:Int)(d:(bq z.natAbs).length<=1000000):Gives cx.P 222 [ah (txt z)] C (ah (txt (-z))):=by
 refine Ud func222 18 U3 fun w0=>TT 1 [0] Z<|TU 1 Z fun R a=>Uh (fx C z) U7<|C4 5 [0,3,4] a Z<|TU 4 Z fun R a=>UB U8<|TZ [4,14] a Z<|TW (fun b=>?_) fun b=>?_
 ·rw [lj] at b;have c:z<=0:=by simp at b;omega
  refine TT 2 [2] Z<|Ub U2<|⟨?_,Z⟩;rw [show txt (-z)=bq z.natAbs by rw [show -z=((z.natAbs:Nat):Int) by omega,da]]
 rw [lj] at b;have c:0<z:=by simp at b;omega
 refine TU 1 Z fun R a=>UV U6 (fun _=>(by simp only [Qs,Qu];omega)) U2<|C4 1 [2] a Z<|Ub U2<|⟨?_,Z⟩;rw [show txt (-z)=45::bq z.natAbs by unfold txt;rw [aU om_];congr 2;omega];rfl
theorem sT (C:Mem)(z:Int):Gives cx.P 259 [ah (txt z)] C (ah (bq z.natAbs)):=by
 exact Ud func259 11 U3 fun w0=>TT 1 [0] Z<|TU 1 Z fun R a=>Uh (fx C z) U7<|C4 5 [4] a Z<|TT 2 [2] Z<|Ub U2<|⟨Z,Z⟩
theorem Qd:BP ^ 200=10 ^ 800:=by decide +kernel
theorem gD (h:n<BP ^ 200):(bq n).length<=800:=eE (by rw [<- Qd];exact h) om_
theorem PieC.take {D:Mem}{u:Value}(h:PieC D u n)(a:n<BP ^ 201):∃ l,Cv l/\bM l=n/\l.length<=201/\Sl D 1 u (l.map aN):=by
 obtain ⟨l,h1,h2,h3⟩:=h;exact ⟨l,h1,h2,ni h1 (by rw [h2];exact a),h3⟩
theorem nN (C:Mem)(n:Nat)(h:n<BP ^ 200):Pur cx.P 262 [ah (bq n)] C fun u D=>∃ l,Cv l/\bM l=n/\l.length<=200/\Sl D 1 u (l.map aN) :=
 (Ma C (bq n) (bC n).1.1 (by have:=gD h;omega)).mono fun u D _ _ ⟨h0,l,h1,h2,h3⟩=>⟨h0,l,h1,by rw [h2,(bC n).2],ni h1 (by rw [h2,(bC n).2];exact h),h3⟩
theorem Pp:BP ^ 200+BP ^ 200<BP ^ 201:=by decide +kernel
theorem B6 (h:(bq z.natAbs).length<=17):z.natAbs<100000000000000000:=by
 have h1:=dU (bC z.natAbs).1.1;rw [(bC z.natAbs).2] at h1;have h2:10 ^ (bq z.natAbs).length<=10 ^ 17:=QD dc_ h;omega
theorem Mi (h:decide (z<0)=decide (w<0)):sgZ (decide (z<0)) (z.natAbs+w.natAbs)=z+w:=by
 rw [QX] at h;unfold sgZ;by_cases a:z<0
 ·have:=h.1 a;rw [Qr a,aU rfl];omega
 have:¬ w<0:=fun h1=>a (h.2 h1);rw [QC a,az am];omega
theorem Mj (h:decide (z<0)≠decide (w<0))(b:¬ z.natAbs<w.natAbs):sgZ (decide (z<0)) (z.natAbs-w.natAbs)=z+w:=by
 rw [ne_eq,QX] at h;unfold sgZ;by_cases a:z<0
 ·have:¬ w<0:=fun h1=>h ⟨fun _=>h1,fun _=>a⟩;rw [Qr a,aU rfl];omega
 have:w<0:=QK fun h1=>h ⟨fun h2=>absurd h2 a,fun h2=>absurd h2 h1⟩;rw [QC a,az am];omega
theorem oL (C:Mem)(n:Nat):Gives cx.P 258 [ah (bq n)] C (.tuple #[.bool false,ah (bq n)]):=by
 have h:=fx C (n:Int);rw [da,QC om_] at h;exact h
theorem qE (C:Mem)(n:Nat):Gives cx.P 260 [ah (bq n)] C (.tuple #[.int .i64 (if (bq n).length<=17 then (n:Int) else 0),.bool (decide ((bq n).length<=17))]):=by
 have h:=B7 C (n:Int);rw [da] at h;exact h
theorem qF (h:(bq n).length<=17):n<100000000000000000:=B6 (z:=(n:Int)) h
theorem F3 (C:Mem)(a:Tabs C)(n:Nat)(h:n<=9223372036854775807):Gives cx.P 148 [.int .i64 n] C (ah (bq n)):=by
 have h:=lG C a (n:Int) om_ om_
 rwa [da] at h
theorem uk (C:Mem)(a:Tabs C)(v:Value)(l:List Nat)(b:Sl C 1 v (l.map aN))(c:DigP l)(d:l.length<=100000):Gives cx.P 264 [.bool false,v] C (ah (bq (bM l))):=by
 have h:=Gk C a false v l b c d;rw [show sgZ false (bM l)=((bM l:Nat):Int) from rfl,da] at h;exact h
theorem PB {q:Nat}(h:q<=9223372036854775807):IntKind.i64.wrap ((q:Nat):Int)=(q:Nat):=by rw [IntKind.wrap_i64];omega
theorem ma (C:Mem)(d:Tabs C)(a b:Nat)(l:a<BP ^ 200)(m:b<BP ^ 200)(e:0<b):Gives cx.P 224 [ah (bq a),ah (bq b)] C (.tuple #[ah (bq (a / b)),ah (bq (a % b))]):=by
 have D:=Pp;refine Ud func224 93 U3 fun w0=>TT 2 [0,1] Z<|TU 1 Z fun R c=>Uh (qE C a) U7<|C4 5 [0,1,6,7] c Z<|TU 1 Z fun R c=>Uh (qE _ b) U7<|C4 5 [0,1,6,7,8,9] c Z<|TU 3 Z fun R c=>Uu U8<|TZ [0,1,6,8,31] c Z<|TW (fun f=>?_) fun f=>?_
 ·have hs:(bq a).length<=17/\(bq b).length<=17:=by simpa using f
  have h1:=qF hs.1;have h2:=qF hs.2;rw [aU hs.1,aU hs.2];have h0:=Rc a b;refine Ur [0,1,2,3,4,5,6,7] [] Z kr_ fun R E c=>Ua 2 Z<|Vj (((a / b:Nat):Int)) U6 om_ (by rw [SI om_];rfl) (PB om_) U2<|Ua 2 Z<|Vf U6 om_ om_ U2<|C4 2 [6,8,10,11] c Z<|TT 2 [6,8,10,11,39] Z<|TW (fun g=>?_) fun g=>?_
  ·exfalso;have h3:=TA (a:Int) (show (b:Int)≠0 by omega);simp only [Qj] at g;omega
  rw [<- Int.natCast_emod];have h3:=Rc a b;have h4:=QV a e;refine TU 1 Z fun R c=>Uk (F3 _ d (a / b) om_) U7 fl_<|TX U6<|Uk (F3 _ d (a % b) om_) U7 fl_<|C4 2 [4,5] c Z<|Ui (G.dropAll (Uw U3 ?_));exact ⟨Z,Z⟩
 refine TU 1 Z fun R c=>Uh (oL _ a) U7<|C4 5 [1,12,13] c Z<|TU 1 Z fun R c=>Uh (oL _ b) U7<|C4 5 [12,13,14,15] c Z<|TU 1 Z fun R c=>UF (nN _ a l) U7 (fun F _ _ n=>?_);obtain ⟨lp,o,p,H,q⟩:=n;refine TX U6<|UF (nN _ b m) U7 (fun I _ _ r=>?_);obtain ⟨s,t,u,J,v⟩:=r;refine Uz (Bf _ _ _ lp s q.m_ v.m_ o.1 t om_ om_ om_) U7 fl_ (fun K _ _ w=>?_);obtain ⟨u1,L,rfl,h,i⟩:=w;rw [p,u] at h i;obtain ⟨l1,x,y,M,z⟩:=PieC.take h (by have:=Rc a b;omega);obtain ⟨l2,A,B,N,j⟩:=PieC.take i (by have:=QV a e;omega);obtain ⟨A2,c2,rfl,_⟩:=id j;refine C4 5 [12,14,15,16,17] c Z<|TU 5 Z fun R c=>Uu U8<|TZ [12,14,15,16,17,78] c Z<|TW (fun k=>?_) fun k=>?_
 ·exfalso;simp at k
 refine TU 4 Z fun R c=>Uk (uk _ d.m_ _ l1 z.m_ x.1 om_) U7 fl_<|TX U6<|Uk (uk _ d.m_ _ l2 j.m_ A.1 om_) U7 fl_<|C4 2 [4,5] c Z<|Ui (G.dropAll (Uw U3 ?_));rw [y,B];exact ⟨Z,Z⟩
theorem LD (n:Nat):((⟨(bq n).toArray⟩:ByteArray).data.toList == (⟨#[48]⟩:ByteArray).data.toList)=decide (n=0):=by
 have h:=lj (n:Int);rw [da] at h;rw [h,QX];omega
theorem DB (C:Mem)(h:Tabs C)(z w:Int)(i:z.natAbs<BP ^ 200)(j:w.natAbs<BP ^ 200):Gives cx.P 223 [ah (txt z),ah (txt w)] C (ah (bq (Nat.gcd z.natAbs w.natAbs))):=by
 refine Ud func223 22 U3 fun w0=>TT 1 [0,1] Z<|TU 1 Z fun R e=>Uh (sT _ z) U7<|TX U6<|Uh (sT _ w) U7<|C4 2 [0,1] e Z<|G.loop (fun fr C' k l=>∃ (a b:Nat),(a<BP ^ 200/\b<BP ^ 200/\Nat.gcd a b=Nat.gcd z.natAbs w.natAbs)/\fr=[(0,[],ah (bq a)),(1,[],ah (bq b))]/\k=[]/\l=b+1) (hn_ [0,1] Z) ⟨z.natAbs,w.natAbs,⟨i,j,Z⟩,Z,Z,Z⟩ (fun fr p q m _ n=>?_);obtain ⟨a,b,⟨o,f,g⟩,rfl,rfl,rfl⟩:=n;refine TT 2 [0,1,12] Z<|TW (fun c=>?_) fun c=>?_
 ·have d:0<b:=by
   rw [LD] at c;have:b≠0:=by simpa using c
   omega
  have r:=QV a d;refine TU 2 Z fun R e=>Uh (ma _ h.m_ a b o f d) U7<|C4 5 [1,6] e Z<|TT 4 [0,1] Z<|Ug (m':=a % b+1) om_ mup (hn_ [0,1] Z) ⟨b,a % b,⟨f,by omega,by rw [<- g,O4 a b d]⟩,Z,Z,Z⟩
 have d:b=0:=by
  rw [LD] at c;simpa using c
 refine TT 2 [4] Z<|Ub U2<|⟨?_,Z⟩;rw [<- g,d,SS]
def iD (s:Str):Int:=sgZ (cJ 45 s).2 (bV (cJ 45 s).1)
theorem xz {t:Str}(h:vu t):t.head?=some 48 ↔ bV t=0:=by
 constructor
 ·intro h0;have h1:=h.2.2 h0;cases t with
  | nil=>cases h0
  | cons b t =>
   have a:b=48:=by simpa using h0
   have d:t=[]:=by cases t with
    | nil=>rfl
    | cons c t=>simp at h1
   subst a d;rfl
 intro h0;have:=qD h (bC 0).1 (by rw [h0,(bC 0).2]);rw [this,bq];rfl
theorem xx :xy s=true ↔ vu (cJ 45 s).1/\((cJ 45 s).2=true->0<bV (cJ 45 s).1):=by
 obtain ⟨t,neg,d⟩:∃ t b,cJ 45 s=(t,b):=⟨_,_,rfl⟩;unfold xy;rw [d];simp only [Qn,Sv,Rk,ne_eq,Qv,Bool.and_eq_false_imp,RJ,RH,Qz];constructor
 ·rintro ⟨⟨h1,h2⟩,h3⟩;have a:vu t:=⟨h1,h2,fun h=>by
   have:=(h3 h).2;have:0<t.length:=QY.2 h2;omega⟩
  refine ⟨a,fun c=>?_⟩;rcases RD (bV t) with h | h
  ·have:=(h3 ((xz a).2 h)).1;rw [c] at this;cases this
  exact h
 rintro ⟨a,h⟩;refine ⟨⟨a.1,a.2.1⟩,fun h0=>?_⟩;have h1:=(xz a).1 h0;have h2:=a.2.2 h0;refine ⟨?_,by omega⟩;cases c:neg with
 | false=>rfl
 | true=>have:=h c;omega
theorem G9 (s:Str):s=if (cJ 45 s).2 then 45::(cJ 45 s).1 else (cJ 45 s).1:=by
 unfold cJ;split
 ·rename_i h;cases s with
  | nil=>cases h
  | cons b s =>
   have a:b=45:=by simpa using h
   subst a;rfl
 rfl
theorem HF (h:xy s=true):s=txt (iD s):=by
 obtain ⟨h1,h2⟩:=xx.1 h;unfold iD;rw [zX _ _ h2,<- oo h1];exact G9 s
def oZ (zn:Int):Option Str->Bool
 | none=>true
 | some b=>decide (1<iD b) && !(zn == 0) && (Nat.gcd zn.natAbs (iD b).natAbs == 1)
def aZ (s:Str):Bool:=cI (jQ 47 s).1 && cI ((jQ 47 s).2.getD [49]) && oZ (iD (jQ 47 s).1) (jQ 47 s).2
theorem rK :cI s=true ↔ okD (cJ 45 s).1=true/\((cJ 45 s).2=true->0<bV (cJ 45 s).1):=by
 unfold cI;rw [Qn,xx,yq,Qj];constructor
 ·rintro ⟨⟨h1,h2⟩,h3⟩;exact ⟨⟨h1,h3⟩,h2⟩
 rintro ⟨⟨h1,h3⟩,h2⟩;exact ⟨⟨h1,h2⟩,h3⟩
theorem Kk (s:Str):(iD s).natAbs=bV (cJ 45 s).1:=by
 unfold iD sgZ;split <;> omega
theorem Fp (h:s.length<=n):(jQ 47 s).1.length<=n/\((jQ 47 s).2.getD [49]).length<=n+1:=by
 rcases gF 47 s with ⟨h1,_⟩ | ⟨a,post,h1,h2,_⟩
 ·rw [h1];exact ⟨h,by simp⟩
 have e:=congrArg List.length h2;rw [Qi,Qs] at e;rw [h1];simp only [Rr];omega
theorem one_val:([49]:Str)=txt 1:=by
 unfold txt;rw [az om_,show bq (1:Int).natAbs=bq 1 from rfl,bq];rfl
theorem sG (n:Nat):((⟨(bq n).toArray⟩:ByteArray).data.toList == (⟨#[49]⟩:ByteArray).data.toList)=(n == 1):=by
 show (bq n == [49])=_;rw [O5,TG,Qj,RJ];constructor
 ·intro h;have h2:=(bC n).2;rw [h] at h2;exact h2.symm
 rintro rfl;rw [bq];rfl
theorem FQ (C:Mem)(s:Str)(d:∀ c∈s,eN c=true)(e:s≠[])(f:s.length<=18):Gives cx.P 251 [ah s,.int .i64 10,.int .i64 64] C (.tuple #[.int .u64 (bV s),.nilIface]):=by
 refine Ud func251 26 U3 fun w0=>TT 2 [0,1,2] Z<|TU 3 Z fun R a=>Uk (FP Tryz.parseU s d e f _ kr_) U7 fl_<|C4 5 [0,1,2,8,9] a Z<|TU 1 Z fun R a=>V0 false Z Z Z Z Z (.inr ⟨Z,Z⟩) kr_ Z Z<|TZ [0,1,2,8,9,18] a Z<|TW (fun b=>?_) fun b=>?_
 ·cases b
 refine TT 3 [6,7] Z<|Ui (G.dropAll (Uw U3 ?_));exact ⟨Z,Z⟩
theorem CK (C:Mem)(i:Nat)(h:i<100):Gives cx.P 269 [.int .i64 i] C (ah (bq i)):=by
 have h1:=Gives.ofCalls (f:=269) (args:=[.int .i64 i]) (P:=cx.P) kr_ (fun w=>Any.internal_strconv_small Tryz.small10 i h w) C;rw [dK] at h1;exact h1
theorem Bq (u:Nat):Lib.nDigits u=(bq u).length:=by rw [<- dK,Lib.decDigits_length]
theorem DC (C:Mem)(l:Tabs C)(u:Nat)(s:u<9223372036854775808):Gives cx.P 286 [.int .u64 u,.int .i64 10] C (ah (bq u)):=by
 refine Ud func286 32 U3 fun w0=>TT 1 [0,1] Z<|TT 2 [0,1,10] Z<|TW (fun g=>?_) fun g=>?_
 ·refine TT 2 [0,12] Z<|TW (fun e=>?_) fun e=>?_
  ·have h:u<100:=by
    have:(u:Int)<100:=by simpa using e
    omega
   exact TU 1 Z fun R a=>UJ (c:=(u:Int)) U8 (by rw [IntKind.wrap_i64];omega) fl_<|Uh (CK _ u h) U7<|C4 1 [4] a Z<|Ub U2<|⟨Z,Z⟩
  have h:100<=u:=by
   have:¬ (u:Int)<100:=by simpa using e
   omega
  have t:Lib.nDigits u<=19:=by
   rw [Bq];exact eE om_ om_
  refine TY fun R a=>Uo U5 fun i=>TZ [0,5] a Z<|TU 1 Z fun R a=>Uk (wC Tryz.nDig u om_ om_ _ l.pow.m_ kr_) U7 fl_<|C4 1 [0,5,6] a Z<|Uv [(3,3)] Z fun R a=>TX U6<|VP 0 (Lib.nDigits u) 24 U12 (fun _=>⟨.inl ⟨Z,Z⟩,.inr ⟨_,Z⟩,.inl ⟨Z,Z⟩,by omega,by omega,by decide⟩) U2<|TX U6<|D.call (yJ Tryz.fmt10 i 24 u 372 (List.replicate 24 (Value.int .u8 0)) om_ (fun j d=>(by rw [RZ,aU om_])) om_ _ kr_) Z (.inr dc_) U6 (Qh _) fl_ fun w _ z _ m=>TZ [5,6] a Z ?_;obtain ⟨_,rfl,cs,rfl,A,n⟩:=m;refine G.freeze 0 Z (fun o _ p=>?_);have q:(bq u).length=Lib.nDigits u:=(Bq u).symm;have k:Sl o 1 (.slice (some ⟨i,0,none⟩) ((bq u).map fun b=>[Value.int .u8 b.toNat]).length 24) ((bq u).map fun b=>[Value.int .u8 b.toNat]) :=
   Sl.ofBlock p (by intro r hr;obtain ⟨y,_,rfl⟩:=Qk.1 hr;rfl) (fun j v d=>by
    rw [gd,Qg] at d;cases f:(bq u)[j]? with
    | none=>rw [f] at d;cases d
    | some x=>rw [f] at d;cases d;simpa using n j x f) ap (by simp [maxLen])
  rw [al,q] at k;exact TU 1 Z fun R a=>VP 0 (Lib.nDigits u) 24 U12 (fun _=>⟨.inl ⟨Z,Z⟩,.inr ⟨_,Z⟩,.inl ⟨Z,Z⟩,by omega,by omega,by decide⟩) U2<|Vx k.m_ U11 fl_<|C4 1 [4] a Z<|Ub U2<|⟨Z,Z⟩
 exact absurd g dc_
theorem DD (C:Mem)(a:Tabs C)(u:Nat)(b:u<9223372036854775808):Gives cx.P 255 [.int .u64 u,.int .i64 10] C (ah (bq u)):=by
 exact Ud func255 8 U3 fun w0=>TT 1 [0,1] Z<|TU 2 Z fun R c=>Uh (DC _ a.m_ u b) U7<|C4 1 [4] c Z<|Ub U2<|⟨Z,Z⟩
theorem jD (C:Mem)(z:Int)(m:Nat)(d:m<=18):Gives cx.P 213 [ah (txt z),.int .i64 m] C (.tuple #[.int .i64 (if (txt z).length<=m then z else 0),.bool (decide ((txt z).length<=m))]):=by
 refine Ud func213 20 U3 fun w0=>TT 2 [0,1] Z<|TT 4 [0,11] Z<|TW (fun b=>?_) fun b=>?_
 ·have a:¬ (txt z).length<=m:=by
   have:(m:Int)<((txt z).length:Int):=by simpa using b
   omega
  refine TT 2 [4,5] Z<|Ui (G.dropAll (Uw U3 ?_));exact ⟨by rw [az a,QC a],Z⟩
 have a:(txt z).length<=m:=by
  have:¬ (m:Int)<((txt z).length:Int):=by simpa using b
  omega
 refine TU 1 Z fun R c=>Uk (zm Tryz.atoi z om_ _ kr_) U7 fl_<|C4 5 [6,7] c Z<|Ur [0,1,2,3,4] [] Z kr_ fun R e c=>Ua 2 Z<|V0 true Z Z Z Z Z (.inl ⟨Z,Z⟩) kr_ Z Z<|C4 2 [4,5] c Z<|Ui (G.dropAll (Uw U3 ?_));exact ⟨by rw [aU a,Qr a],Z⟩
theorem iV (C:Mem)(z:Int)(t:(bq z.natAbs).length<=1000000):Pur cx.P 214 [ah (txt z)] C fun u D=>∃ p,u=.agg ⟨[.bool (decide (z<0)),p]⟩/\NineC D p z.natAbs:=by
 obtain ⟨S,hS⟩:∃ S,bq z.natAbs=S:=⟨_,rfl⟩;have b:=(bC z.natAbs).1;have i:=(bC z.natAbs).2;rw [hS] at t b i;refine Ud func214 44 U3 fun w0=>TY fun R a=>Uo U5 fun d=>TZ [0,2] a Z<|TU 1 Z fun R a=>Uh (Hq _ (txt z) 45) U7 ?_;rw [dB,hS];refine C4 5 [2,3,4] a Z<|TU 2 Z fun R a=>Vd (S.length) (9) U6 om_ (.inl ⟨Z,by omega⟩) U2<|UG (((S.length / 9+1:Nat):Int)) U4 om_ om_ om_ U2<|UY U9 (Qf _) (by show 8*(S.length / 9+1)<=281474976710656;omega) (by simp only [maxLen];omega) fl_ fun L=>C4 1 [2,3,4,5] a Z ?_;rw [show (ah S:Value)=ah (S.take S.length) by rw [Qo]];refine G.loop (fun fr C' k v=>∃ (q j:Nat)(out:List Nat)(w:Value),(q<=S.length/\(q=0∨q+9*j=S.length)/\out.length=j/\j<=S.length/\(q=0∨j<S.length)/\Dig9 out/\bB out=bV (S.drop q))/\fr=[(2,[],.pointer (some ⟨d,0,none⟩)),(3,[],ah (S.take q)),(4,[],.bool (decide (z<0))),(5,[],w)]/\k=[.arr w 160 1 j (out.map cj).flatten,.obj d (.cells ⟨[.bool false,.slice none 0 0]⟩ 307 (0,0))]/\v=q+1) (hn_ [2,3,4,5] Z) ⟨S.length,0,[],_,⟨Qb _,by omega,Z,Qf _,by have:=QY.2 b.2.1;omega,(fun x y=>(by cases y)),by rw [Rj];rfl⟩,Z,Z,Z⟩ (fun fr M N m _ A=>?_);obtain ⟨q,j,out,w,⟨O,Q,e,T,U,l,f⟩,rfl,rfl,rfl⟩:=A;refine TT 3 [2,3,4,5,21] Z<|TW (fun g=>?_) fun g=>?_
 ·have B:(⟨(S.take q).toArray⟩:ByteArray).data.toList.length=q:=by
   show (S.take q).length=q;rw [Qq];omega
  have E:(S.take q).length=q:=B;have o:0<q:=by
   have h:(0:Int)<(((⟨(S.take q).toArray⟩:ByteArray).data.toList.length:Nat):Int):=by simpa using g
   omega
  have F:(gE S (q-9) q).length<=9/\0<(gE S (q-9) q).length:=by
   unfold gE;rw [Si,Qq];omega
  have H:∀ c∈gE S (q-9) q,eN c=true:=fun c I=>b.1 c (Ro (S2 I));refine TU 2 Z fun R a=>UG (((q:Int)-9)) U4 om_ om_ om_ U2<|D.max (((q-9:Nat):Int)) U6 om_ U2<|C4 1 [2,3,4,5,6] a Z<|TU 2 Z fun R a=>UW (q-9) (S.take q).length U9 (fun _=>⟨.inr ⟨_,Z⟩,.inl ⟨Z,Z⟩,.inl ⟨Z,Z⟩,by omega,Qb _,Qb _⟩) U2 ?_;rw [show (((S.take q).take (S.take q).length).drop (q-9))=gE S (q-9) q from by rw [Qo];rfl];refine Uk (FQ _ (gE S (q-9) q) H (QY.1 F.2) om_) U7 fl_<|C4 5 [2,3,4,5,6,7] a Z<|Ur [0,1,4,5,6,2,3,7,8] [] Z kr_ fun R V a=>Ua 4 Z<|UW 0 (q-9) U9 (fun _=>⟨.inl ⟨Z,Z⟩,.inr ⟨_,Z⟩,.inl ⟨Z,Z⟩,by omega,by omega,Qb _⟩) U2<|Uq [cj (bV (gE S (q-9) q))] U12 fun W _ _ J=>D.append (j:=0) U11 J Z ax (by show (j+1)*8<=_;omega) fl_ fun r=>C4 2 [2,3,4,5] a Z ?_;rw [show ((S.take q).take (q-9)).drop 0=S.take (q-9) from by rw [Rm,Th,RC om_]];refine Um (L':=[.arr r 160 1 (j+1) ((out++[bV (gE S (q-9) q)]).map cj).flatten,.obj d (.cells ⟨[.bool false,.slice none 0 0]⟩ 307 (0,0))]) (by simp [cj])<|Ug (m':=q-9+1) om_ mup (hn_ [2,3,4,5] Z) ⟨q-9,j+1,out++[bV (gE S (q-9) q)],r,⟨by omega,by omega,by simp [e],by omega,by omega,l.snoc (Km b.1 om_),CD om_ e om_ f⟩,Z,Z,Z⟩
 have o:q=0:=by
  have E:(S.take q).length=q:=by rw [Qq];omega
  have h:¬ (0:Int)<(((S.take q).length:Nat):Int):=by simpa using g
  omega
 subst o;rw [Rm,i] at f;refine Uv [(2,3)] Z fun R a=>Ua 2 Z<|D.call (gn _ _ out (n:=j) e) Z (.inr dc_) U6 (Qh _) fl_ (fun X _ Y _ K=>?_);obtain ⟨rfl,s⟩:=K;obtain ⟨Au,cu,rfl,_⟩:=id s;refine Un [.bool (decide (z<0)),_] U8<|Uf (j:=0) U12<|TZ [2] a Z<|Ui (UN af U4 ?_);exact ⟨Z,_,Z,El out,io l,by rw [im,f],s⟩
theorem DL (k:Nat)(s:Str):bV (List.replicate k 48++s)=bV s:=by
 induction k with
 | zero=>rfl
 | succ k a=>rw [Rx,RU,dC,a];simp
theorem MN (h:x<1000000000):mC 9 x=List.replicate (9-(bq x).length) 48++bq x:=by
 obtain ⟨h1,h2,h3⟩:=kJ 9 x h;obtain ⟨h4,h5⟩:=bC x;have b:(bq x).length<=9:=eE om_ om_;refine yU h2 (fun c a=>?_) (by rw [h1];simp;omega) (by rw [h3,DL,h5]);rcases Qt.1 a with a | a
 ·rw [Sj a];rfl
 exact h4.1 c a
def KO (l:List Nat)(j:Nat)(s:Str):Prop:=(j=0/\s=[])∨(0<j/\vu s/\bV s=bB (l.drop (l.length-j))/\0<bV s)
theorem Do (b:xV l)(d:j<l.length)(h:KO l j s):KO l (j+1) (s++if j=0 then bq (g9 l (l.length-1-j)) else mC 9 (g9 l (l.length-1-j))):=by
 have a:l[l.length-1-j]?=some (g9 l (l.length-1-j)):=wX om_;refine .inr ⟨by omega, ?_⟩;rw [show l.length-(j+1)=l.length-1-j by omega];rcases h with ⟨rfl,rfl⟩ | ⟨h0,h1,h2,h3⟩
 ·rw [aU rfl,R3];obtain ⟨h4,h5⟩:=bC (g9 l (l.length-1-0));have c:bB (l.drop (l.length-1-0))=g9 l (l.length-1-0):=by
   rw [QG om_,show l.length-1-0+1=l.length by omega,Rj];rw [aj om_] at a;rw [RK a];show _+B9*0=_;omega
  refine ⟨h4,by rw [h5,c], ?_⟩;rw [h5];rcases RD (g9 l (l.length-1-0)) with h | h
  ·rw [h] at a;exact absurd (by rw [Sp];exact a) b.2
  exact h
 rw [az om_];rw [show l.length-j=l.length-1-j+1 by omega] at h2;exact Dz b.1 a h1 h2 h3
theorem jS (C:Mem)(V:Tabs C)(m:Bool)(v:Value)(n:Nat)(W:NineC C v n)(X:n<B9 ^ 100000):Gives cx.P 216 [.agg ⟨[.bool m,v]⟩] C (ah (txt (sgZ m n))):=by
 obtain ⟨ls,J,K,aj,hs⟩:=W.get X;obtain ⟨A,c,rfl,_⟩:=id hs;simp only [al] at hs ⊢;refine Vr kr_ func216 Z 34 Z Z fun w0=>TY fun R a=>Up U6 fun L=>C4 1 [1] a Z<|G.freeze 0 Z fun _ _ o=>TU 1 Z fun R a=>TV (PtrTo.block (Mem.get o mup) _) U8<|C4 2 [1,10] a Z<|TW (fun y=>?_) fun y=>?_
 ·have M:ls=[]:=by
   have:(ls.length:Int)=0:=by simpa using y
   exact QU om_
  refine TT 1 [2] Z<|Ui (VB (K8 Z Z) ?_ Kc);subst M;refine ⟨?_,Z⟩;rw [<- K,(zW (sgZ m (bB []))).2 (by cases m <;> rfl)];rfl
 have M:0<ls.length:=by
  have:¬ (ls.length:Int)=0:=by simpa using y
  omega
 obtain ⟨d,g⟩:∃ d:Str,(if m then [45] else [])=d:=⟨_,rfl⟩;have ak:d.length<=1:=by rw [<- g];split <;> simp
 refine TY fun R a=>Uo U5 fun b=>TZ [1,3] a Z<|G.nilArr 5 1<|G.perm (L':=[.obj b (.cells ⟨[.pointer none,.slice none 0 0]⟩ 354 (0,0)),.arr (.slice none 0 0) 5 1 0 []]) (List.Perm.swap _ _ _)<|TU 1 Z fun R a=>TV (PtrTo.block (Mem.get o mup) _) U8<|TZ [1,3,12] a Z<|G.cut (fun fr C' e z=>∃ (q:Option Addr)(w:Value),(q=none∨q=some ⟨b,0,none⟩)/\fr=[(1,[],.pointer (some ⟨L,0,none⟩)),(3,[],.pointer (some ⟨b,0,none⟩))]/\e=[.obj b (.cells ⟨[.pointer q,w]⟩ 354 (0,0)),.arr w 5 1 d.length (u8s d)]) ?_ (fun fr _ an z _ f=>?_)
 ·refine TW (fun B=>?_) fun B=>?_
  ·rw [aU B] at g;subst g;refine Uv [(0,3)] Z fun R a=>D.call (vw _ b none (.slice none 0 0) [] 45 (.inl Z) am) Z (.inr dc_) U6 (Qh _) fl_ fun ao _ aq _ Y=>TZ [1,3] a Z ?_;obtain ⟨w1,rfl⟩:=Y;refine Uj 0 mup (hn_ [1,3] Z) ⟨some ⟨b,0,none⟩,w1,.inr Z,Z,Z⟩
  rw [az (by rw [B];decide)] at g;subst g;refine Uj 0 mup (hn_ [1,3] Z) ⟨none,.slice none 0 0,.inl Z,Z,Z⟩
 obtain ⟨q ,w,hq,rfl,rfl⟩:=f;refine TU 1 Z fun R a=>TV (PtrTo.block (Mem.get o mup) _) U8<|UF (Cb _ A ls.length c) U7 fun ar _ _ aa=>TZ [1,3,16] a Z ?_;obtain ⟨bb,rfl,ab⟩:=aa;refine Um (L':=[.obj b (.cells ⟨[.pointer q,w]⟩ 354 (0,0)),.arr w 5 1 (d++[]).length (u8s (d++[]))]) (by rw [QA])<|G.rangeFunc Z Z Z kr_ (sR _ bb _ _ ls ab hs.m_ om_) (fun j e=>∃ (q:Option Addr)(w:Value)(s:Str),((q=none∨q=some ⟨b,0,none⟩)/\KO ls j s/\s.length<=9*j)/\e=[.obj b (.cells ⟨[.pointer q,w]⟩ 354 (0,0)),.arr w 5 1 (d++s).length (u8s (d++s))]) ⟨q,w,[],⟨hq,.inl ⟨Z,Z⟩,by simp⟩,Z⟩ Z (fun _ _=>rfl) (fun u v=>[(1,[],.pointer (some ⟨L,0,none⟩)),(3,[],.pointer (some ⟨b,0,none⟩)),(4,[],u),(5,[],v)]) (fun l u v W1 e=>?_) (fun l j u v e W1 f E=>?_) (fun bD e f=>?_)
 ·exact TT 1 [1,3,4,18] Z<|TT 1 [1,3,4,5] Z<|V8 ⟨Z,Z,Z,Z,trivial⟩
 ·obtain ⟨q,w,s,⟨F,p,N⟩,rfl⟩:=f;have O:j<ls.length:=by have:=(aF.1 E).1;rwa [fK] at this
  rw [uY O] at E;cases E
  have Q:=Do J O p;obtain ⟨x,H⟩:∃ x,g9 ls (ls.length-1-j)=x:=⟨_,rfl⟩;have i:x<B9:=by rw [<- H];exact kN J.1 _
  rw [show ls.getD (ls.length-1-j) 0=x from H];rw [H] at Q;have au:(bq x).length<=9:=eE (by rw [B9v] at i;omega) om_;have ac:=MN (x:=x) (by rw [B9v] at i;exact i);have av:(mC 9 x).length=9:=(kJ 9 x (by rw [B9v] at i;omega)).1;refine TU 1 Z fun R a=>Uk (DD _ V.m_ x (by rw [B9v] at i;omega)) U7 fl_<|C4 1 [1,3,4,6] a Z<|TU 2 Z fun R a=>TV (PtrTo.block (Mem.get o mup) _) U8<|TX U6<|Ue _ U7<|C4 1 [3,6,26] a Z<|G.cut (fun fr C' e z=>∃ (k:Option Addr)(r:Value)(t:Str),((k=none∨k=some ⟨b,0,none⟩)/\t++bq x=d++(s++if j=0 then bq x else mC 9 x)/\t.length<=9*j+10)/\fr=[(3,[],.pointer (some ⟨b,0,none⟩)),(6,[],ah (bq x))]/\e=[.obj b (.cells ⟨[.pointer k,r]⟩ 354 (0,0)),.arr r 5 1 t.length (u8s t)]) ?_ (fun fr _ aw z _ f=>?_)
  ·refine TW (fun I=>?_) fun I=>?_
   ·have S:0<j:=by
     have:((ls.length-1-j:Nat):Int)<(ls.length:Int)-1:=by simpa using I
     omega
    refine Uv [(3,3)] Z fun R a=>Ua 2 Z<|UW (bq x).length 9 U9 (fun _=>⟨.inr ⟨_,Z⟩,.inl ⟨Z,Z⟩,.inl ⟨Z,Z⟩,by omega,Qb _,Qb _⟩) U2 ?_;rw [show ((([48,48,48,48,48,48,48,48,48]:Str).take 9).drop (bq x).length)=List.replicate (9-(bq x).length) 48 from by rw [show (([48,48,48,48,48,48,48,48,48]:Str).take 9)=List.replicate 9 48 from rfl,List.drop_replicate]];refine D.call (kh _ b q w (d++s) (List.replicate (9-(bq x).length) 48) F ap) Z (.inr dc_) U6 (Qh _) fl_ fun ax _ ay _ ad=>TZ [3,6] a Z ?_;obtain ⟨w1,rfl⟩:=ad;refine Uj 0 mup (hn_ [3,6] Z) ⟨some ⟨b,0,none⟩,w1,_,⟨.inr Z,by rw [az om_,ac];simp [],by simp;omega⟩,Z,Z⟩
   have S:j=0:=by
    have:¬ ((ls.length-1-j:Nat):Int)<(ls.length:Int)-1:=by simpa using I
    omega
   refine Uj 0 mup (hn_ [3,6] Z) ⟨q,w,d++s,⟨F,by rw [aU S,QJ],by simp;omega⟩,Z,Z⟩
  obtain ⟨k ,r ,t,⟨ae,af,aA⟩,rfl,rfl⟩:=f;refine Uv [(1,3)] Z fun R a=>TX U6<|D.call (kh _ b k r t (bq x) ae om_) Z (.inr dc_) U6 (Qh _) fl_ fun aB _ aC _ ag=>Vc [] trivial (a _ _ _ Z ?_);obtain ⟨w4,rfl⟩:=ag;rw [af];exact VM (R:=fun e=>∃ (q:Option Addr)(w:Value)(s:Str),((q=none∨q=some ⟨b,0,none⟩)/\KO ls (j+1) s/\s.length<=9*(j+1))/\e=[.obj b (.cells ⟨[.pointer q,w]⟩ 354 (0,0)),.arr w 5 1 (d++s).length (u8s (d++s))]) (Qh _) ⟨some ⟨b,0,none⟩,w4,_,⟨.inr Z,Q,by rw [Qi];split <;> omega⟩,Z⟩
 obtain ⟨q,w,s,⟨F,p,N⟩,rfl⟩:=f;rw [fK] at p;obtain ⟨aD,T,U,aE⟩:0<ls.length/\vu s/\bV s=bB (ls.drop (ls.length-ls.length))/\0<bV s:=p.elim (fun h=>by omega) id;rw [SE,Rm,K] at U;refine G.perm (L':=[.obj b (.cells ⟨[.pointer q,w]⟩ 354 (0,0)),.arr w 5 1 (d++s).length (u8s (d++s)),.obj bD (.deferred (some []))]) (pkL [1,1,0] Z)<|Uv [(0,3)] Z fun R a=>D.call (DW _ b q w (d++s) (fun h=>T.2.1 (Tm.1 h).2) (by simp;rw [fK] at N;omega)) Z (.inr dc_) U6 (Qh _) fl_ fun aG _ aH _ ai=>C4 1 [2] a Z ?_;obtain ⟨rfl,rfl⟩:=ai;refine Ui (V7 (K8 Z Z) ?_);refine ⟨?_,Z⟩;have es:s=bq n:=by rw [<- U];exact oo T
 rw [zX m n (fun _=>by omega),es,<- g];cases m <;> rfl
theorem sy (a:0<Q):(x+B9*t) / Q=B9*(t / Q)+(x+B9*(t % Q)) / Q/\(x+B9*t) % Q=(x+B9*(t % Q)) % Q:=by
 have h:x+B9*t=(x+B9*(t % Q))+Q*(B9*(t / Q)):=by
  have h1:=Ta t Q;have h2:B9*t=B9*(t % Q)+B9*(Q*(t / Q)):=by rw [<- Rs,h1]
  rw [h2,TP];omega
 rw [h,S3 _ _ a,Nat.add_mul_mod_self_left];exact ⟨by omega,Z⟩
theorem mb (a:0<Q)(b:x<B9):(x+B9*(t % Q)) / Q<B9:=by
 rw [Sg a];have h1:=QV t a;have h2:B9*(t % Q+1)<=B9*Q:=RF _ h1;rw [Rs] at h2;omega
theorem fp (h:j<l.length):bB (l.drop j)=g9 l j+B9*bB (l.drop (j+1)):=by
 rw [QG h,bB,yH (aj h)]
theorem li (h:j<l.length):bB ((l.set j x).drop j)=x+B9*bB (l.drop (j+1)):=by
 rw [QG (by simpa using h),bB,List.getElem_set_self,List.drop_set_of_lt om_]
theorem sx (C:Mem)(Y M:Value)(m d:Nat)(ha:NineC C Y m)(hm:m<B9 ^ 200000)(F:Sl C 1 M ([d].map cj))(H:0<d)(hd:d<B9) :
  Pur cx.P 248 [Y,M] C fun u D=>∃ q r,u=.tuple #[q,r]/\NineC D q (m / d)/\NineC D r (m % d):=by
 have aa:NineC C M d:=⟨[d],⟨fun x o=>(by rw [Qx.1 o];exact hd),by simp;omega⟩,by show d+B9*0=d;omega,F⟩;have N:=ha;obtain ⟨a,ao,ab,aG,O⟩:=ha.get hm;obtain ⟨A0,c0,rfl,_⟩:=id O;obtain ⟨B0,d0,rfl,aH⟩:=id F;simp only [al,aI] at F aa O N ⊢;have p:=B9v;refine Vr kr_ func248 Z 146 Z Z fun w0=>TY fun R b=>Up U6 fun b3=>Uo U5 fun g=>C4 1 [0,3,4,5] b Z<|G.freeze 1 Z fun _ _ K=>TU 1 Z fun R b=>TV (PtrTo.block (Mem.get K mup) _) U8<|Uh (pu _ N.m_ aa.m_) U7<|C4 1 [0,3,4,5,17] b Z<|TW (fun Q=>?_) fun Q=>?_
 ·have S:m<d:=by
   have:jE m d<0:=by simpa using Q
   exact iU.1 this
  refine TU 1 Z fun R b=>Uf (j:=0) U12<|C4 1 [4,5] b Z<|Ui (VB (AK af Z Z Z Z Z) ?_ Kc);refine ⟨Z,_,_,Z, ?_, ?_⟩
  ·rw [Sz S];exact NineC.zero _
  rw [SP S];exact N.mono mup
 have S:d<=m:=by
  have h:¬ jE m d<0:=by simpa using Q
  rw [iU] at h;omega
 obtain ⟨n,hn⟩:∃ n,a.length=n:=⟨_,rfl⟩;refine TY fun R b=>TV (PtrTo.block (Mem.get K mup) _) U8<|C4 2 [0,3,4,5,21] b Z<|TW (fun ad=>?_) fun ad=>?_
 ·refine TU 2 Z fun R b=>UY U9 (Qb _) (by show 8*a.length<=281474976710656;omega) (by simp only [maxLen];omega) fl_ fun f=>Uf (j:=1) U12<|TZ [0,3,4] b Z<|TY fun R b=>Uo U5 fun k=>Uf (j:=0) U12<|TZ [0,3,4,6] b Z<|TU 1 Z fun R b=>UF (Cb _ A0 a.length c0) U7 fun aJ _ _ ap=>TZ [3,4,6,26] b Z ?_;obtain ⟨bb,rfl,aq⟩:=ap;refine Um (L':=[.obj k (.cells ⟨[.int .u64 ((bB (a.drop (a.length-0)) % d:Nat):Int)]⟩ 160 (0,0)),.obj g (.cells ⟨[qU f a.length a.length]⟩ 305 (0,0)),.arr (qU f a.length a.length) 160 1 a.length ((List.replicate a.length 0).map cj).flatten]) (by rw [<- En,SY,Rj,show bB []=0 from Z,Nat.zero_mod];rfl)<|G.rangeFunc Z Z Z kr_ (sR _ bb _ _ a aq O.m_ om_) (fun j e=>∃ (c:List Nat),(c.length=a.length/\Dig9 c/\bB (c.drop (a.length-j))=bB (a.drop (a.length-j)) / d)/\e=[.obj k (.cells ⟨[.int .u64 ((bB (a.drop (a.length-j)) % d:Nat):Int)]⟩ 160 (0,0)),.obj g (.cells ⟨[qU f a.length a.length]⟩ 305 (0,0)),.arr (qU f a.length a.length) 160 1 a.length (c.map cj).flatten]) ⟨List.replicate a.length 0,⟨RE,(fun x o=>by rw [Sj o];decide),by rw [SY,Rj,SV am];simp [bB]⟩,Z⟩ Z (fun _ _=>rfl) (fun u v=>[(3,[],.pointer (some ⟨b3,0,none⟩)),(4,[],.pointer (some ⟨g,0,none⟩)),(6,[],.pointer (some ⟨k,0,none⟩)),(7,[],u),(8,[],v)]) (fun l u v W1 e=>?_) (fun l j u v e W1 s U=>?_) (fun bD e s=>?_)
  ·exact TT 1 [3,4,6,7,28] Z<|TT 1 [3,4,6,7,8] Z<|V8 ⟨Z,Z,Z,Z,Z,trivial⟩
  ·obtain ⟨c,⟨I,L,B⟩,rfl⟩:=s;have ar:j<a.length:=by have:=(aF.1 U).1;rwa [fK] at this
   rw [uY ar] at U;cases U
   obtain ⟨i,hi⟩:∃ i,a.length-1-j=i:=⟨_,rfl⟩;have ag:a.length-j=i+1:=by omega
   obtain ⟨T,hT⟩:∃ T,bB (a.drop (i+1))=T:=⟨_,rfl⟩;have au:=kN ao.1 i;have aK:=QV T H;have hX:T % d*B9+g9 a i<18446744073709551616:=by
    have:=Q9 B9 (show T % d<=999999999 by omega);rw [p] at this ⊢;omega
   rw [hi,ag,hT,show a.getD i 0=g9 a i from rfl];rw [ag,hT] at B;have av:T % d*B9+g9 a i=g9 a i+B9*(T % d):=by rw [Q0,SD]
   have V:=sy (t:=T) (x:=g9 a i) H;have ah:=mb (t:=T) H au;rw [<- av] at V ah;refine TY fun R b=>Uc af U9<|D.int (((T % d*B9:Nat):Int)) U4 (by rw [show (1000000000:Int)=((B9:Nat):Int) from Z,<- Q6,IntKind.wrap_u64];omega) U2<|TX U6<|D.int (((T % d*B9+g9 a i:Nat):Int)) U4 (by rw [IntKind.wrap_u64];omega) U2<|Uf (j:=0) U12<|TZ [3,4,6,7] b Z<|G.cut (fun fr C' e W=>(True)/\fr=[]/\e=[.obj k (.cells ⟨[.int .u64 (((T % d*B9+g9 a i) % d:Nat):Int)]⟩ 160 (0,0)),.arr (qU f a.length a.length) 160 1 a.length (aD (c.map cj).flatten [Value.int .u64 (((T % d*B9+g9 a i) / d:Nat):Int)] (i*1)),.obj g (.cells ⟨[qU f a.length a.length]⟩ 305 (0,0))]) ?_ (fun fr aL aM W aN s=>?_)
   ·refine UP (.cut [0,1,2,3,4,5,6,8,9,10,12] (.alt 7 (.fin [11,13,14]) (.alt 13 (.fin [7,11,14]) .stop))) [] Z Z kr_ fun R p b w=>Uc ae U9<|TX U6<|Uc af U9<|TV (PtrTo.block (Mem.get K mup) _) U8<|Ul F.m_ U10 om_ (rfl:([d].map cj)[(0:Int).toNat]?=some (cj d)) fl_ fun aO aw=>TV aw U8<|Vd (T % d*B9+g9 a i) (d) U6 om_ (.inr ⟨Z,by omega⟩) U2<|TV (PtrTo.block (Mem.get K mup) _) U8<|Ul F.m_ U10 om_ (rfl:([d].map cj)[(0:Int).toNat]?=some (cj d)) fl_ fun aP ax=>TV ax U8<|UA (i*1) U10 ai U2<|UE w Z ⟨?_, ?_,trivial⟩
    ·first | refine Vq af U9 ?_ | refine Vq ae U9 ?_
     refine UU (T % d*B9+g9 a i) (d) U6 om_ U2<|UD (j:=2) U11 (by show i*1+1<=_;rw [bQ eD,I];omega)<|Uf (j:=1) U12<|Vc [] trivial (b _ _ _ Z ?_);clear b p w R;exact Uj 0 (Mem.le.refl _) (fr':=[]) trivial ⟨trivial,Z,Z⟩
    refine UD (j:=2) U11 (by show i*1+1<=_;rw [bQ eD,I];omega) ?_
    first | refine Vq af U9 ?_ | refine Vq ae U9 ?_
    refine UU (T % d*B9+g9 a i) (d) U6 om_ U2<|Uf (j:=1) U12<|Vc [] trivial (b _ _ _ Z ?_);clear b p w R;exact Uj 0 (Mem.le.refl _) (fr':=[]) trivial ⟨trivial,Z,Z⟩
   obtain ⟨_,rfl,rfl⟩:=s;refine G.perm (L':=[.obj k (.cells ⟨[.int .u64 (((T % d*B9+g9 a i) % d:Nat):Int)]⟩ 160 (0,0)),.obj g (.cells ⟨[qU f a.length a.length]⟩ 305 (0,0)),.arr (qU f a.length a.length) 160 1 a.length (aD (c.map cj).flatten [Value.int .u64 (((T % d*B9+g9 a i) / d:Nat):Int)] (i*1))]) (pkL [0,1,0] Z) ?_;have aj:bB (a.drop i)=g9 a i+B9*T:=by rw [fp om_,hT]
   have ay:bB (a.drop (a.length-(j+1))) % d=(T % d*B9+g9 a i) % d:=by rw [show a.length-(j+1)=i by omega,aj,V.2]
   exact Um (L':=[.obj k (.cells ⟨[.int .u64 ((bB (a.drop (a.length-(j+1))) % d:Nat):Int)]⟩ 160 (0,0)),.obj g (.cells ⟨[qU f a.length a.length]⟩ 305 (0,0)),.arr (qU f a.length a.length) 160 1 a.length ((c.set i ((T % d*B9+g9 a i) / d)).map cj).flatten]) (by rw [ay,<- bN eD _ (by omega:i<c.length)];rfl)<|VM (R:=fun e=>∃ (c:List Nat),(c.length=a.length/\Dig9 c/\bB (c.drop (a.length-(j+1)))=bB (a.drop (a.length-(j+1))) / d)/\e=[.obj k (.cells ⟨[.int .u64 ((bB (a.drop (a.length-(j+1))) % d:Nat):Int)]⟩ 160 (0,0)),.obj g (.cells ⟨[qU f a.length a.length]⟩ 305 (0,0)),.arr (qU f a.length a.length) 160 1 a.length (c.map cj).flatten]) (Qh _) ⟨c.set i ((T % d*B9+g9 a i) / d),⟨by simp [I],L.set ah,by rw [show a.length-(j+1)=i by omega,aj,li om_,B,V.1];omega⟩,Z⟩
  obtain ⟨c,⟨I,L,B⟩,rfl⟩:=s;rw [fK,SE,Rm,Rm,ab] at B;rw [fK,SE,Rm,ab];refine G.freezeArr 3 (c.map cj) rfl rfl (by intro r hr;obtain ⟨y,_,rfl⟩:=Qk.1 hr;rfl) (by rw [al,I]) fun Cq aQ ak=>G.cut (fun fr C' e W=>∃ (E z:Value),(NineC C' E (m / d)/\NineC C' z (m % d))/\fr=[(4,[],.pointer (some ⟨g,0,none⟩)),(5,[],z)]/\e=[.obj g (.cells ⟨[E]⟩ 305 (0,0)),.obj bD (.deferred (some [])),.obj k (.cells ⟨[.int .u64 ((m % d:Nat):Int)]⟩ 160 (0,0))]) ?_ (fun fr aR aS W aT s=>?_)
  ·refine UP (.cut [0,2] (.alt 1 (.fin [3,4,5,6]) (.alt 3 (.fin [1,4,5,6]) .stop))) [] Z Z kr_ fun R p b w=>Uc ac U9<|Uc ae U9<|UE w Z ⟨?_, ?_,trivial⟩
   ·refine UF (vF _ L ak.m_) U7 fun E az _ A=>Uq [cj (m % d)] U12 fun aA aB _ X=>Uz (vF _ (l:=[m % d]) (fun x o=>by rw [Qx.1 o];have:=QV m H;omega) X.m_) U7 fl_ (fun z aC _ J=>?_);obtain ⟨A7,m7,c7,rfl⟩:=A.form;refine Uf (j:=2) U12<|TX U6<|TZ [4,5] b Z ?_;clear b p w R;rw [show bB [m % d]=m % d from (by show m % d+B9*0=m % d;omega)] at J;rw [B] at A;exact Uj 0 mup (hn_ [4,5] Z) ⟨_,z,⟨A.mono mup,J.mono mup⟩,Z,Z⟩
   refine Uq [cj (m % d)] U12 fun aA aB _ X=>UF (vF _ L ak.m_) U7 fun E az _ A=>Uz (vF _ (l:=[m % d]) (fun x o=>by rw [Qx.1 o];have:=QV m H;omega) X.m_) U7 fl_ (fun z aC _ J=>?_);obtain ⟨A7,m7,c7,rfl⟩:=A.form;refine Uf (j:=2) U12<|TX U6<|TZ [4,5] b Z ?_;clear b p w R;rw [show bB [m % d]=m % d from (by show m % d+B9*0=m % d;omega)] at J;rw [B] at A;exact Uj 0 mup (hn_ [4,5] Z) ⟨_,z,⟨A.mono mup,J.mono mup⟩,Z,Z⟩
  obtain ⟨E,z,⟨an,aE⟩,rfl,rfl⟩:=s;refine G.perm (L':=[.obj bD (.deferred (some [])),.obj g (.cells ⟨[E]⟩ 305 (0,0)),.obj k (.cells ⟨[.int .u64 ((m % d:Nat):Int)]⟩ 160 (0,0))]) (pkL [1,0,0] Z) ?_;obtain ⟨A7,m7,c7,rfl⟩:=an.form;refine Ui (V7 (AK af Z Z Z Z Z) ?_);exact ⟨Z,_,_,Z,an,aE⟩
 exact absurd ad dc_
theorem vB (h:Dig9 l)(a:k<=l.length):bB l / B9 ^ k=bB (l.drop k):=by
 have e:bB l=bB (l.take k)+B9 ^ k*bB (l.drop k):=by
  conv=>lhs;rw [<- Rh k l]
  rw [fw,Qq,RC a]
 have h1:=iM (h.take k);rw [Qq,RC a] at h1;rw [e,S3 _ _ (SC dc_),Sz h1,Rz]
theorem ux {b a:List Nat}(f:xV b)(c:xV a)(j:0<a.length)(m:a.length<=b.length):bB b / bB a<=bB (b.drop (a.length-1)) / g9 a (a.length-1)/\0<g9 a (a.length-1):=by
 have d:bB (a.drop (a.length-1))=g9 a (a.length-1):=by
  rw [fp om_,show a.length-1+1=a.length by omega,Rj];show _+B9*0=_;omega
 have h1:=vB c.1 (k:=a.length-1) om_;have h2:=vB f.1 (k:=a.length-1) om_;have e:0<g9 a (a.length-1):=by
  rcases RD (g9 a (a.length-1)) with h | h
  ·have h3:=wX (l:=a) (i:=a.length-1) om_;rw [h] at h3;exact absurd (by rw [Sp];exact h3) c.2
  exact h
 refine ⟨?_,e⟩;rw [<- h2,<- d,<- h1,Nat.div_div_eq_div_mul];have g:0<B9 ^ (a.length-1):=SC dc_;rw [d] at h1;refine Nat.div_le_div_left (Nat.mul_div_le _ _) ?_;rw [h1];exact SL g e
theorem Bx (h:l.length=k+1):bB (l.drop k)=g9 l k:=by
 rw [fp om_,show k+1=l.length by omega,Rj];show _+B9*0=_;omega
theorem JN (h:l.length=k+2):bB (l.drop k)=g9 l (k+1)*B9+g9 l k:=by
 rw [fp om_,Bx (k:=k+1) om_,Q0];omega
theorem zj {a b:List Nat}(c:xV a)(d:xV b)(h:bB b<=bB a):b.length<=a.length:=by
 rcases QL a.length b.length with h1 | h1
 ·have:=uo c.1 d h1;omega
 exact h1
theorem xA {a b:List Nat}(c:xV a)(d:xV b)(h:bB a<B9*bB b):a.length<=b.length+1:=by
 have h2:=iM d.1;refine sN c (Rt h ?_);rw [Ru,Q0];exact Q9 _ (Nat.le_of_lt h2)
theorem jz {f:Nat}(a:m<B9 ^ k)(b:f<B9):m*f<B9 ^ (k+1):=by
 rw [Ru];exact Sb a b
theorem Pb (h:x<B9*a)(b:a<B9 ^ k):x<B9 ^ (k+1):=by
 rw [Ru,Q0 _ B9];exact Ss h (Nat.mul_lt_mul_of_pos_left b dc_)
theorem KN (l:List Nat):(l.map cj).all (fun r=>r.all mD)=true:=by
 rw [List.all_map,Qv];intro x _;rfl
theorem DK (C:Mem)(va vb:Value)(m n:Nat)(ha:NineC C va m)(hb:NineC C vb n)(hm:m<B9 ^ 100000)(aF:B9<=n) :
  Pur cx.P 248 [va,vb] C fun u D=>∃ q r,u=.tuple #[q,r]/\NineC D q (m / n)/\NineC D r (m % n):=by
 have aG:0<n:=Rt dc_ aF;have ac:=ha;have ad:=hb;obtain ⟨B,Q,bE,ag⟩:=hb;obtain ⟨A0,a0,c0,rfl⟩:=ha.form;obtain ⟨B0,d0,rfl,a2,bF,_⟩:=id ag;simp only [al] at ag ad a2 ⊢;have bG:maxLen<=9223372036854775807:=by simp [maxLen]
 have S:=B9v;have bH:2<=B.length:=by
  rcases QL B.length 2 with h | h
  ·have h2:=iM Q.1;have h3:B9 ^ B.length<=B9 ^ 1:=QD dc_ om_;rw [Nat.pow_one] at h3;omega
  exact h
 refine Vr kr_ func248 Z 146 Z Z (fun w0=>?_);refine TY fun R a=>?_;refine Up U6 (fun b3=>?_);refine Uo U5 (fun e=>?_);refine C4 1 [0,3,4,5] a Z ?_;clear a R;refine TU 1 Z fun R a=>?_
 skip
 refine Uc ae U9 ?_;refine Uh (pu _ ac.m_ ad.m_) U7 ?_;refine C4 1 [0,3,4,5,17] a Z ?_;clear a R;refine TW (fun ah=>?_) fun ah=>?_
 ·have U:m<n:=by
   have:jE m n<0:=by simpa using ah
   exact iU.1 this
  refine TU 1 Z fun R a=>?_;refine Uf (j:=0) U12 ?_;refine C4 1 [4,5] a Z ?_;clear a R;refine Ui (VB (AK af Z Z Z Z Z) ?_ Kc);refine ⟨Z,_,_,Z, ?_, ?_⟩
  ·rw [Sz U];exact NineC.zero _
  rw [SP U];exact ac.mono mup
 have U:n<=m:=by
  have h:¬ jE m n<0:=by simpa using ah
  rw [iU] at h;omega
 refine TY fun R a=>?_;refine Uc ae U9 ?_;refine C4 2 [0,3,4,5,21] a Z ?_;clear a R;refine TW (fun aH=>?_) fun aH=>?_
 ·exact absurd aH ap
 have bI:=kN Q.1 (B.length-1);have a3:(B.map cj)[((B.length:Int)-1).toNat]?=some (cj (g9 B (B.length-1))):=by
  rw [show ((B.length:Int)-1).toNat=B.length-1 by omega];exact jh om_
 obtain ⟨f,hf⟩:∃ f,B9 / (g9 B (B.length-1)+1)=f:=⟨_,rfl⟩;refine TY fun R a=>?_;refine Uc ae U9 ?_;refine Uc ae U9 ?_;refine TX U6 ?_;refine Ue _ U7 ?_;refine Ul ag.m_ U10 om_ a3 fl_ (fun bJ a4=>?_);refine TV a4 U8 ?_;refine D.int (((g9 B (B.length-1)+1:Nat):Int)) U4 (by rw [IntKind.wrap_u64];omega) U2 ?_;refine Vd (B9) (g9 B (B.length-1)+1) U6 om_ (.inr ⟨Z,by omega⟩) U2 ?_;refine C4 1 [0,3,4,5,9] a Z ?_;clear a R;rw [hf];have w:0<f:=by rw [<- hf];exact Nat.div_pos om_ om_
 have o:f<B9:=by
  rw [<- hf];have h1:=(ux Q Q om_ (Qb _)).2;exact Nat.div_lt_self dc_ om_
 have y:n<B9 ^ 100000:=Q7 U hm;refine Ur [0,1,3,4,2,5,6,7] [] Z kr_ (fun R S a=>?_);refine Ua 2 Z ?_;refine Uc ae U9 ?_;refine TX U6 ?_;refine Uz (ye (k:=100000) _ ac.m_ hm o om_) U7 fl_ (fun bK _ _ a5=>?_);refine Uz (ye (k:=100000) _ ad.m_ y o om_) U7 fl_ (fun bL _ a6 aJ=>?_);refine TX U6 ?_;obtain ⟨a7,bM,a8,rfl⟩:=aJ.form;refine Uf (j:=1) U12 ?_;refine TZ [0,3,4,5,9] a Z ?_;clear a S R;have aK:=a5.mono a6;have aL:=aJ;refine G.freeze 0 Z (fun C3 aM v=>?_);obtain ⟨P,a9,ai,bO,aj⟩:=(aK.mono aM).get (jz hm o);obtain ⟨W,p,z,bP,V⟩:=(aL.mono aM).get (jz y o);obtain ⟨PA,pc,rfl,_⟩:=id aj;obtain ⟨bR,bS,ba,_⟩:=id V;cases ba
 simp only [al] at aj V v aK aL ⊢;have ak:NineC C3 (.slice a7 W.length a8) (n*f):=⟨W,p,z,V⟩;have A:0<n*f:=SL aG w;have an:n*f<B9 ^ 100001:=dy (k:=100001) (n:=100000+1) (jz (k:=100000) y o) (Qb _);have bT:2<=W.length:=by
  have h1:B9<=bB W:=by rw [z];exact Qy aF (Sk _ w)
  rcases QL W.length 2 with h | h
  ·have h2:=iM p.1;have h3:B9 ^ W.length<=B9 ^ 1:=QD dc_ om_;rw [Nat.pow_one] at h3;omega
  exact h
 have bU:1<=P.length:=by
  rcases RD P.length with h | h
  ·have:P=[]:=QU h;subst this;have h1:m*f=0:=by rw [<- ai];rfl
   have h2:0<m*f:=SL om_ w;omega
  exact h
 have bb:=(ux p p om_ (Qb _)).2;have bV:=kN p.1 (W.length-1);refine TU 2 Z fun R a=>?_;refine UY U9 (Qb _) (by show 8*P.length<=281474976710656;omega) (by simp only [maxLen];omega) fl_ (fun d=>?_);refine Uf (j:=1) U12 ?_;refine TZ [0,3,4,5,9] a Z ?_;clear a R;refine TY fun R a=>?_;refine TV (PtrTo.block (Mem.get v mup) _) U8 ?_;refine TV (PtrTo.block (Mem.get v mup) _) U8 ?_;refine TX U6 ?_;refine Ue _ U7 ?_;refine Ul V.m_ U10 om_ (by rw [show ((W.length:Int)-1).toNat=W.length-1 by omega];exact jh om_:(W.map cj)[((W.length:Int)-1).toNat]?=some (cj (g9 W (W.length-1)))) fl_ (fun bW bc=>?_);refine TV bc U8 ?_;refine C4 1 [0,3,4,5,9,10] a Z ?_;clear a R;refine TU 2 Z fun R a=>?_;refine Ue _ U7 ?_;refine C4 1 [0,3,4,5,9,10,11] a Z ?_;clear a R;refine Um (L':=[.obj e (.cells ⟨[qU d P.length P.length]⟩ 305 (0,0)),.arr (qU d P.length P.length) 160 1 P.length ((List.replicate P.length 0).map cj).flatten]) (by rw [<- En];rfl) ?_;refine G.loop (fun fr C' g E=>∃ (i:Nat)(c:List Nat)(v5:Value),(i<=P.length/\c.length=P.length/\Dig9 c/\bB (c.drop i)=bB (P.drop i) / (n*f)/\NineC C' v5 (bB (P.drop i) % (n*f))/\∀ j,j<i->g9 c j=0)/\fr=[(0,[],.slice PA P.length pc),(3,[],.pointer (some ⟨b3,0,none⟩)),(4,[],.pointer (some ⟨e,0,none⟩)),(5,[],v5),(9,[],.int .u64 f),(10,[],.int .u64 (g9 W (W.length-1))),(11,[],.int .i64 ((i:Int)-1))]/\g=[.obj e (.cells ⟨[qU d P.length P.length]⟩ 305 (0,0)),.arr (qU d P.length P.length) 160 1 P.length (c.map cj).flatten]/\E=i+1) (hn_ [0,3,4,5,9,10,11] Z) ⟨P.length,List.replicate P.length 0,_,⟨Qb _,RE,(fun x hx=>by rw [Sj hx];decide),by rw [Rj,SV am];simp [bB],by rw [Rj,show bB []=0 from Z,Nat.zero_mod];exact NineC.zero _,fun j _=>BD _ j⟩,Z,Z,Z⟩ (fun fr bX bY m _ F=>?_);obtain ⟨i,c,v5,⟨hi,Y,ao,H,aa,aq⟩,rfl,rfl,rfl⟩:=F;refine TT 2 [0,3,4,5,9,10,11,78] Z ?_;refine TW (fun ar=>?_) fun ar=>?_
 ·have aN:0<i:=by
   have:(0:Int)<=(i:Int)-1:=by simpa using ar
   omega
  obtain ⟨j,rfl⟩:∃ j,i=j+1:=⟨i-1,by omega⟩;obtain ⟨T,hT⟩:∃ T,bB (P.drop (j+1))=T:=⟨_,rfl⟩;rw [hT] at H aa;have aO:=QV T A;obtain ⟨I,bd,be,bZ,aP⟩:=aa.get (m:=100001) (Ss aO (dy (k:=100001) (n:=100000+1) (jz (k:=100000) y o) (Qb _)));obtain ⟨RA,rc,aQ,_⟩:=id aP;rw [al] at aQ;subst aQ;obtain ⟨X,hX⟩:∃ X,g9 P j+B9*(T % (n*f))=X:=⟨_,rfl⟩;have aR:=kN a9.1 j;have bf:bB (g9 P j::I)=X:=by rw [bB,be,hX]
  have J:=sy (t:=T) (x:=g9 P j) A;have bg:=mb (t:=T) A aR;rw [hX] at J bg;have ab:bB (P.drop j)=g9 P j+B9*T:=by rw [fp om_,hT]
  refine Uv [(7,3)] Z (fun R a=>?_);refine Ua 2 Z ?_;refine Ul aj.m_ U10 om_ (by rw [show ((((j+1:Nat):Int)-1)).toNat=j by omega];exact jh om_:(P.map cj)[((((j+1:Nat):Int)-1)).toNat]?=some (cj (g9 P j))) fl_ (fun b0 bh=>?_);refine TV bh U8 ?_;refine Va [cj (g9 P j)] U12 fl_ (fun b1=>?_);refine TX U6 ?_;refine D.append (j:=0) U11 aP.m_ (KN I) (by simp only [al,aI,maxLen];omega) (by simp only [al,aI];omega) fl_ (fun b2=>?_);refine D.call (gn _ _ (g9 P j::I) (n:=1+(I.map cj).length) (by rw [al];simp;omega)) Z (.inr dc_) U6 (Qh _) fl_ (fun bi bj b5 _ bk=>?_);refine C4 1 [0,3,4,5,9,10,11] a Z ?_;clear a R;obtain ⟨rfl,hu⟩:=bk;have K:NineC bj bi X:=⟨El (g9 P j::I),io (fun x hx=>(Qp.1 hx).elim (fun h=>by rw [h];exact aR) (bd.1 x)),by rw [im,bf],hu⟩;have aS:X<B9*(n*f):=by
   have h1:B9*(T % (n*f)+1)<=B9*(n*f):=RF _ aO;rw [Rs] at h1;omega
  have aT:X<B9 ^ 100002:=dy (k:=100002) (n:=100001+1) (Pb (k:=100001) aS an) (Qb _);obtain ⟨b,L,au,b6,av⟩:=K.get aT;obtain ⟨XA,xc,aU,_⟩:=id av;rw [al] at aU;subst aU;refine TU 1 Z fun R a=>?_;refine TV (PtrTo.block (Mem.get v mup) _) U8 ?_;refine Uh (pu _ K.m_ ak.m_) U7 ?_;refine C4 1 [0,3,4,5,9,10,11,92] a Z ?_;clear a R;refine TW (fun aw=>?_) fun aw=>?_
  ·have aV:X<n*f:=by
    have:jE X (n*f)<0:=by simpa using aw
    exact iU.1 this
   refine TU 1 Z fun R a=>?_;refine Ue _ U7 ?_;refine C4 1 [0,3,4,5,9,10,11] a Z ?_;clear a R;rw [show ((j+1:Nat):Int)-1-1=(j:Int)-1 by omega];refine Ug (m':=j+1) om_ mup (hn_ [0,3,4,5,9,10,11] Z) ⟨j,c,_,⟨by omega,Y,ao,by rw [fp (l:=c) om_,aq j om_,H,ab,J.1,Sz aV];omega,by rw [ab,J.2,SP aV];exact K.mono mup,fun j' h=>aq j' om_⟩,Z,Z,Z⟩
  have bl:n*f<=X:=by
   have h:¬ jE X (n*f)<0:=by simpa using aw
   rw [iU] at h;omega
  have bm:=zj L p (by rw [au,z];exact bl);have b7:=xA L p (by rw [au,z];exact aS);have ax:=(ux L p om_ bm).1;obtain ⟨s,ay⟩:∃ s,bB (b.drop (W.length-1))=s:=⟨_,rfl⟩;rw [au,z,ay] at ax;have b8:=kN L.1 (b.length-1);have b9:=kN L.1 (b.length-2);refine TU 3 Z fun R a=>?_;refine Ue _ U7 ?_;refine Ul av.m_ U10 om_ (by rw [show ((b.length:Int)-1).toNat=b.length-1 by omega];exact jh om_:(b.map cj)[((b.length:Int)-1).toNat]?=some (cj (g9 b (b.length-1)))) fl_ (fun ca bn=>?_);refine TV bn U8 ?_;refine C4 1 [0,3,4,5,9,10,11,12] a Z ?_;clear a R;refine TU 2 Z fun R a=>?_;refine TV (PtrTo.block (Mem.get v mup) _) U8 ?_;refine C4 2 [0,3,4,5,9,10,11,12,103] a Z ?_;clear a R;refine G.cut (fun fr C' g E=>(s<1000000000000000000)/\fr=[(0,[],.slice PA P.length pc),(3,[],.pointer (some ⟨b3,0,none⟩)),(4,[],.pointer (some ⟨e,0,none⟩)),(5,[],.slice XA b.length xc),(9,[],.int .u64 f),(10,[],.int .u64 (g9 W (W.length-1))),(11,[],.int .i64 (((j+1:Nat):Int)-1)),(12,[],.int .u64 (s:Nat))]/\g=[.obj e (.cells ⟨[qU d P.length P.length]⟩ 305 (0,0)),.arr (qU d P.length P.length) 160 1 P.length (c.map cj).flatten]) ?_ (fun fr _ cb E _ F=>?_)
  ·refine TW (fun az=>?_) fun az=>?_
   ·have bo:b.length=W.length-1+2:=by
     have:(W.length:Int)<(b.length:Int):=by simpa using az
     omega
    have M:=JN bo;rw [ay,show W.length-1+1=b.length-1 by omega,show W.length-1=b.length-2 by omega] at M;have bp:g9 b (b.length-1)*B9<=999999999*B9:=Q9 _ om_;rw [show 999999999*B9=999999999000000000 from rfl] at bp;refine TU 1 Z fun R a=>?_;refine D.int (((g9 b (b.length-1)*B9:Nat):Int)) U4 (by rw [show (1000000000:Int)=((B9:Nat):Int) from Z,<- Q6,IntKind.wrap_u64];omega) U2 ?_;refine Ua 3 Z ?_;refine Ue _ U7 ?_;refine Ul av.m_ U10 om_ (by rw [show ((b.length:Int)-2).toNat=b.length-2 by omega];exact jh om_:(b.map cj)[((b.length:Int)-2).toNat]?=some (cj (g9 b (b.length-2)))) fl_ (fun cc bq=>?_);refine TV bq U8 ?_;refine D.int (((s:Nat):Int)) U4 (by rw [M,IntKind.wrap_u64];omega) U2 ?_;refine C4 1 [0,3,4,5,9,10,11,12] a Z ?_;clear a R;refine Uj 0 mup (hn_ [0,3,4,5,9,10,11,12] Z) ⟨by omega,Z,Z⟩
   have br:b.length=W.length-1+1:=by
    have:¬ (W.length:Int)<(b.length:Int):=by simpa using az
    omega
   have M:=Bx br;rw [ay,show W.length-1=b.length-1 by omega] at M;rw [<- M];refine Uj 0 mup (hn_ [0,3,4,5,9,10,11,12] Z) ⟨by omega,Z,Z⟩
  obtain ⟨cd,rfl,rfl⟩:=F;obtain ⟨N,aA⟩:∃ N,s / g9 W (W.length-1)=N:=⟨_,rfl⟩;rw [aA] at ax;have ce:N<=s:=by rw [<- aA];exact Rc _ _
  refine TU 2 Z fun R a=>?_;refine Vd (s) (g9 W (W.length-1)) U6 bb (.inr ⟨Z,by omega⟩) U2 ?_;rw [aA];refine D.min (((min N 999999999:Nat):Int)) Z Z Z Z Z Z om_ Z Z ?_;refine C4 1 [0,3,4,5,9,10,11,12] a Z ?_;clear a R;refine TY fun R a=>?_;refine TV (PtrTo.block (Mem.get v mup) _) U8 ?_;refine TX U6 ?_;refine Uz (ye (k:=100001) _ ak.m_ an om_ om_) U7 fl_ (fun bs _ _ bt=>?_);refine C4 1 [0,3,4,5,9,10,11,12,13] a Z ?_;clear a R;refine G.loop (fun fr C' g E=>∃ (dd:Nat)(aB:Value),(X / (n*f)<=dd/\dd<B9/\NineC C' aB (n*f*dd))/\fr=[(0,[],.slice PA P.length pc),(3,[],.pointer (some ⟨b3,0,none⟩)),(4,[],.pointer (some ⟨e,0,none⟩)),(5,[],.slice XA b.length xc),(9,[],.int .u64 f),(10,[],.int .u64 (g9 W (W.length-1))),(11,[],.int .i64 (((j+1:Nat):Int)-1)),(12,[],.int .u64 (dd:Nat)),(13,[],aB)]/\g=[.obj e (.cells ⟨[qU d P.length P.length]⟩ 305 (0,0)),.arr (qU d P.length P.length) 160 1 P.length (c.map cj).flatten]/\E=dd+1) (hn_ [0,3,4,5,9,10,11,12,13] Z) ⟨min N 999999999,bs,⟨by have h:=Nat.le_min.2 ⟨ax,(by omega:X / (n*f)<=999999999)⟩;exact h,by omega,bt.mono mup⟩,Z,Z,Z⟩ (fun fr cf cg m _ F=>?_);obtain ⟨dd,aB,⟨bu,aW,aC⟩,rfl,rfl,rfl⟩:=F;refine TU 2 Z fun R a=>?_;refine Uh (pu _ aC.m_ K.m_) U7 ?_;refine C4 1 [0,3,4,5,9,10,11,12,13,123] a Z ?_;clear a R;refine TW (fun aE=>?_) fun aE=>?_
  ·have O:X<n*f*dd:=by
    have:0<jE (n*f*dd) X:=by simpa using aE
    exact FY.1 this
   have bv:1<=dd:=by
    rcases RD dd with h | h
    ·rw [h] at O;omega
    exact h
   refine TU 1 Z fun R a=>?_;refine TV (PtrTo.block (Mem.get v mup) _) U8 ?_;refine Uz (uj (k:=100002) _ aC.m_ ak.m_ (dy (k:=100002) (n:=100001+1) (jz (k:=100001) an aW) (Qb _)) (Sk _ bv) om_) U7 fl_ (fun bw _ _ aX=>?_);refine C4 1 [0,3,4,5,9,10,11,12,13] a Z ?_;clear a R;refine TU 1 Z fun R a=>?_;refine D.int (((dd-1:Nat):Int)) U4 (by rw [IntKind.wrap_u64];omega) U2 ?_;refine C4 1 [0,3,4,5,9,10,11,12,13] a Z ?_;clear a R;rw [show n*f*dd-n*f=n*f*(dd-1) from by rw [Nat.mul_sub,Sd]] at aX;refine Ug (m':=dd-1+1) om_ mup (hn_ [0,3,4,5,9,10,11,12,13] Z) ⟨dd-1,bw,⟨by have h:=(Sg A).2 (by rw [Q0];exact O);omega,by omega,aX.mono mup⟩,Z,Z,Z⟩
  have O:n*f*dd<=X:=by
   have h:¬ 0<jE (n*f*dd) X:=by simpa using aE
   rw [FY] at h;omega
  have aY:dd=X / (n*f):=Nat.le_antisymm ((Nat.le_div_iff_mul_le A).2 (by rw [Q0];exact O)) bu;have bx:X-n*f*dd=X % (n*f):=by rw [aY];have:=Ta X (n*f);omega
  refine Ur [0,1,2,3,4,5,6,7,8] [] Z kr_ (fun R S a=>?_);refine Uc af U9 ?_;refine Ua 4 Z ?_;refine Uz (uj (k:=100002) _ K.m_ aC.m_ aT O om_) U7 fl_ (fun bz _ _ aZ=>?_);refine UA (j*1) U10 (fun _=>⟨by omega,by omega,(by rw [show (((j+1:Nat):Int)-1).toNat=j by omega])⟩) U2 ?_;refine UD (j:=1) U11 (by show j*1+1<=_;rw [bQ eD,Y];omega) ?_;refine TX U6 ?_;refine TZ [0,3,4,5,9,10,11] a Z ?_;clear a S R;refine TU 1 Z fun R a=>?_;refine Ue _ U7 ?_;refine C4 1 [0,3,4,5,9,10,11] a Z ?_;clear a R;rw [show ((j+1:Nat):Int)-1-1=(j:Int)-1 by omega];refine G.perm (L':=[.obj e (.cells ⟨[qU d P.length P.length]⟩ 305 (0,0)),.arr (qU d P.length P.length) 160 1 P.length (aD (c.map cj).flatten (cj dd) (j*1))]) (List.Perm.swap _ _ _) ?_;refine Um (L':=[.obj e (.cells ⟨[qU d P.length P.length]⟩ 305 (0,0)),.arr (qU d P.length P.length) 160 1 P.length ((c.set j dd).map cj).flatten]) (by rw [<- bN eD _ (by omega:j<c.length)]) ?_;rw [bx] at aZ;refine Ug (m':=j+1) om_ mup (hn_ [0,3,4,5,9,10,11] Z) ⟨j,c.set j dd,bz,⟨by omega,by simp [Y],ao.set aW,by rw [li om_,H,ab,J.1,aY];omega,by rw [ab,J.2];exact aZ.mono mup,fun j' h=>by rw [pV om_];exact aq j' om_⟩,Z,Z,Z⟩
 have aN:i=0:=by
  have:¬ (0:Int)<=(i:Int)-1:=by simpa using ar
  omega
 subst aN;rw [Rm,Rm,ai,Nat.mul_div_mul_right _ _ w] at H;rw [Rm,ai,Nat.mul_mod_mul_right] at aa;refine TU 2 Z fun R a=>?_;refine Uq [cj f] U12 (fun ch _ _ bA=>?_);refine Uz (sx _ _ _ (m % n*f) f aa.m_ (by
  have h1:=jz (k:=100000) (Ss (QV m aG) y) o;exact dy (k:=200000) (n:=100000+1) h1 dc_) bA.m_ w o) U7 fl_ (fun ci _ _ bC=>?_)
 obtain ⟨q2,r2,rfl,a1,ck⟩:=bC;rw [Nat.mul_div_cancel _ w] at a1;refine C4 4 [4,5] a Z ?_;clear a R;refine G.perm (L':=[.arr (qU d P.length P.length) 160 1 P.length (c.map cj).flatten,.obj e (.cells ⟨[qU d P.length P.length]⟩ 305 (0,0))]) (List.Perm.swap _ _ _) ?_;refine Uv [(1,3)] Z (fun R a=>?_);refine Uc ae U9 ?_;refine D.call (gn _ _ c Y) Z (.inr dc_) U6 (Qh _) fl_ (fun cl _ cm _ bD=>?_);refine TX U6 ?_;obtain ⟨rfl,hu⟩:=bD;obtain ⟨Au,cu,rfl,_⟩:=id hu;refine Uf (j:=0) U12 ?_;refine C4 1 [4,5] a Z ?_;clear a R;refine Ui (VB (AK af Z Z Z Z Z) ?_ Kc);exact ⟨Z,_,_,Z,⟨El c,io ao,by rw [im,H],hu⟩,a1.mono mup⟩
theorem xf (C:Mem)(a b:Value)(m n:Nat)(g:NineC C a m)(h:NineC C b n)(i:m<B9 ^ 100000)(f:0<n) :
  Pur cx.P 248 [a,b] C fun u D=>∃ q r,u=.tuple #[q,r]/\NineC D q (m / n)/\NineC D r (m % n):=by
 rcases QL n B9 with c | c
 ·obtain ⟨l,h1,h2,h3,h4⟩:=h.get (m:=1) (by rw [Nat.pow_one];exact c);have j:l≠[]:=fun e=>by rw [e] at h2;rw [<- h2] at f;exact absurd f dc_
  obtain ⟨d,rfl⟩:∃ d,l=[d]:=by
   cases l with
   | nil=>exact absurd rfl j
   | cons d l=>cases l with
    | nil=>exact ⟨d,rfl⟩
    | cons e l=>simp at h3
  have o:d=n:=by rw [<- h2];show d=d+B9*0;omega
  subst o;exact sx C a b m d g (dy (k:=200000) (n:=100000) i dc_) h4 f c
 exact DK C a b m n g h i c
theorem JY (C:Mem)(s:Str)(c:UInt8):Gives cx.P 249 [ah s,ah [c]] C (.bool (cJ c s).2):=by
 exact Ud func249 8 U3 fun w0=>TT 1 [0,1] Z<|TU 2 Z fun R a=>Uh (yF _ s c) U7<|C4 1 [4] a Z<|Ub U2<|⟨Z,Z⟩
theorem EH (C:Mem)(s:Str)(c:UInt8):Gives cx.P 266 [ah s,ah [c]] C (ah (cJ c s).1):=by
 refine Ud func266 13 U3 fun w0=>TT 1 [0,1] Z<|TU 2 Z fun R d=>Uh (yF _ s c) U7<|TZ [0,1,7] d Z<|TW (fun a=>?_) fun a=>?_
 ·have h:s.head?=some c:=QK fun h=>by unfold cJ at a;rw [az h] at a;cases a
  have e:1<=s.length:=by cases s with
   | nil=>cases h
   | cons b s=>simp
  refine TU 3 Z fun R d=>UW 1 s.length U9 (fun _=>⟨.inr ⟨_,Z⟩,.inl ⟨Z,Z⟩,.inl ⟨Z,Z⟩,by omega,Qb _,Qb _⟩) U2<|C4 1 [4] d Z<|Ub U2 ?_;unfold cJ;rw [aU h];refine ⟨?_,Z⟩;rw [Qo,List.drop_one];rfl
 have h:¬ s.head?=some c:=fun h=>by unfold cJ at a;rw [aU h] at a;cases a
 refine TT 2 [4] Z<|Ub U2 ?_;unfold cJ;rw [az h];exact ⟨Z,Z⟩
theorem zY (C:Mem)(s:Str)(c:UInt8):Gives cx.P 232 [ah s,ah [c]] C (ah (cJ c s).1):=by
 exact Ud func232 8 U3 fun w0=>TT 1 [0,1] Z<|TU 2 Z fun R a=>Uh (EH _ s c) U7<|C4 1 [4] a Z<|Ub U2<|⟨Z,Z⟩
def eJ (z:Int):Int:=if z<0 then -1 else if z=0 then 0 else 1
theorem lQ (C:Mem)(z:Int):Gives cx.P 209 [ah (txt z)] C (.int .i64 (eJ z)):=by
 refine Ud func209 9 U3 fun w0=>TT 1 [0] Z ?_
 skip
 refine TT 3 [0,3] Z<|TW (fun h3=>?_) fun h3=>?_
 ·have b:z=0:=by
   have h:=lj z;rw [h] at h3;exact aJ h3
  exact TT 1 [2] Z<|Ub U2<|⟨by rw [b];rfl,Z⟩
 have b:z≠0:=by
  have h:=lj z;rw [h] at h3;exact Qe h3
 refine TU 1 Z fun R d=>Uh (JY _ (txt z) 45) U7<|C4 1 [6] d Z<|TW (fun a=>?_) fun a=>?_
 ·have c:z<0:=by
   rw [dB] at a;exact aJ a
  exact TT 1 [2] Z<|Ub U2<|⟨by rw [eJ,aU c],Z⟩
 have c:¬ z<0:=by
  rw [dB] at a;exact Qe a
 exact TT 1 [2] Z<|Ub U2<|⟨by rw [eJ,az c,az b],Z⟩
theorem se (C:Mem)(a:Tabs C)(z:Int)(b:-9223372036854775808<=z)(c:z<=9223372036854775807):Gives cx.P 79 [.int .i64 z] C (ah (txt z)):=by
 exact Ud func79 5 U3 fun w0=>TT 1 [0] Z<|TU 1 Z fun R d=>Uh (je _ a.m_ z b c) U7<|C4 1 [2] d Z<|Ub U2<|⟨Z,Z⟩
theorem mI (z:Int):(txt z).length<=(bq z.natAbs).length+1:=by unfold txt;split <;> simp
theorem ut (C:Mem)(z:Int)(e:(bq z.natAbs).length<=1000000):Gives cx.P 210 [ah (txt z)] C (ah (txt (-z))):=by
 have f:=mI z;refine Ud func210 14 U3 fun w0=>TT 1 [0] Z<|TU 1 Z fun R a=>Uh (lQ _ z) U7<|TZ [0,4] a Z<|TT 2 [0,4,5] Z<|TW (fun h5=>?_) fun h5=>?_
 ·have d:0<z:=by
   have h:eJ z=1:=by simpa using h5
   unfold eJ at h;split at h
   ·cases h
   split at h
   ·cases h
   omega
  refine TU 1 Z fun R a=>UV U6 (fun _=>(by simp only [Qs,Qu];omega)) U2<|C4 1 [2] a Z<|Ub U2<|⟨?_,Z⟩;unfold txt;rw [az om_,aU om_,Ti];rfl
 have d:¬ 0<z:=fun h=>by
  have h2:eJ z=1:=by unfold eJ;rw [az om_,az om_]
  rw [h2] at h5;cases h5
 refine TT 2 [0,9] Z<|TW (fun b=>?_) fun b=>?_
 ·have c:z<0:=by
   have h:eJ z=-1:=by simpa using b
   unfold eJ at h;split at h
   ·assumption
   split at h <;> cases h
  refine TU 1 Z fun R a=>UW 1 (txt z).length U9 (fun _=>⟨.inr ⟨_,Z⟩,.inl ⟨Z,Z⟩,.inl ⟨Z,Z⟩,(by unfold txt;rw [aU c];simp),Qb _,Qb _⟩) U2<|C4 1 [2] a Z<|Ub U2<|⟨?_,Z⟩;rw [Qo];unfold txt;rw [aU c,az om_,Ti];rfl
 have c:¬ z<0:=fun h=>by
  have h2:eJ z=-1:=by unfold eJ;rw [aU h]
  rw [h2] at b;cases b
 refine TT 2 [2] Z<|Ub U2<|⟨?_,Z⟩;rw [show z=0 by omega];rfl
theorem Hv:∀ {s t:Str},(∀ c∈s,eN c=true)->(∀ c∈t,eN c=true)->s.length=t.length->Lib.compareBytes s t=jE (bV s) (bV t)
 | [],[],_,_,_=>rfl
 | [],_::_,_,_,h=>by simp at h
 | _::_,[],_,_,h=>by simp at h
 | c::s,d::t,hs,g,k=>by
  have e:s.length=t.length:=by simpa using k
  have i:∀ x∈s,eN x=true:=fun x f=>hs x (by simp [f]);have j:∀ x∈t,eN x=true:=fun x f=>g x (by simp [f]);have l:=Hv i j e;have h1:=dU i;have h2:=dU j;have m:=hs c am;have n:=g d am;simp only [eN,Qj] at m n;rw [dC,dC,e];rw [e] at h1;simp only [Lib.compareBytes];obtain ⟨p,o⟩:∃ p,10 ^ t.length=p:=⟨_,rfl⟩;rw [o] at h1 h2 ⊢;by_cases a:c<d
  ·rw [aU a];have r:c.toNat<d.toNat:=a;have h3:(c.toNat-48+1)*p<=(d.toNat-48)*p:=Q9 _ om_;rw [R4] at h3;unfold jE;rw [aU om_]
  rw [az a];by_cases b:d<c
  ·rw [aU b];have u:d.toNat<c.toNat:=b;have h3:(d.toNat-48+1)*p<=(c.toNat-48)*p:=Q9 _ om_;rw [R4] at h3;unfold jE;rw [az om_,aU om_]
  rw [az b,l];have q:c.toNat=d.toNat:=by
   have h3:¬ c.toNat<d.toNat:=a;have h4:¬ d.toNat<c.toNat:=b;omega
  rw [q];unfold jE;split <;> rename_i h5
  ·rw [aU om_]
  split <;> rename_i v
  ·rw [az om_,aU om_]
  rw [az om_,az om_]
theorem qo (h:(bq a).length<(bq b).length):a<b:=by
 obtain ⟨h1,h2⟩:=bC a;obtain ⟨h3,h4⟩:=bC b;have c:=QY.2 h1.2.1;have h5:=dU h1.1;have d:=om h3 om_;have e:10 ^ (bq a).length<=10 ^ ((bq b).length-1):=QD dc_ om_;omega
theorem NE (h:(bq a).length=(bq b).length):Lib.compareBytes (bq a) (bq b)=jE a b:=by
 obtain ⟨h1,h2⟩:=bC a;obtain ⟨h3,h4⟩:=bC b;rw [Hv h1.1 h3.1 h,h2,h4]
def vo (z w:Int):Int:=if z<w then -1 else if w<z then 1 else 0
theorem ek (z:Int):(z<0/\eJ z=-1)∨(z=0/\eJ z=0)∨(0<z/\eJ z=1):=by
 unfold eJ;split
 ·exact .inl ⟨by assumption,Z⟩
 split
 ·exact .inr (.inl ⟨by assumption,Z⟩)
 exact .inr (.inr ⟨by omega,Z⟩)
theorem zf (h:eJ z=eJ w):vo z w=eJ z*jE z.natAbs w.natAbs:=by
 have a:=ek w;rw [<- h] at a;unfold vo jE;rcases ek z with ⟨h1,h2⟩ | ⟨h1,h2⟩ | ⟨h1,h2⟩ <;> rw [h2] at a ⊢
 ·have h3:w<0:=by omega
  split <;> split <;> (try split) <;> omega
 ·have h3:w=0:=by omega
  subst h1 h3;simp
 have h3:0<w:=by omega
 split <;> split <;> (try split) <;> omega
theorem IU (z:Int):IntKind.i64.wrap (-(eJ z))=-(eJ z):=by
 rcases ek z with ⟨h1,h2⟩ | ⟨h1,h2⟩ | ⟨h1,h2⟩ <;> rw [h2] <;> rfl
theorem EU (C:Mem)(a b:Str):Gives cx.P 233 [ah a,ah b] C (.int .i64 (Lib.compareBytes a b)):=yk Tryz.scmp a b C kr_
theorem pS (C:Mem)(z w:Int)(_m:(bq z.natAbs).length<=1000000)(_n:(bq w.natAbs).length<=1000000):Gives cx.P 161 [ah (txt z),ah (txt w)] C (.int .i64 (vo z w)):=by
 have ez:(cJ 45 (txt z)).1=bq z.natAbs:=by rw [dB]
 have j:(cJ 45 (txt w)).1=bq w.natAbs:=by rw [dB]
 refine Ud func161 41 U3 fun w0=>TT 1 [0,1] Z<|TU 1 Z fun R b=>Uh (lQ _ z) U7<|TX U6<|Uh (lQ _ w) U7<|C4 2 [0,1,5,6] b Z<|TT 3 [0,1,5,6,15] Z<|TW (fun c=>?_) fun c=>?_
 ·have k:eJ z≠eJ w:=by simpa using c
  refine TT 3 [18] Z<|TW (fun d=>?_) fun d=>?_
  ·have a:eJ z<eJ w:=by simpa using d
   refine TT 1 [4] Z<|Ub U2<|⟨?_,Z⟩;rw [vo,aU (by unfold eJ at a;split at a <;> split at a <;> (try split at a) <;> omega)]
  have a:¬ eJ z<eJ w:=by simpa using d
  refine TT 1 [4] Z<|Ub U2<|⟨?_,Z⟩;have h:w<z:=by
   have h2:eJ w<eJ z:=by omega
   unfold eJ at h2;split at h2 <;> split at h2 <;> (try split at h2) <;> omega
  rw [vo,az om_,aU h]
 have f:eJ z=eJ w:=by simpa using c
 refine TU 1 Z fun R b=>Uh (zY _ (txt z) 45) U7<|TX U6<|Uh (zY _ (txt w) 45) U7 ?_;rw [ez,j];refine C4 2 [5,7,8] b Z<|TT 5 [5,7,8,27] Z<|TW (fun g=>?_) fun g=>?_
 ·have k:(bq z.natAbs).length≠(bq w.natAbs).length:=fun e=>by
   have h:(((bq z.natAbs).length:Nat):Int)≠(((bq w.natAbs).length:Nat):Int):=by simpa using g
   exact h (by rw [e])
  refine TT 5 [5,32] Z<|TW (fun i=>?_) fun i=>?_
  ·have a:z.natAbs<w.natAbs:=qo (by
    have h:(((bq z.natAbs).length:Nat):Int)<(((bq w.natAbs).length:Nat):Int):=by simpa using i
    omega)
   refine TT 3 [4] Z<|Ub U2<|⟨?_,Z⟩;rw [Int.zero_sub,IU,zf f,show jE z.natAbs w.natAbs=-1 from aU a];congr 1;omega
  have a:w.natAbs<z.natAbs:=qo (by
   have h:¬ (((bq z.natAbs).length:Nat):Int)<(((bq w.natAbs).length:Nat):Int):=by simpa using i
   omega)
  refine TT 2 [4] Z<|Ub U2<|⟨?_,Z⟩;rw [zf f,show jE z.natAbs w.natAbs=1 from by unfold jE;rw [az om_,aU a]];congr 1;omega
 have l:(bq z.natAbs).length=(bq w.natAbs).length:=by
  have h:(((bq z.natAbs).length:Nat):Int)=(((bq w.natAbs).length:Nat):Int):=by simpa using g
  omega
 refine TU 3 Z fun R b=>Uh (EU _ (bq z.natAbs) (bq w.natAbs)) U7 ?_;rw [NE l];refine UG ((vo z w)) U4 (by rw [zf f]) (by unfold vo;split <;> (try split) <;> omega) (by unfold vo;split <;> (try split) <;> omega) U2 ?_
 exact C4 1 [4] b Z<|Ub U2<|⟨Z,Z⟩
def qC (b:Bool):Int:=if b then 0 else 2
theorem wT (C:Mem)(s:Str):Gives cx.P 207 [ah s] C (.int .i64 (qC (cI s))):=by
 obtain ⟨t,neg,p⟩:∃ t b,cJ 45 s=(t,b):=⟨_,_,rfl⟩;have g:cI s=(t.all eN && !(t == []) && !(t.head? == some 48 && (neg || decide (1<t.length))) && decide (t.length<=200)):=by unfold cI xy;rw [p]
 refine Ud func207 47 U3 fun w0=>TT 1 [0] Z<|TU 1 Z fun R a=>Uk (by have h:=Hq C s 45;rw [p] at h;exact h) U7 fl_<|C4 5 [3,4] a Z<|TU 6 Z fun R a=>UB U8<|Ua 2 Z<|UT (b:=t.headD 0) U8 (fun r=>⟨by omega,(by
  cases t with
  | nil=>exact Bool.noConfusion (show true=false from r.1)
  | cons b t=>rfl)⟩) U2 ?_
 refine Ua 7 Z<|UB U8<|Uu U8<|UB U8<|TZ [3,30] a Z<|TW (fun d=>?_) fun d=>?_
 ·have j:cI s=false:=by
   rw [g];cases t with
   | nil=>simp
   | cons b t =>
    simp at d;rcases d with h | ⟨h,h2⟩
    ·simp;intro _ _;omega
    have e:b=48:=Tz.1 (by show b.toNat=48;omega);subst e;have u:(neg || decide (1<((48:UInt8)::t).length))=true:=by
     rcases h2 with h2 | h2
     ·rw [Qr ap];simp
     rw [h2];rfl
    rw [u];simp
  exact TT 1 [2] Z<|Ub U2<|⟨by rw [j];rfl,Z⟩
 have v:t.length<=200:=by
  simp at d;omega
 refine TT 3 [3,32,33] Z<|G.loop (fun fr C' w y=>∃ (i:Nat),(i<=t.length/\∀ c∈t.take i,eN c=true)/\fr=[(3,[],ah t),(32,[],.int .i64 t.length),(33,[],.int .i64 i)]/\w=[]/\y=t.length-i) (hn_ [3,32,33] Z) ⟨0,⟨Qf _,by simp⟩,Z,Z,Z⟩ (fun fr E F m _ z=>?_);obtain ⟨i,⟨H,k⟩,rfl,rfl,rfl⟩:=z;refine TT 1 [3,32,33,34] Z<|TW (fun l=>?_) fun l=>?_
 ·have n:i<t.length:=by simpa using l
  obtain ⟨c,f⟩:∃ c,t[i]?=some c:=⟨t[i],aj n⟩;refine TT 2 [3,5,32,33] Z<|TU 2 Z fun R a=>UT U8 (fun _=>⟨by omega,f⟩) U2<|Ua 4 Z<|UT U8 (fun _=>⟨by omega,f⟩) U2<|TX U6<|UB U8<|TZ [3,32,33,45] a Z<|TW (fun o=>?_) fun o=>?_
  ·have j:cI s=false:=by
    have h1:t.all eN=false:=by
     rw [SJ];refine ⟨c,Qc f, ?_⟩;simp at o;unfold eN;simp;omega
    rw [g,h1];rfl
   exact TT 1 [2] Z<|Ub U2<|⟨by rw [j];rfl,Z⟩
  have A:eN c=true:=by
   simp at o;unfold eN;simp;omega
  refine TY fun R a=>Ue _ U7<|C4 1 [3,32,33] a Z<|Ug (m':=t.length-(i+1)) om_ mup (hn_ [3,32,33] Z) ⟨i+1,⟨by omega,fun x q=>by
   rw [QF,f] at q;rcases Qt.1 q with h | h
   ·exact k x h
   simp at h;subst h;exact A⟩,rfl,rfl,rfl⟩
 have n:t.length<=i:=by
  have:¬ i<t.length:=by simpa using l
  omega
 rw [QE n] at k;have B:t.all eN=true:=Qv.2 k;have D:cI s=true:=by
  rw [g,B,Qr v];cases t with
  | nil=>simp at d
  | cons b t =>
   simp at d;simp;by_cases e:b=48
   ·subst e;have h5:=d.2;simp at h5;exact .inr ⟨h5.2,QU om_⟩
   exact .inl e
 exact TT 1 [2] Z<|Ub U2<|⟨by rw [D];rfl,Z⟩
theorem bZ (h:n<B9 ^ k)(a:0<k):(bq n).length<=9*k:=eE (by rw [Lf];exact h) om_
theorem zo (h:(txt z).length<=m):z.natAbs<10 ^ m:=by
 have h1:(bq z.natAbs).length<=m:=by
  unfold txt at h;split at h
  ·simp at h;omega
  exact h
 obtain ⟨h2,h3⟩:=bC z.natAbs;have h4:=dU h2.1;rw [h3] at h4;exact Rt h4 (QD dc_ h1)
theorem e18:(10:Nat) ^ 18=1000000000000000000:=by decide
theorem e9:(10:Nat) ^ 9=1000000000:=by decide
theorem xZ (c:a<B9 ^ k)(d:b<B9 ^ k):a+b<B9 ^ (k+1):=by
 rw [Ru];have:B9 ^ k*2<=B9 ^ k*B9:=RF _ dc_;omega
theorem Nd (C:Mem)(l:Tabs C)(z w:Int)(k:Nat)(u:0<k)(Y:k<=40000)(f:z.natAbs<B9 ^ k)(g:w.natAbs<B9 ^ k):Gives cx.P 145 [ah (txt z),ah (txt w)] C (ah (txt (z+w))):=by
 have aa:=bZ f u;have ab:=bZ g u;refine Ud func145 62 U3 fun w0=>TT 1 [0,1] Z<|TU 1 Z fun R a=>Uh (jD _ z 18 (Qb _)) U7<|C4 5 [0,1,5,6] a Z<|TT 1 [0,1,5,16] Z<|G.cut (fun fr C' m o=>(True)/\fr=[(0,[],ah (txt z)),(1,[],ah (txt w))]/\m=[]) ?_ (fun fr _ ac o _ p=>?_)
 ·refine TW (fun v=>?_) fun v=>?_
  ·have x:=aJ v;rw [aU x];have K:=zo x;rw [e18] at K;refine TU 1 Z fun R a=>Uh (jD _ w 18 (Qb _)) U7<|C4 5 [0,1,5,7,8] a Z<|TT 1 [0,1,5,7,22] Z<|TW (fun y=>?_) fun y=>?_
   ·have A:=aJ y;rw [aU A];have L:=zo A;rw [e18] at L;exact TU 2 Z fun R a=>Ue _ U7<|Uk (se _ l.m_ (z+w) om_ om_) U7 fl_<|C4 1 [4] a Z<|Ub U2<|⟨Z,Z⟩
   refine Uj 0 (Mem.le.refl _) (hn_ [0,1] Z) ⟨trivial,Z,Z⟩
  refine Uj 0 (Mem.le.refl _) (hn_ [0,1] Z) ⟨trivial,Z,Z⟩
 obtain ⟨_,rfl,rfl⟩:=p;refine TU 1 Z fun R a=>Uz (iV _ z om_) U7 fl_ fun ad _ _ M=>TX U6<|Uz (iV _ w om_) U7 fl_ fun ag _ _ N=>Uo U5 fun B=>Uo U5 (fun D=>?_);obtain ⟨pz,rfl,d⟩:=M;obtain ⟨pw,rfl,e⟩:=N;obtain ⟨Az,mz,cz,rfl⟩:=d.form;obtain ⟨Aw,mw,cw,rfl⟩:=e.form;refine Uf (j:=1) U12<|Uf (j:=1) U12<|TZ [9,10] a Z<|TU 1 Z fun R a=>Uc ae U9<|TX U6<|Uc af U9<|C4 1 [9,10,35] a Z<|TW (fun q=>?_) fun q=>?_
 ·have i:decide (z<0)=decide (w<0):=by simpa using q
  refine Ur [0,1,2,3,4,5,6,7,8,9] [(8,1)] Z kr_ fun R O a=>TX U6<|Uc ae U9<|TX U6<|Uc ae U9<|TX U6<|Uc af U9<|Uz (Li (k:=k) _ d.m_ e.m_ f g om_) U7 fl_ (fun ai _ _ E=>?_);obtain ⟨Q,S,T,rfl⟩:=E.form;exact Un [.bool (decide (z<0)),_] U8<|Us (fun _=>(jS _ l.m_ _ _ _ E (dy (k:=100000) (n:=k+1) (xZ f g) om_))) U9<|C4 1 [4] a Z<|Ub U2<|⟨by rw [Mi i],Z⟩
 have i:decide (z<0)≠decide (w<0):=by simpa using q
 refine TU 1 Z fun R a=>Uc ae U9<|TX U6<|Uc af U9<|Uh (pu _ d.m_ e.m_) U7<|C4 1 [9,10,50] a Z<|G.cut (fun fr C' m o=>∃ (b c:Int)(r s:Value),(NineC C' r b.natAbs/\NineC C' s c.natAbs/\c.natAbs<=b.natAbs/\b+c=z+w/\decide (b<0)≠decide (c<0)/\b.natAbs<B9 ^ k)/\fr=[(9,[],.pointer (some ⟨B,0,none⟩)),(10,[],.pointer (some ⟨D,0,none⟩))]/\m=[.obj D (.cells ⟨[.bool (decide (c<0)),s]⟩ 307 (0,0)),.obj B (.cells ⟨[.bool (decide (b<0)),r]⟩ 307 (0,0))]) ?_ (fun fr _ aj o _ p=>?_)
 ·refine TW (fun t=>?_) fun t=>?_
  ·have F:z.natAbs<w.natAbs:=by
    have:jE z.natAbs w.natAbs<0:=by simpa using t
    exact iU.1 this
   refine TY fun R a=>Uc af U9<|Uc ae U9<|Uf (j:=1) U12<|Uf (j:=1) U12<|TZ [9,10] a Z<|Uj 0 mup (hn_ [9,10] Z) ⟨w,z,_,_,⟨e.mono mup,d.mono mup,by omega,Int.add_comm w z,Ne.symm i,g⟩,Z,Z⟩
  have F:w.natAbs<=z.natAbs:=by
   have h:¬ jE z.natAbs w.natAbs<0:=by simpa using t
   rw [iU] at h;omega
  refine Uj 0 mup (hn_ [9,10] Z) ⟨z,w,_,_,⟨d.mono mup,e.mono mup,F,Z,i,f⟩,Z,Z⟩
 obtain ⟨b ,c ,r ,s,⟨H,I,U,V,W,X⟩,rfl,rfl⟩:=p;obtain ⟨ak,al,am,rfl⟩:=H.form;obtain ⟨an,ao,ap,rfl⟩:=I.form;refine Ur [0,1,2,3,4,5,6,7,8,9] [(8,1)] Z kr_ fun R O a=>TX U6<|Uc ae U9<|TX U6<|Uc ae U9<|TX U6<|Uc af U9<|Uz (uj (k:=k) _ H.m_ I.m_ X U om_) U7 fl_ (fun aq _ _ J=>?_);obtain ⟨Q,S,T,rfl⟩:=J.form;exact Un [.bool (decide (b<0)),_] U8<|Us (fun _=>(jS _ l.m_ _ _ _ J (dy (k:=100000) (n:=k) om_ om_))) U9<|C4 1 [4] a Z<|Ub U2<|⟨by rw [Mj W om_,V],Z⟩
theorem Mk (z w:Int):sgZ (decide (z<0) != decide (w<0)) (z.natAbs*w.natAbs)=z*w:=by
 unfold sgZ;have h1:z=if z<0 then -(z.natAbs:Int) else (z.natAbs:Int):=by split <;> omega
 have h2:w=if w<0 then -(w.natAbs:Int) else (w.natAbs:Int):=by split <;> omega
 by_cases a:z<0 <;> by_cases b:w<0
 ·rw [Qr a,Qr b,az dc_];rw [aU a] at h1;rw [aU b] at h2;rw [Q6]
  conv=>rhs;rw [h1,h2]
  rw [Int.neg_mul_neg]
 ·rw [Qr a,QC b,aU dc_];rw [aU a] at h1;rw [az b] at h2;rw [Q6]
  conv=>rhs;rw [h1,h2]
  rw [Int.neg_mul]
 ·rw [QC a,Qr b,aU dc_];rw [az a] at h1;rw [aU b] at h2;rw [Q6]
  conv=>rhs;rw [h1,h2]
  rw [Int.mul_neg]
 rw [QC a,QC b,az dc_];rw [az a] at h1;rw [az b] at h2;rw [Q6]
 conv=>rhs;rw [h1,h2]
theorem nT (c:a<B9 ^ k)(d:b<B9 ^ k):a*b<B9 ^ (k+k):=by
 rw [S7];exact Sb c d
theorem FE (a:z.natAbs<1000000000)(b:w.natAbs<1000000000):-1000000000000000000<z*w/\z*w<1000000000000000000:=by
 have h:z.natAbs*w.natAbs<=999999999*999999999:=RP om_ om_;rw [<- RQ] at h;omega
theorem kM (C:Mem)(d:Tabs C)(z w:Int)(k:Nat)(e:0<k)(x:k<=40000)(b:z.natAbs<B9 ^ k)(c:w.natAbs<B9 ^ k):Gives cx.P 146 [ah (txt z),ah (txt w)] C (ah (txt (z*w))):=by
 have y:=bZ b e;have A:=bZ c e;refine Ud func146 43 U3 fun w0=>TT 1 [0,1] Z<|TU 1 Z fun R a=>Uk (jD _ z 9 om_) U7 fl_<|C4 5 [0,1,5,6] a Z<|TT 1 [0,1,5,16] Z<|G.cut (fun fr C' r s=>(True)/\fr=[(0,[],ah (txt z)),(1,[],ah (txt w))]/\r=[]) ?_ (fun fr _ B s _ t=>?_)
 ·refine TW (fun f=>?_) fun f=>?_
  ·have g:=aJ f;rw [aU g];have h:=zo g;rw [e9] at h;refine TU 1 Z fun R a=>Uk (jD _ w 9 om_) U7 fl_<|C4 5 [0,1,5,7,8] a Z<|TT 1 [0,1,5,7,22] Z<|TW (fun i=>?_) fun i=>?_
   ·have l:=aJ i;rw [aU l];have m:=zo l;rw [e9] at m;have D:=FE h m;exact TU 2 Z fun R a=>UG ((z*w)) U4 om_ om_ om_ U2<|Uk (se _ d.m_ (z*w) om_ om_) U7 fl_<|C4 1 [4] a Z<|Ub U2<|⟨Z,Z⟩
   refine Uj 0 (Mem.le.refl _) (hn_ [0,1] Z) ⟨trivial,Z,Z⟩
  refine Uj 0 (Mem.le.refl _) (hn_ [0,1] Z) ⟨trivial,Z,Z⟩
 obtain ⟨_,rfl,rfl⟩:=t;refine TU 1 Z fun R a=>Uz (iV _ z om_) U7 fl_ fun E _ _ u=>TX U6<|Uz (iV _ w om_) U7 fl_ fun F _ _ v=>Uo U5 fun H=>Uo U5 (fun I=>?_);obtain ⟨J,rfl,o⟩:=u;obtain ⟨K,rfl,p⟩:=v;obtain ⟨L,M,N,rfl⟩:=o.form;obtain ⟨O,Q,S,rfl⟩:=p.form;refine Uf (j:=1) U12<|Uf (j:=1) U12<|TZ [9,10] a Z<|Ur [0,1,2,3,4,5,6,7,8,9,10,11,12] [(11,1)] Z kr_ fun R T a=>TX U6<|Uc ae U9<|TX U6<|Uc af U9<|Ua 2 Z<|Uc ae U9<|TX U6<|Uc af U9<|Uz (EK (k:=k) _ o.m_ p.m_ b c om_) U7 fl_ (fun U _ _ q=>?_);obtain ⟨V,W,X,rfl⟩:=q.form;exact Un [.bool (decide (z<0) != decide (w<0)),_] U8<|Us (fun _=>(jS _ d.m_ _ _ _ q (dy (k:=100000) (n:=k+k) (nT b c) om_))) U9<|C4 1 [4] a Z<|Ub U2<|⟨by rw [Mk],Z⟩
end Go.Proofs.YthnpijdjlddpmaaGreatDoor
