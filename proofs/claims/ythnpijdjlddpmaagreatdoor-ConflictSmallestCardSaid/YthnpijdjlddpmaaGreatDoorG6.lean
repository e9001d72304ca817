/- Laws that the proofs of this seat share, part 6. -/
import Derived.Test.YthnpijdjlddpmaaGreatDoorG5
import Derived.Test.YthnpijdjlddpmaaGreatDoorShelf
set_option maxHeartbeats 4000000
namespace Go.Proofs.YthnpijdjlddpmaaGreatDoor
open Go.Proofs.Tryz
open Go Go.Jog
set_option maxRecDepth 100000
variable {Q a b i j k:Nat}{l:List Nat}{m n:Nat}{o p:List Int}{q:List Nat}{s:Str}{t:Nat}{w:Int}{x:Nat}{z:Int}
def gI (p:List Int)(i:Nat):Int:=p.getD i 0
theorem G7 (h:k<p.length):(p.map me)[k]?=some (me (gI p k))/\p[k]?=some (gI p k):=by
 have e:p[k]?=some (gI p k):=by
  unfold gI;rw [ax,ak h];rfl
 exact ⟨by rw [Qn,e];rfl,e⟩
theorem sr (h:p.length<=k):gI p k=0:=by
 unfold gI;rw [ax,Qr h];rfl
theorem L3 (p:List Int)(k:Nat):iM (p.take (k+1))=iM (p.take k)+(10000:Int) ^ k*gI p k:=by
 rcases QU k p.length with h | h
 ·exact EK (G7 h).2
 rw [sr h,QI h,QI om_];simp
theorem FE (o:Int):(o-o % 10000).tdiv 10000=(o-o % 10000) / 10000:=Int.tdiv_eq_ediv_of_dvd (Int.dvd_of_emod_eq_zero om_)
theorem KJ (C:Mem)(v:Value)(p:List Int)(g:Sl C 1 v (p.map me))(F:0<=iM p)(H:∀ x∈p, -1000000000000<=x/\x<=1000000000000)(N:p.length<=100000):Pur cx.P 290 [v] C fun u D=>PieC D u (iM p).toNat:=by
 obtain ⟨k,c0,rfl,_⟩:=id g;simp only [al] at g ⊢;refine Uk func290 43 U3 fun w0=>Ua 1 [0] Z<|Ua 1 [0,3] Z<|Ua 1 [0,3,4] Z<|Ua 1 [0,3,4,5] Z<|G.nilArr 3 1<|G.loop (fun fr C' b c=>∃ (i:Nat)(o:Int)(out:List Nat)(w:Value),(out.length=i/\DigP out/\-1000000000000<=o/\o<=1000000000000/\iM (p.take i)=(bM out:Nat)+(10000:Int) ^ i*o/\(p.length<=i->(i:Int)+o<=1000000100000))/\fr=[(0,[],.slice k p.length c0),(3,[],w),(4,[],.int .i64 o),(5,[],.int .i64 i)]/\b=[.arr w 3 1 i (out.map aO).flatten]/\c=(p.length-i)*4611686018427387904+o.natAbs) (hn_ [0,3,4,5] Z) ⟨0,0,[],_,⟨Z,(fun x I=>(by cases I)),by omega,by omega,by simp [iM,bM],fun h=>by omega⟩,Z,Z,Z⟩ (fun fr O Q m _ d=>?_);obtain ⟨i,o,out,w,⟨e,l,S,T,n,B⟩,rfl,rfl,rfl⟩:=d;have q:p.length<=i->0<=o:=fun h=>by
  refine Jv e l (V:=iM p) F ?_;rw [<- n,QI h]
 have U:(i:Int)<=1000000100000:=by
  rcases QU i p.length with h | h
  ·omega
  have:=q h;have:=B h;omega
 refine Ub 7 Z fun R a=>UH U8<|Ug [0,3,4,5,14] a Z<|Ud (fun r=>?_) fun r=>?_
 ·have s:i<p.length∨o≠0:=by
   simp at r;omega
  have W:-1000000000000<=gI p i/\gI p i<=1000000000000:=by
   rcases QU i p.length with h | h
   ·exact H _ (Qj (G7 h).2)
   rw [sr h];omega
  refine Ua 4 [0,3,4,5,20] Z<|G.cut (fun fr C' b c=>(True)/\fr=[(0,[],.slice k p.length c0),(3,[],w),(4,[],.int .i64 (o+gI p i)),(5,[],.int .i64 i)]/\b=[.arr w 3 1 i (out.map aO).flatten]) ?_ (fun fr _ X c _ d=>?_)
  ·refine Ud (fun t=>?_) fun t=>?_
   ·have f:i<p.length:=by simpa using t
    refine Ub 3 Z fun R a=>Ur g.m_ U10 om_ (G7 f).1 fl_ fun Y J=>Uc J U8<|Ul _ U7<|C4 1 [0,3,4,5] a Z<|Uq 0 (Mem.le.refl _) (hn_ [0,3,4,5] Z) ⟨trivial,Z,Z⟩
   have f:p.length<=i:=by
    have:¬ i<p.length:=by simpa using t
    omega
   rw [show o=o+gI p i by rw [sr f,Int.add_zero]];refine Uq 0 (Mem.le.refl _) (hn_ [0,3,4,5] Z) ⟨trivial,by rw [sr f];simp,Z⟩
  obtain ⟨_,rfl,rfl⟩:=d;refine Ub 1 Z fun R a=>WB (Int.tmod (o+gI p i) 10000) Z Z Z Z Z Z om_ Z Z Z<|C4 1 [0,3,4,5,6] a Z ?_;have y:=Jb (o+gI p i);have aa:-10000<=Int.tmod (o+gI p i) 10000/\Int.tmod (o+gI p i) 10000<10000:=by
   have:=TH (o+gI p i) (show (10000:Int)≠0 by decide);have:=Int.emod_lt_of_pos (o+gI p i) (show (0:Int)<10000 by decide);split at y <;> omega
  refine Ua 2 [0,3,4,5,6,30] Z<|G.cut (fun fr C' b c=>(True)/\fr=[(0,[],.slice k p.length c0),(3,[],w),(4,[],.int .i64 (o+gI p i)),(5,[],.int .i64 i),(6,[],.int .i64 (((o+gI p i) % 10000).toNat:Nat))]/\b=[.arr w 3 1 i (out.map aO).flatten]) ?_ (fun fr _ ab c _ d=>?_)
  ·refine Ud (fun z=>?_) fun z=>?_
   ·have A:Int.tmod (o+gI p i) 10000<0:=by simpa using z
    rw [aV A] at y;refine Ub 1 Z fun R a=>UN (((((o+gI p i) % 10000).toNat:Nat):Int)) U4 om_ om_ om_ U2<|C4 1 [0,3,4,5,6] a Z<|Uq 0 (Mem.le.refl _) (hn_ [0,3,4,5,6] Z) ⟨trivial,Z,Z⟩
   have A:¬ Int.tmod (o+gI p i) 10000<0:=by simpa using z
   rw [aA A] at y;rw [show Int.tmod (o+gI p i) 10000=((((o+gI p i) % 10000).toNat:Nat):Int) by omega];refine Uq 0 (Mem.le.refl _) (hn_ [0,3,4,5,6] Z) ⟨trivial,Z,Z⟩
  obtain ⟨_,rfl,rfl⟩:=d;refine Ub 2 Z fun R a=>Ux [aO (((o+gI p i) % 10000).toNat)] U12 fun ac _ _ K=>D.append (j:=0) U11 K Z aw (by show (i+1)*8<=_;omega) fl_ fun E=>C4 1 [0,3,4,5,6] a Z<|Ub 2 Z fun R a=>UN ((o+gI p i-(o+gI p i) % 10000)) U4 om_ om_ om_ U2<|Vq ((o+gI p i-(o+gI p i) % 10000) / 10000) U6 om_ (FE _) (by rw [IntKind.wrap_i64];omega) U2<|C4 1 [0,3,4,5] a Z<|Ub 1 Z fun R a=>Ul _ U7<|C4 1 [0,3,4,5] a Z ?_;have hm:(p.length-(i+1))*4611686018427387904+((o+gI p i-(o+gI p i) % 10000) / 10000).natAbs<(p.length-i)*4611686018427387904+o.natAbs:=by
   rcases QU i p.length with h2 | h2
   ·omega
   have h3:=q h2;rw [sr h2];omega
  refine Ut (L':=[.arr E 3 1 (i+1) ((out++[((o+gI p i) % 10000).toNat]).map aO).flatten]) (by simp [aO])<|Un (m':=(p.length-(i+1))*4611686018427387904+((o+gI p i-(o+gI p i) % 10000) / 10000).natAbs) om_ mup (hn_ [0,3,4,5] Z) ⟨i+1,(o+gI p i-(o+gI p i) % 10000) / 10000,out++[((o+gI p i) % 10000).toNat],E,⟨by simp [e],l.snoc (by show ((o+gI p i) % 10000).toNat<10000;omega),by omega,by omega,by
   refine HJ e ?_;rw [L3,n,Tv];omega,fun h=>by
   rcases QU i p.length with h2 | h2
   ·omega
   have h3:=q h2;have h4:=B h2;rw [sr h2] at *;omega⟩,rfl,rfl,rfl⟩
 have s:p.length<=i/\o=0:=by
  simp at r;omega
 refine UC [(1,3)] Z fun R a=>Ue U6<|D.call (uN _ _ out e) Z (.inr dc_) U6 (Qo _) fl_ (fun ad _ ae _ L=>?_);obtain ⟨rfl,M⟩:=L;refine C4 1 [2] a Z<|Ui U2<|⟨Z,xl out,mj l, ?_,M⟩;rw [QI s.1,s.2] at n;rw [ip];omega
theorem zS:∀ (l:List Int)(i:Nat)(x:Int),i<l.length->iM (l.set i x)=iM l+(10000:Int) ^ i*(x-gI l i)
 | [],i,x,h=>by simp at h
 | a::l,0,x,_=>by
  show x+10000*iM l=a+10000*iM l+1*(x-a);omega
 | a::l,i+1,x,h=>by
  have b:=zS l i x (by simpa using h);show a+10000*iM (l.set i x)=a+10000*iM l+(10000:Int) ^ (i+1)*(x-gI l i);rw [b,Tv,<- Int.mul_assoc,Int.pow_succ,Int.mul_comm ((10000:Int) ^ i) 10000];omega
theorem EJ (l:List Int):iM (l++[0])=iM l:=by rw [vB];omega
structure Joins (p q:List Nat)(k:Int)(i:Nat)(o:List Int):Prop where
 len:o.length=max p.length i
 val:iM o=(bM p:Nat)+k*(bM (q.take i):Nat)
 rest:∀ j,i<=j->gI o j=(gP p j:Nat)
 lim:∀ x∈o, -100000000<=x/\x<=100000000
theorem O8 (p:List Nat)(j:Nat):gI (p.map fun x:Nat=>(x:Int)) j=(gP p j:Nat):=by
 unfold gI gP;rw [ax,ax,Qn];cases p[j]? <;> rfl
theorem yD (p q:List Nat)(k:Int)(a:DigP p):Joins p q k 0 (p.map fun x:Nat=>(x:Int)):=by
 refine ⟨by simp,by rw [zT];simp [bM],fun j _=>O8 p j,fun x b=>?_⟩;obtain ⟨y,hy,rfl⟩:=Qq.1 b;have:y<10000:=a y hy;omega
theorem Joins.zero {p:List Nat}{k:Int}(h:Joins p q k i o)(c:o.length<=i):iM (o++[0])=(bM p:Nat)+k*(bM (q.take i):Nat)/\(∀ j,i<=j->gI (o++[0]) j=(gP p j:Nat))/\(∀ x∈o++[0], -100000000<=x/\x<=100000000):=by
 refine ⟨by rw [EJ,h.val],fun j a=>?_,fun x b=>?_⟩
 ·have h1:=h.rest j a;have h2:gI o j=0:=by unfold gI;rw [ax,Qr om_];rfl
  rw [<- h1,h2];unfold gI;rw [ax,QQ om_];cases j-o.length <;> rfl
 rcases Qz.1 b with h1 | h1
 ·exact h.lim x h1
 simp at h1;subst h1;omega
theorem G6 {x:Int}(h:i≠j):gI (o.set i x) j=gI o j:=by
 unfold gI;rw [ax,ax,TM h]
theorem Dx {p:List Nat}{k:Int}{y:Nat}(d:DigP p)(f:DigP q)(a:-9999<=k/\k<=9999)(b:q[i]?=some y)(g:o.length=max p.length (i+1))
  (h:iM o=(bM p:Nat)+k*(bM (q.take i):Nat)) (c:∀ j,i<=j->gI o j=(gP p j:Nat)) (l:∀ x∈o, -100000000<=x/\x<=100000000) :
  Joins p q k (i+1) (o.set i (gI o i+k*(y:Nat))):=by
 have n:y<10000:=f y (Qj b);have r:gP p i<10000:=G5 d i;have s:-99980001<=k*(y:Int)/\k*(y:Int)<=99980001:=by
  have h0:(0:Int)<=y:=by omega
  have h1:k*(y:Int)<=9999*(y:Int):=SB a.2 h0;have h2:(-9999:Int)*(y:Int)<=k*(y:Int):=SB a.1 h0;omega
 refine ⟨by rw [Rb];exact g, ?_,fun j t=>?_,fun x m=>?_⟩
 ·rw [zS o i _ om_,h,iL b];have e:((bM (q.take i)+BP ^ i*y:Nat):Int)=(bM (q.take i):Nat)+(10000:Int) ^ i*(y:Int):=by
   rw [S1,Rc,Int.natCast_pow];rfl
  rw [e,Tv,show gI o i+k*(y:Int)-gI o i=k*(y:Int) by omega,Int.mul_left_comm];omega
 ·rw [G6 om_];exact c j om_
 rcases SU m with h1 | h1
 ·exact l x h1
 subst h1;rw [c i (Qi _)];omega
theorem BG (h:k<p.length):p[k]?=some (gI p k):=by
 unfold gI;rw [ax,ak h];rfl
theorem nk (h:CE l)(a:bM l<BP ^ m):l.length<=m:=by
 apply QT;intro b;have h1:=uY h om_;have h2:BP ^ m<=BP ^ (l.length-1):=QL dc_ om_;omega
theorem uH (x:Int):(me x).length=1:=rfl
theorem ft (x:Nat):(aO x).length=1:=rfl
theorem HK (C:Mem)(v:Value)(p:List Int)(a:p.length=n)(b:0<=iM p)(c:∀ x∈p, -1000000000000<=x/\x<=1000000000000)(d:p.length<=100000):Jog.Fn cx.P 290 [v] C [.arr v 3 1 n (p.map me).flatten] fun u C' e=>e=[]/\PieC C' u (iM p).toNat :=
 Jog.Fn.give (p.map me) kr_ (by intro r hr;obtain ⟨y,_,rfl⟩:=Qq.1 hr;rfl) (by rw [al,a]) (fun C' _ hs=>KJ C' v p hs b c d)
theorem wS (C:Mem)(I J:Value)(p q:List Nat)(k:Int)(V:Sl C 1 I (p.map aO))(d:Sl C 1 J (q.map aO))(K:DigP p)(L:DigP q)(f:-9999<=k/\k<=9999)(W:0<=(bM p:Int)+k*(bM q:Int))(aq:p.length<=50000)(ar:q.length<=50000) :
  Pur cx.P 263 [I,J,.int .i64 k,.int .i64 0] C fun u D=>PieC D u ((bM p:Int)+k*(bM q:Int)).toNat:=by
 obtain ⟨M,c0,rfl,_⟩:=id d;simp only [al] at d ⊢;refine Uk func263 45 U3 fun w0=>Ua 1 [0,1,2,3] Z<|Uf fun R a=>Vi [] U12 fl_ fun au=>Ue U6<|D.append (j:=0) U11 V (by rw [QD];intro r hr;obtain ⟨y,_,rfl⟩:=Qq.1 hr;rfl) (by rw [al];simp only [Qy,maxLen];omega) (by rw [al];show (0+p.length)*8<=_;omega) fl_ fun X=>C4 1 [1,2,3,9] a Z<|Ua 1 [1,2,3,9,10] Z<|Ut (L':=[.arr X 3 1 (p.map fun x:Nat=>(x:Int)).length (((p.map fun x:Nat=>(x:Int)).map me).flatten)]) (by rw [Q8];simp;rfl)<|G.loop (fun fr C' c g=>∃ (i:Nat)(o:List Int)(w:Value),(i<=q.length/\Joins p q k i o)/\fr=[(1,[],.slice M q.length c0),(2,[],.int .i64 k),(3,[],.int .i64 0),(9,[],w),(10,[],.int .i64 i)]/\c=[.arr w 3 1 o.length (o.map me).flatten]/\g=q.length-i) (hn_ [1,2,3,9,10] Z) ⟨0,_,_,⟨Qm _,yD p q k K⟩,Z,Z,Z⟩ (fun fr av ax m _ n=>?_);obtain ⟨i,o,w,⟨hi,b⟩,rfl,rfl,rfl⟩:=n;refine Ua 4 [1,2,3,9,10,17] Z<|Ud (fun z=>?_) fun z=>?_
 ·have A:i<q.length:=by simpa using z
  have ay:=b.len;refine G.loop (fun fr C' c g=>∃ (o2:List Int)(B:Value),((o2=o∨(o2=o++[0]/\o.length<=i)))/\fr=[(1,[],.slice M q.length c0),(2,[],.int .i64 k),(3,[],.int .i64 0),(9,[],B),(10,[],.int .i64 i)]/\c=[.arr B 3 1 o2.length (o2.map me).flatten]/\g=i+1-o2.length) (hn_ [1,2,3,9,10] Z) ⟨o,w,.inl Z,Z,Z,Z⟩ (fun fr az aA m _ n=>?_);obtain ⟨o2,B,E,rfl,rfl,rfl⟩:=n;refine WO 0 Z (fun Y N he=>?_);subst he;have aB:o2.length<=50002:=by
   have h1:o2.length<=o.length+1:=by
    have h2:=E.imp (fun e=>congrArg List.length e) (fun e=>congrArg List.length e.1);rw [Qp,aJ] at h2;omega
   omega
  refine Ub 4 Z fun R a=>UN (((i:Nat):Int)) U4 om_ om_ om_ U2<|C4 1 [1,2,3,9,10,25] a Z<|Ud (fun F=>?_) fun F=>?_
  ·have O:o2.length<=i:=by
    have:(o2.length:Int)<=i:=by simpa using F
    omega
   have aa:o2=o:=by
    refine E.elim id fun h=>?_;have:=h.1 ▸ O;rw [Qp,aJ] at this;omega
   subst aa;refine Ub 1 Z fun R a=>Ux [me 0] U12 fun aC _ _ ab=>D.append (j:=0) U11 ab Z aw (by show (o2.length+1)*8<=_;omega) fl_ fun Q=>C4 1 [1,2,3,9,10] a Z<|Ut (L':=[.arr Q 3 1 (o2++[0]).length ((o2++[0]).map me).flatten]) (by simp [me]) ?_;have aD:i+1-(o2++[0]).length<i+1-o2.length:=by rw [Qp,aJ];omega
   refine Un (m':=i+1-(o2++[0]).length) om_ mup (hn_ [1,2,3,9,10] Z) ⟨o2++[0],Q,.inr ⟨Z,O⟩,Z,Z,Z⟩
  have H:i<o2.length:=by
   have:¬ (o2.length:Int)<=i:=by simpa using F
   omega
  have ac:o2.length=max p.length (i+1)/\iM o2=(bM p:Nat)+k*(bM (q.take i):Nat)/\(∀ j,i<=j->gI o2 j=(gP p j:Nat))/\(∀ x∈o2, -100000000<=x/\x<=100000000):=by
   refine E.elim (fun h=>?_) fun h=>?_
   ·subst h;exact ⟨by omega,b.val,b.rest,b.lim⟩
   obtain ⟨h1,h2⟩:=h;subst h1;have h3:=b.zero h2;exact ⟨by rw [Qp,aJ];omega,h3⟩
  obtain ⟨ad,ae,ag,S⟩:=ac;obtain ⟨ah,aj⟩:=qe (l:=q) (k:=i) A;have aE:gP q i<10000:=G5 L i;have aF:-99980001<=k*((gP q i:Nat):Int)/\k*((gP q i:Nat):Int)<=99980001:=by
   have h0:(0:Int)<=((gP q i:Nat):Int):=by omega
   have h1:k*((gP q i:Nat):Int)<=9999*((gP q i:Nat):Int):=SB f.2 h0;have h2:(-9999:Int)*((gP q i:Nat):Int)<=k*((gP q i:Nat):Int):=SB f.1 h0;omega
  have aG:=S _ (Qj (BG H));refine Wg 0 (m:=o2.length-1) (v:=.slice Y o2.length N) (t:=3) (s:=1) (xs:=(o2.map me).flatten) (by rw [show o2.length-1+1=o2.length by omega];rfl) (fun g0 cc ak=>?_);injection ak with am aH an;subst am an;refine Uy [0,1,2,3,4,5,6,7,8,9,10,11,12,13,14] [] Z kr_ fun R hB a=>Uh 3 Z<|UN (((i:Nat):Int)) U4 om_ om_ om_ U2<|UI (i*1) U10 ai U2<|UW af U6 (fun _=>(by rw [eC uH (BG H)];rfl)) U2<|Uh 3 Z<|Ur d.m_ U10 om_ ah fl_ fun aI ao=>Uc ao U8<|Ul _ U7<|Ul _ U7<|UI (i*1) U10 ai U2<|UL (j:=0) U11 (by show i*1+1<=_;rw [bR uH];omega)<|Ug [1,2,3,9,10] a Z<|Ub 1 Z fun R a=>Ul _ U7<|C4 1 [1,2,3,9,10] a Z<|Ut (L':=[.arr (.slice (some ⟨g0,0,none⟩) o2.length N) 3 1 (o2.set i (gI o2 i+k*((gP q i:Nat):Int))).length ((o2.set i (gI o2 i+k*((gP q i:Nat):Int))).map me).flatten]) (by rw [<- bN uH _ H,Rb];rfl)<|Un (m':=q.length-(i+1)) om_ mup (hn_ [1,2,3,9,10] Z) ⟨i+1,_,_,⟨by omega,Dx K L f aj ad ae ag S⟩,Z,Z,Z⟩
 have A:i=q.length:=by
  have:¬ i<q.length:=by simpa using z
  omega
 have T:iM o=(bM p:Int)+k*(bM q:Int):=by rw [b.val,A,Qv]
 refine UC [(1,3)] Z fun R a=>Ue U6<|D.call (HK _ _ o Z (by rw [T];exact W) (fun x hx=>by have:=b.lim x hx;omega) (by have:=b.len;omega)) Z (.inr dc_) U6 (Qo _) fl_ (fun aK _ aL _ ap=>?_);obtain ⟨rfl,U⟩:=ap;refine C4 1 [8] a Z<|Ui U2 ?_;rw [T] at U;exact ⟨Z,U⟩
theorem N8 (n:Nat):kp ([.int .i64 0]:List Value) n=((List.replicate n 0).map aO).flatten:=by
 rw [eg,Tn];rfl
theorem vA (h:j<l.length):bM (l.drop j)=gP l j+BP*bM (l.drop (j+1)):=by
 rw [QK h,(aE.1 (qe h).2).2];rfl
theorem tE (h:j<l.length):bM ((l.set j x).drop j)=x+BP*bM (l.drop (j+1)):=by
 rw [vA (by rw [Rb];exact h),List.drop_set_of_lt om_];congr 1;unfold gP;rw [ax,Tw h];rfl
theorem Km (h:DigP l)(a:x<BP):DigP (l.set j x):=fun y hy=>by
 rcases SU hy with h1 | h1
 ·exact h y h1
 rw [h1];exact a
theorem Bh (C:Mem)(O Q:Value)(p q:List Nat)(v:Sl C 1 O (p.map aO))(g:Sl C 1 Q (q.map aO))(ah:DigP p)(w:CE q)(i:0<bM q)(aG:p.length<=10000)(aH:q.length<=10000) :
  Pur cx.P 261 [O,Q] C fun u D=>∃ u1 S,u=.tuple #[u1,S]/\PieC D u1 (bM p / bM q)/\PieC D S (bM p % bM q):=by
 obtain ⟨T,c0,rfl,_⟩:=id v;obtain ⟨U,V,rfl,_⟩:=id g;simp only [al] at v g ⊢;refine Uk func261 58 U3 fun w0=>Ua 2 [0,1] Z<|Ub 2 Z fun R b=>Vc U9 (Qi _) (by show 8*p.length<=281474976710656;omega) (by simp only [maxLen];omega) fl_ fun d=>C4 1 [0,1,6] b Z<|Ua 1 [0,1,6,7] Z<|Ub 2 Z fun R b=>Ul _ U7<|C4 1 [0,1,6,7,8] b Z<|Ut (L':=[.arr (qW d p.length p.length) 3 1 p.length ((List.replicate p.length 0).map aO).flatten]) (by rw [<- N8];rfl)<|G.loop (fun fr C' e z=>∃ (k:Nat)(o l:List Nat)(A:Value),(k<=p.length/\o.length=p.length/\DigP o/\bM (o.drop k)=bM (p.drop k) / bM q/\Sl C' 1 A (l.map aO)/\CE l/\bM l=bM (p.drop k) % bM q)/\fr=[(0,[],.slice T p.length c0),(1,[],.slice U q.length V),(6,[],qW d p.length p.length),(7,[],A),(8,[],.int .i64 ((k:Int)-1))]/\e=[.arr (qW d p.length p.length) 3 1 p.length (o.map aO).flatten]/\z=k+1) (hn_ [0,1,6,7,8] Z) ⟨p.length,List.replicate p.length 0,[],.slice none 0 0,⟨Qi _,RK,(fun x c=>by rw [Sr c];decide),by rw [Rq,S5 am];simp [bM],Sl.nil _ _,⟨fun x c=>(by cases c),by simp⟩,by rw [Rq];simp [bM]⟩,Z,Z,Z⟩ (fun fr aI aK m _ B=>?_);obtain ⟨k,o,l,A,⟨hk,W,X,Y,hs,E,F⟩,rfl,rfl,rfl⟩:=B;refine Ua 2 [0,1,6,7,8,19] Z<|Ud (fun H=>?_) fun H=>?_
 ·have aa:0<k:=by
   have:(0:Int)<=(k:Int)-1:=by simpa using H
   omega
  obtain ⟨j,rfl⟩:∃ j,k=j+1:=⟨k-1,by omega⟩;rw [show ((j+1:Nat):Int)-1=(j:Int) by omega];obtain ⟨aj,aL⟩:=qe (l:=p) (k:=j) om_;have c:gP p j<BP:=G5 ah j;have aM:gP p j<10000:=c;have aN:l.length<=q.length:=nk E (by rw [F];exact SA (Q2 _ i) (mI w.1));have ak:DigP (gP p j::l):=fun y hy=>by
   rcases Qw.1 hy with h | h
   ·rw [h];exact c
   exact E.1 y h
  refine UC [(7,3)] Z fun R b=>Uh 2 Z<|Ur v.m_ U10 om_ aj fl_ fun aP an=>Uc an U8<|Vi [aO (gP p j)] U12 fl_ fun aQ=>Ue U6<|D.append (j:=0) U11 hs.m_ (by rw [QD];intro r hr;obtain ⟨y,_,rfl⟩:=Qq.1 hr;rfl) (by rw [al];simp only [aJ,maxLen];omega) (by rw [al];show (1+l.length)*8<=_;omega) fl_ fun aR=>D.call (uN _ _ (gP p j::l) (n:=1+(l.map aO).length) (by rw [al];simp;omega)) Z (.inr dc_) U6 (Qo _) fl_ (fun ab ao aS _ ap=>?_);obtain ⟨rfl,I⟩:=ap;refine C4 1 [0,1,6,7,8] b Z ?_;obtain ⟨r,ac,J,ad,aT⟩:∃ r,CE r/\bM r=gP p j+BP*(bM (p.drop (j+1)) % bM q)/\Sl ao 1 ab (r.map aO)/\r.length<=20000:=⟨xl (gP p j::l),mj ak,by rw [ip];show gP p j+BP*bM l=_;rw [F],I,by unfold xl;rw [Qx,QA];omega⟩;have K:=Hi (t:=bM (p.drop (j+1))) (x:=gP p j) i;rw [<- vA om_,<- J] at K;have aq:bM r / bM q<BP:=by rw [J];exact xi i c
  have aU:bM r / bM q<10000:=aq;refine Ua 2 [0,1,6,7,8,9,10] Z<|G.loop (fun fr C' e z=>∃ (low a:Nat),(low<=bM r / bM q/\bM r / bM q<=a/\a<=9999)/\fr=[(0,[],.slice T p.length c0),(1,[],.slice U q.length V),(6,[],qW d p.length p.length),(7,[],ab),(8,[],.int .i64 j),(9,[],.int .i64 low),(10,[],.int .i64 a)]/\e=[.arr (qW d p.length p.length) 3 1 p.length (o.map aO).flatten]/\z=a-low) (hn_ [0,1,6,7,8,9,10] Z) ⟨0,9999,⟨Qm _,by omega,Qi _⟩,Z,Z,Z⟩ (fun fr aV aW m _ B=>?_);obtain ⟨low,a,⟨ar,au,av⟩,rfl,rfl,rfl⟩:=B;refine Ua 3 [0,1,6,7,8,9,10,32] Z<|Ud (fun L=>?_) fun L=>?_
  ·have s:low<a:=by simpa using L
   obtain ⟨aw,ax⟩:=Nn i ar au s;refine Ub 2 Z fun R b=>Ul _ U7<|Ul _ U7<|Vq ((((low+a+1) / 2:Nat):Int)) U6 om_ (by rw [SS om_];omega) (by rw [IntKind.wrap_i64];omega) U2<|C4 1 [0,1,6,7,8,9,10,11] b Z<|Ub 3 Z fun R b=>UG (wS _ _ _ [] q ((((low+a+1) / 2:Nat):Int)) (Sl.nil _ _) g.m_ (fun x c=>(by cases c)) w.1 om_ (by rw [<- Rc];omega) am om_) U7 fl_ (fun aX _ _ ay=>?_);obtain ⟨l2,az,aA,aB⟩:=ay;have ae:bM l2=bM q*((low+a+1) / 2):=by
    have h0:((bM ([]:List Nat):Nat):Int)=0:=rfl;rw [aA,h0,Int.zero_add,<- Rc,R5,Q7]
   refine Uo (Jt _ _ _ r l2 ad.m_ aB.m_ ac az) U7<|Ug [0,1,6,7,8,9,10,11,42] b Z<|Ud (fun M=>?_) fun M=>?_
   ·have N:bM r<bM q*((low+a+1) / 2):=by
     rw [<- ae];simpa using M
    have f:=aw N;refine Ub 1 Z fun R b=>Ul _ U7<|C4 1 [0,1,6,7,8,9,10] b Z ?_;rw [show ((((low+a+1) / 2:Nat):Int))-1=(((low+a+1) / 2-1:Nat):Int) by omega];refine Un (m':=(low+a+1) / 2-1-low) om_ mup (hn_ [0,1,6,7,8,9,10] Z) ⟨low,(low+a+1) / 2-1,⟨f.1,f.2,by omega⟩,Z,Z,Z⟩
   have N:¬ bM r<bM q*((low+a+1) / 2):=by
    rw [<- ae];simpa using M
   have f:=ax N;refine Ua 2 [0,1,6,7,8,9,10] Z<|Un (m':=a-(low+a+1) / 2) om_ mup (hn_ [0,1,6,7,8,9,10] Z) ⟨(low+a+1) / 2,a,⟨f.1,f.2,av⟩,Z,Z,Z⟩
  have s:low=bM r / bM q:=by
   have:¬ low<a:=by simpa using L
   omega
  have af:((bM r:Nat):Int) + -(low:Int)*((bM q:Nat):Int)=((bM r % bM q:Nat):Int):=by
   have h1:=Ti (bM r) (bM q);rw [<- s] at h1;have h2:((bM q*low+bM r % bM q:Nat):Int)=(bM r:Nat):=by rw [h1]
   rw [S1,Rc] at h2;rw [Int.neg_mul,Int.mul_comm (low:Int)];omega
  refine Ub 3 Z fun R b=>UI (j*1) U10 ai U2<|UL (j:=0) U11 (by show j*1+1<=_;rw [bR ft];omega)<|Ug [0,1,6,7,8,9] b Z<|Ub 4 Z fun R b=>?_;rw [show IntKind.i64.wrap (0-(low:Int))=-(low:Int) by rw [IntKind.wrap_i64];omega];refine UG (wS _ _ _ r q (-(low:Int)) ad.m_ g.m_ ac.1 w.1 om_ (by rw [af];omega) om_ om_) U7 fl_ (fun aY _ _ aC=>?_);obtain ⟨l3,aD,ag,aE⟩:=aC;rw [af,R5] at ag;refine C4 1 [0,1,6,7,8] b Z<|Ub 1 Z fun R b=>Ul _ U7<|C4 1 [0,1,6,7,8] b Z<|Ut (L':=[.arr (qW d p.length p.length) 3 1 p.length ((o.set j low).map aO).flatten]) (by rw [<- bN ft _ (by omega:j<o.length)];rfl)<|Un (m':=j+1) om_ mup (hn_ [0,1,6,7,8] Z) ⟨j,o.set j low,l3,_,⟨by omega,by rw [Rb];exact W,Km X (by show low<BP;omega),by rw [tE om_,Y,K.1,s];omega,aE.mono mup,aD,by rw [ag,K.2,J]⟩,Z,Z,Z⟩
 have aa:k=0:=by
  have:¬ (0:Int)<=(k:Int)-1:=by simpa using H
  omega
 subst aa;refine UC [(1,3)] Z fun R b=>Ue U6<|D.call (uN _ _ o W) Z (.inr dc_) U6 (Qo _) fl_ (fun aZ _ a0 _ aF=>?_);obtain ⟨rfl,I⟩:=aF;refine C4 3 [4,5] b Z<|Up (G.dropAll (UD U3 ?_));exact ⟨Z,_,_,Z,⟨xl o,mj X,by rw [ip,<- Ru (l:=o),Y,Ru],I⟩,⟨l,E,by rw [F,Ru],hs.mono mup⟩⟩
theorem dD (z:Int):cJ 45 (txt z)=(bq z.natAbs,decide (z<0)):=by
 unfold txt;split
 ·rename_i h;rw [QC h];rfl
 rename_i h;rw [QJ h];unfold cJ;rw [aA];intro h0;have h1:=(bC z.natAbs).1.1 45 (List.mem_of_mem_head? h0);revert h1;decide
theorem zX (z:Int):txt z=[48] ↔ z=0:=by
 constructor
 ·intro h;have h1:(cJ 45 (txt z)).1=[48]:=by rw [h];rfl
  rw [dD] at h1;have h2:=(bC z.natAbs).2;have h3:bq z.natAbs=[48]:=h1;rw [h3] at h2;have h4:bV [48]=0:=rfl;omega
 rintro rfl;unfold txt;rw [aA om_,show bq (0:Int).natAbs=bq 0 from rfl,bq];rfl
theorem lu (z:Int):((⟨(txt z).toArray⟩:ByteArray).data.toList == (⟨#[48]⟩:ByteArray).data.toList)=decide (z=0):=by
 show (txt z == [48])=_;rw [Pb,Q4];exact zX z
theorem de (n:Nat):txt (n:Int)=bq n:=by
 unfold txt;rw [aA om_];rfl
theorem fD (C:Mem)(z:Int):Gives cx.P 258 [ah (txt z)] C (.tuple #[.bool (decide (z<0)),ah (bq z.natAbs)]):=by
 have h:=split_fn C (txt z)
 rwa [dD] at h
theorem Hs {c:UInt8}(h:s[i]?=some c):bV (s.take (i+1))=10*bV (s.take i)+(c.toNat-48):=by
 rw [Ht h];omega
theorem xk (a:∀ c∈s,eP c=true)(d:s.length<=17)(i:Nat):bV (s.take i)<100000000000000000:=by
 have h1:=dV (s:=s.take i) (fun c b=>a c (Rt b));have h2:10 ^ (s.take i).length<=10 ^ 17:=QL dc_ (by rw [Qx];omega);omega
theorem IQ (C:Mem)(z:Int)(b:(bq z.natAbs).length<=17):Gives cx.P 287 [ah (txt z)] C (.tuple #[.int .i64 z,.bool true]):=by
 obtain ⟨s,k⟩:∃ s,bq z.natAbs=s:=⟨_,rfl⟩;have hs:=(bC z.natAbs).1.1;have d:=(bC z.natAbs).2;rw [k] at b hs d;refine Uk func287 45 U3 fun w0=>Ua 2 [0] Z<|Ub 1 Z fun R a=>Us (by have h:=fD C z;rw [k] at h;exact h) U7 fl_<|C4 5 [4,5] a Z<|Ua 3 [4,5,16] Z<|Ud (fun l=>?_) fun l=>?_
 ·exfalso;have:(s.length:Int) > 19:=by simpa using l
  omega
 refine Ua 1 [4,5,6] Z<|Ua 1 [4,5,6,7] Z<|G.loop (fun fr C' p q=>∃ (i:Nat),(i<=s.length)/\fr=[(4,[],.bool (decide (z<0))),(5,[],ah s),(6,[],.int .i64 (-((bV (s.take i):Nat):Int))),(7,[],.int .i64 i)]/\p=[]/\q=s.length-i) (hn_ [4,5,6,7] Z) ⟨0,Qm _,Z,Z,Z⟩ (fun fr w x m _ r=>?_);obtain ⟨i,y,rfl,rfl,rfl⟩:=r;refine Ua 4 [4,5,6,7,20] Z<|Ud (fun e=>?_) fun e=>?_
 ·have f:i<s.length:=by simpa using e
  obtain ⟨c,g⟩:∃ c,s[i]?=some c:=⟨s[i],ak f⟩;have t:=hs c (Qj g);have A:48<=c.toNat/\c.toNat<=57:=by simpa [eP] using t
  have B:=xk hs b i;have u:(-9223372036854775808+(((c.toNat:Nat):Int)-48)).tdiv 10=-((9223372036854775808-(((c.toNat:Nat):Int)-48)) / 10):=by
   rw [show (-9223372036854775808+(((c.toNat:Nat):Int)-48))=-(9223372036854775808-(((c.toNat:Nat):Int)-48)) by omega,Int.neg_tdiv,SS om_]
  refine Ub 2 Z fun R a=>U0 U8 (fun _=>⟨by omega,g⟩) U2<|UQ (c:=((c.toNat:Nat):Int)) U8 (by rw [IntKind.wrap_i64];omega) fl_<|Ul _ U7<|C4 1 [4,5,6,7,8] a Z<|Ub 2 Z fun R a=>Ul _ U7<|Vq (-((9223372036854775808-(((c.toNat:Nat):Int)-48)) / 10)) U6 om_ u (by rw [IntKind.wrap_i64];omega) U2<|C4 1 [4,5,6,7,8,32] a Z<|Ud (fun n=>?_) fun n=>?_
  ·exfalso;simp only [Qs] at n;omega
  refine Ub 1 Z fun R a=>Ul _ U7<|Ue U6<|Ul _ U7<|C4 1 [4,5,6,7] a Z<|Ub 1 Z fun R a=>Ul _ U7<|C4 1 [4,5,6,7] a Z ?_;rw [show 10 * -((bV (s.take i):Nat):Int)-(((c.toNat:Nat):Int)-48)=-((bV (s.take (i+1)):Nat):Int) by rw [Hs g];omega];refine Un (m':=s.length-(i+1)) om_ mup (hn_ [4,5,6,7] Z) ⟨i+1,om_,Z,Z,Z⟩
 have f:i=s.length:=by
  have:¬ i<s.length:=by simpa using e
  omega
 rw [f,Qv,d];refine Ua 2 [6,37] Z<|Ud (fun j=>?_) fun j=>?_
 ·have v:z<0:=by simpa using j
  refine Ua 3 [2,3] Z<|Up (G.dropAll (UD U3 ?_));refine ⟨?_,Z⟩;rw [show -((z.natAbs:Nat):Int)=z by omega]
 have v:¬ z<0:=by simpa using j
 have D:z.natAbs<100000000000000000:=by
  have:=xk hs b s.length
  rwa [Qv,d] at this
 refine Ua 3 [6,40] Z<|Ud (fun o=>?_) fun o=>?_
 ·exfalso;simp at o;omega
 refine Ua 4 [2,3] Z<|Up (G.dropAll (UD U3 ?_));refine ⟨?_,Z⟩;rw [show IntKind.i64.wrap (0 - -((z.natAbs:Nat):Int))=z by rw [IntKind.wrap_i64];omega]
theorem Cc (C:Mem)(z:Int):Gives cx.P 260 [ah (txt z)] C (.tuple #[.int .i64 (if (bq z.natAbs).length<=17 then z else 0),.bool (decide ((bq z.natAbs).length<=17))]):=by
 refine Uk func260 18 U3 fun w0=>Ua 2 [0] Z<|Ub 1 Z fun R b=>Uo (fD C z) U7<|C4 5 [0,5] b Z<|Ua 3 [0,13] Z<|Ud (fun c=>?_) fun c=>?_
 ·have a:¬ (bq z.natAbs).length<=17:=by
   have:((bq z.natAbs).length:Int) > 17:=by simpa using c
   omega
  refine Ua 2 [2,3] Z<|Up (G.dropAll (UD U3 ?_));rw [aA a,QJ a];exact ⟨Z,Z⟩
 have a:(bq z.natAbs).length<=17:=by
  have:¬ ((bq z.natAbs).length:Int) > 17:=by simpa using c
  omega
 refine Ub 1 Z fun R b=>Uo (IQ _ z a) U7<|C4 4 [2,3] b Z<|Up (G.dropAll (UD U3 ?_));rw [aV a,QC a];exact ⟨Z,Z⟩
theorem lJ (C:Mem)(a:Tabs C)(z:Int)(b:-9223372036854775808<=z)(c:z<=9223372036854775807):Gives cx.P 148 [.int .i64 z] C (ah (txt z)):=by
 exact Uk func148 5 U3 fun w0=>Ua 1 [0] Z<|Ub 1 Z fun R d=>Uo (ji _ a z b c) U7<|C4 1 [2] d Z<|Ui U2<|⟨Z,Z⟩
theorem yh (C:Mem)(z:Int):Gives cx.P 221 [ah (txt z)] C (.int .i64 (if z<0 then -1 else if z=0 then 0 else 1)):=by
 refine Uk func221 13 U3 fun w0=>Ua 1 [0] Z<|Ub 1 Z fun R e=>Uo (fD C z) U7<|C4 5 [0,3] e Z<|Ua 1 [0,10] Z<|Ud (fun b=>?_) fun b=>?_
 ·have c:z<0:=by simpa using b
  refine Ua 1 [2] Z<|Ui U2 ?_;rw [aV c];exact ⟨Z,Z⟩
 have c:¬ z<0:=by simpa using b
 rw [aA c];refine Ua 2 [12] Z<|Ud (fun a=>?_) fun a=>?_
 ·rw [lu] at a;have d:z=0:=by simpa using a
  refine Ua 1 [2] Z<|Ui U2 ?_;rw [aV d];exact ⟨Z,Z⟩
 rw [lu] at a;have d:¬ z=0:=by simpa using a
 refine Ua 1 [2] Z<|Ui U2 ?_;rw [aA d];exact ⟨Z,Z⟩
theorem sb (C:Mem)(z:Int)(d:(bq z.natAbs).length<=1000000):Gives cx.P 222 [ah (txt z)] C (ah (txt (-z))):=by
 refine Uk func222 18 U3 fun w0=>Ua 1 [0] Z<|Ub 1 Z fun R a=>Uo (fD C z) U7<|C4 5 [0,3,4] a Z<|Ub 4 Z fun R a=>UH U8<|Ug [4,14] a Z<|Ud (fun b=>?_) fun b=>?_
 ·rw [lu] at b;have c:z<=0:=by simp at b;omega
  refine Ua 2 [2] Z<|Ui U2<|⟨?_,Z⟩;rw [show txt (-z)=bq z.natAbs by rw [show -z=((z.natAbs:Nat):Int) by omega,de]]
 rw [lu] at b;have c:0<z:=by simp at b;omega
 refine Ub 1 Z fun R a=>Va U6 (fun _=>(by simp only [QA,Qy];omega)) U2<|C4 1 [2] a Z<|Ui U2<|⟨?_,Z⟩;rw [show txt (-z)=45::bq z.natAbs by unfold txt;rw [aV om_];congr 2;omega];rfl
theorem ta (C:Mem)(z:Int):Gives cx.P 259 [ah (txt z)] C (ah (bq z.natAbs)):=by
 exact Uk func259 11 U3 fun w0=>Ua 1 [0] Z<|Ub 1 Z fun R a=>Uo (fD C z) U7<|C4 5 [4] a Z<|Ua 2 [2] Z<|Ui U2<|⟨Z,Z⟩
theorem Qk:BP ^ 200=10 ^ 800:=by decide +kernel
theorem gF (h:n<BP ^ 200):(bq n).length<=800:=eF (by rw [<- Qk];exact h) om_
theorem PieC.take {D:Mem}{u:Value}(h:PieC D u n)(a:n<BP ^ 201):∃ l,CE l/\bM l=n/\l.length<=201/\Sl D 1 u (l.map aO):=by
 obtain ⟨l,h1,h2,h3⟩:=h;exact ⟨l,h1,h2,nk h1 (by rw [h2];exact a),h3⟩
theorem nR (C:Mem)(n:Nat)(h:n<BP ^ 200):Pur cx.P 262 [ah (bq n)] C fun u D=>∃ l,CE l/\bM l=n/\l.length<=200/\Sl D 1 u (l.map aO) :=
 (Mh C (bq n) (bC n).1.1 (by have:=gF h;omega)).mono fun u D _ _ ⟨h0,l,h1,h2,h3⟩=>⟨h0,l,h1,by rw [h2,(bC n).2],nk h1 (by rw [h2,(bC n).2];exact h),h3⟩
theorem Pw:BP ^ 200+BP ^ 200<BP ^ 201:=by decide +kernel
theorem Cb (h:(bq z.natAbs).length<=17):z.natAbs<100000000000000000:=by
 have h1:=dV (bC z.natAbs).1.1;rw [(bC z.natAbs).2] at h1;have h2:10 ^ (bq z.natAbs).length<=10 ^ 17:=QL dc_ h;omega
theorem Mp (h:decide (z<0)=decide (w<0)):sgZ (decide (z<0)) (z.natAbs+w.natAbs)=z+w:=by
 rw [Q4] at h;unfold sgZ;by_cases a:z<0
 ·have:=h.1 a;rw [QC a,aV rfl];omega
 have:¬ w<0:=fun h1=>a (h.2 h1);rw [QJ a,aA am];omega
theorem Mq (h:decide (z<0)≠decide (w<0))(b:¬ z.natAbs<w.natAbs):sgZ (decide (z<0)) (z.natAbs-w.natAbs)=z+w:=by
 rw [ne_eq,Q4] at h;unfold sgZ;by_cases a:z<0
 ·have:¬ w<0:=fun h1=>h ⟨fun _=>h1,fun _=>a⟩;rw [QC a,aV rfl];omega
 have:w<0:=QT fun h1=>h ⟨fun h2=>absurd h2 a,fun h2=>absurd h2 h1⟩;rw [QJ a,aA am];omega
theorem oR (C:Mem)(n:Nat):Gives cx.P 258 [ah (bq n)] C (.tuple #[.bool false,ah (bq n)]):=by
 have h:=fD C (n:Int);rw [de,QJ om_] at h;exact h
theorem qK (C:Mem)(n:Nat):Gives cx.P 260 [ah (bq n)] C (.tuple #[.int .i64 (if (bq n).length<=17 then (n:Int) else 0),.bool (decide ((bq n).length<=17))]):=by
 have h:=Cc C (n:Int);rw [de] at h;exact h
theorem qL (h:(bq n).length<=17):n<100000000000000000:=Cb (z:=(n:Int)) h
theorem Gb (C:Mem)(a:Tabs C)(n:Nat)(h:n<=9223372036854775807):Gives cx.P 148 [.int .i64 n] C (ah (bq n)):=by
 have h:=lJ C a (n:Int) om_ om_
 rwa [de] at h
theorem uo (C:Mem)(a:Tabs C)(v:Value)(l:List Nat)(b:Sl C 1 v (l.map aO))(c:DigP l)(d:l.length<=100000):Gives cx.P 264 [.bool false,v] C (ah (bq (bM l))):=by
 have h:=Gt C a false v l b c d;rw [show sgZ false (bM l)=((bM l:Nat):Int) from rfl,de] at h;exact h
theorem PI {q:Nat}(h:q<=9223372036854775807):IntKind.i64.wrap ((q:Nat):Int)=(q:Nat):=by rw [IntKind.wrap_i64];omega
theorem mf (C:Mem)(d:Tabs C)(a b:Nat)(l:a<BP ^ 200)(m:b<BP ^ 200)(e:0<b):Gives cx.P 224 [ah (bq a),ah (bq b)] C (.tuple #[ah (bq (a / b)),ah (bq (a % b))]):=by
 have D:=Pw;refine Uk func224 93 U3 fun w0=>Ua 2 [0,1] Z<|Ub 1 Z fun R c=>Uo (qK C a) U7<|C4 5 [0,1,6,7] c Z<|Ub 1 Z fun R c=>Uo (qK _ b) U7<|C4 5 [0,1,6,7,8,9] c Z<|Ub 3 Z fun R c=>UB U8<|Ug [0,1,6,8,31] c Z<|Ud (fun f=>?_) fun f=>?_
 ·have hs:(bq a).length<=17/\(bq b).length<=17:=by simpa using f
  have h1:=qL hs.1;have h2:=qL hs.2;rw [aV hs.1,aV hs.2];have h0:=Rm a b;refine Uy [0,1,2,3,4,5,6,7] [] Z kr_ fun R E c=>Uh 2 Z<|Vq (((a / b:Nat):Int)) U6 om_ (by rw [SS om_];rfl) (PI om_) U2<|Uh 2 Z<|Vm U6 om_ om_ U2<|C4 2 [6,8,10,11] c Z<|Ua 2 [6,8,10,11,39] Z<|Ud (fun g=>?_) fun g=>?_
  ·exfalso;have h3:=TH (a:Int) (show (b:Int)≠0 by omega);simp only [Qs] at g;omega
  rw [<- Int.natCast_emod];have h3:=Rm a b;have h4:=Q2 a e;refine Ub 1 Z fun R c=>Us (Gb _ d (a / b) om_) U7 fl_<|Ue U6<|Us (Gb _ d (a % b) om_) U7 fl_<|C4 2 [4,5] c Z<|Up (G.dropAll (UD U3 ?_));exact ⟨Z,Z⟩
 refine Ub 1 Z fun R c=>Uo (oR _ a) U7<|C4 5 [1,12,13] c Z<|Ub 1 Z fun R c=>Uo (oR _ b) U7<|C4 5 [12,13,14,15] c Z<|Ub 1 Z fun R c=>UM (nR _ a l) U7 (fun F _ _ n=>?_);obtain ⟨lp,o,p,H,q⟩:=n;refine Ue U6<|UM (nR _ b m) U7 (fun I _ _ r=>?_);obtain ⟨s,t,u,J,v⟩:=r;refine UG (Bh _ _ _ lp s q.m_ v.m_ o.1 t om_ om_ om_) U7 fl_ (fun K _ _ w=>?_);obtain ⟨u1,L,rfl,h,i⟩:=w;rw [p,u] at h i;obtain ⟨l1,x,y,M,z⟩:=PieC.take h (by have:=Rm a b;omega);obtain ⟨l2,A,B,N,j⟩:=PieC.take i (by have:=Q2 a e;omega);obtain ⟨A2,c2,rfl,_⟩:=id j;refine C4 5 [12,14,15,16,17] c Z<|Ub 5 Z fun R c=>UB U8<|Ug [12,14,15,16,17,78] c Z<|Ud (fun k=>?_) fun k=>?_
 ·exfalso;simp at k
 refine Ub 4 Z fun R c=>Us (uo _ d.m_ _ l1 z.m_ x.1 om_) U7 fl_<|Ue U6<|Us (uo _ d.m_ _ l2 j.m_ A.1 om_) U7 fl_<|C4 2 [4,5] c Z<|Up (G.dropAll (UD U3 ?_));rw [y,B];exact ⟨Z,Z⟩
theorem LM (n:Nat):((⟨(bq n).toArray⟩:ByteArray).data.toList == (⟨#[48]⟩:ByteArray).data.toList)=decide (n=0):=by
 have h:=lu (n:Int);rw [de] at h;rw [h,Q4];omega
theorem DG (C:Mem)(h:Tabs C)(z w:Int)(i:z.natAbs<BP ^ 200)(j:w.natAbs<BP ^ 200):Gives cx.P 223 [ah (txt z),ah (txt w)] C (ah (bq (Nat.gcd z.natAbs w.natAbs))):=by
 refine Uk func223 22 U3 fun w0=>Ua 1 [0,1] Z<|Ub 1 Z fun R e=>Uo (ta _ z) U7<|Ue U6<|Uo (ta _ w) U7<|C4 2 [0,1] e Z<|G.loop (fun fr C' k l=>∃ (a b:Nat),(a<BP ^ 200/\b<BP ^ 200/\Nat.gcd a b=Nat.gcd z.natAbs w.natAbs)/\fr=[(0,[],ah (bq a)),(1,[],ah (bq b))]/\k=[]/\l=b+1) (hn_ [0,1] Z) ⟨z.natAbs,w.natAbs,⟨i,j,Z⟩,Z,Z,Z⟩ (fun fr p q m _ n=>?_);obtain ⟨a,b,⟨o,f,g⟩,rfl,rfl,rfl⟩:=n;refine Ua 2 [0,1,12] Z<|Ud (fun c=>?_) fun c=>?_
 ·have d:0<b:=by
   rw [LM] at c;have:b≠0:=by simpa using c
   omega
  have r:=Q2 a d;refine Ub 2 Z fun R e=>Uo (mf _ h.m_ a b o f d) U7<|C4 5 [1,6] e Z<|Ua 4 [0,1] Z<|Un (m':=a % b+1) om_ mup (hn_ [0,1] Z) ⟨b,a % b,⟨f,by omega,by rw [<- g,Pa a b d]⟩,Z,Z,Z⟩
 have d:b=0:=by
  rw [LM] at c;simpa using c
 refine Ua 2 [4] Z<|Ui U2<|⟨?_,Z⟩;rw [<- g,d,S3]
def iH (s:Str):Int:=sgZ (cJ 45 s).2 (bV (cJ 45 s).1)
theorem xA {t:Str}(h:vw t):t.head?=some 48 ↔ bV t=0:=by
 constructor
 ·intro h0;have h1:=h.2.2 h0;cases t with
  | nil=>cases h0
  | cons b t =>
   have a:b=48:=by simpa using h0
   have d:t=[]:=by cases t with
    | nil=>rfl
    | cons c t=>simp at h1
   subst a d;rfl
 intro h0;have:=qJ h (bC 0).1 (by rw [h0,(bC 0).2]);rw [this,bq];rfl
theorem xy :xz s=true ↔ vw (cJ 45 s).1/\((cJ 45 s).2=true->0<bV (cJ 45 s).1):=by
 obtain ⟨t,neg,d⟩:∃ t b,cJ 45 s=(t,b):=⟨_,_,rfl⟩;unfold xz;rw [d];simp only [Qu,SC,Rr,ne_eq,QD,Bool.and_eq_false_imp,RR,RQ,QH];constructor
 ·rintro ⟨⟨h1,h2⟩,h3⟩;have a:vw t:=⟨h1,h2,fun h=>by
   have:=(h3 h).2;have:0<t.length:=Q3.2 h2;omega⟩
  refine ⟨a,fun c=>?_⟩;rcases RJ (bV t) with h | h
  ·have:=(h3 ((xA a).2 h)).1;rw [c] at this;cases this
  exact h
 rintro ⟨a,h⟩;refine ⟨⟨a.1,a.2.1⟩,fun h0=>?_⟩;have h1:=(xA a).1 h0;have h2:=a.2.2 h0;refine ⟨?_,by omega⟩;cases c:neg with
 | false=>rfl
 | true=>have:=h c;omega
theorem Hh (s:Str):s=if (cJ 45 s).2 then 45::(cJ 45 s).1 else (cJ 45 s).1:=by
 unfold cJ;split
 ·rename_i h;cases s with
  | nil=>cases h
  | cons b s =>
   have a:b=45:=by simpa using h
   subst a;rfl
 rfl
theorem HN (h:xz s=true):s=txt (iH s):=by
 obtain ⟨h1,h2⟩:=xy.1 h;unfold iH;rw [zY _ _ h2,<- ox h1];exact Hh s
def pi (zn:Int):Option Str->Bool
 | none=>true
 | some b=>decide (1<iH b) && !(zn == 0) && (Nat.gcd zn.natAbs (iH b).natAbs == 1)
def ba (s:Str):Bool:=cI (jU 47 s).1 && cI ((jU 47 s).2.getD [49]) && pi (iH (jU 47 s).1) (jU 47 s).2
theorem rQ :cI s=true ↔ okD (cJ 45 s).1=true/\((cJ 45 s).2=true->0<bV (cJ 45 s).1):=by
 unfold cI;rw [Qu,xy,yr,Qs];constructor
 ·rintro ⟨⟨h1,h2⟩,h3⟩;exact ⟨⟨h1,h3⟩,h2⟩
 rintro ⟨⟨h1,h3⟩,h2⟩;exact ⟨⟨h1,h2⟩,h3⟩
theorem Kr (s:Str):(iH s).natAbs=bV (cJ 45 s).1:=by
 unfold iH sgZ;split <;> omega
theorem FA (h:s.length<=n):(jU 47 s).1.length<=n/\((jU 47 s).2.getD [49]).length<=n+1:=by
 rcases gH 47 s with ⟨h1,_⟩ | ⟨a,post,h1,h2,_⟩
 ·rw [h1];exact ⟨h,by simp⟩
 have e:=congrArg List.length h2;rw [Qp,QA] at e;rw [h1];simp only [Ry];omega
theorem one_val:([49]:Str)=txt 1:=by
 unfold txt;rw [aA om_,show bq (1:Int).natAbs=bq 1 from rfl,bq];rfl
theorem sM (n:Nat):((⟨(bq n).toArray⟩:ByteArray).data.toList == (⟨#[49]⟩:ByteArray).data.toList)=(n == 1):=by
 show (bq n == [49])=_;rw [Pb,TP,Qs,RR];constructor
 ·intro h;have h2:=(bC n).2;rw [h] at h2;exact h2.symm
 rintro rfl;rw [bq];rfl
theorem F0 (C:Mem)(s:Str)(d:∀ c∈s,eP c=true)(e:s≠[])(f:s.length<=18):Gives cx.P 251 [ah s,.int .i64 10,.int .i64 64] C (.tuple #[.int .u64 (bV s),.nilIface]):=by
 refine Uk func251 26 U3 fun w0=>Ua 2 [0,1,2] Z<|Ub 3 Z fun R a=>Us (FZ Tryz.parseU s d e f _ kr_) U7 fl_<|C4 5 [0,1,2,8,9] a Z<|Ub 1 Z fun R a=>V7 false Z Z Z Z Z (.inr ⟨Z,Z⟩) kr_ Z Z<|Ug [0,1,2,8,9,18] a Z<|Ud (fun b=>?_) fun b=>?_
 ·cases b
 refine Ua 3 [6,7] Z<|Up (G.dropAll (UD U3 ?_));exact ⟨Z,Z⟩
theorem CP (C:Mem)(i:Nat)(h:i<100):Gives cx.P 269 [.int .i64 i] C (ah (bq i)):=by
 have h1:=Gives.ofCalls (f:=269) (args:=[.int .i64 i]) (P:=cx.P) kr_ (fun w=>Any.internal_strconv_small Tryz.small10 i h w) C;rw [dL] at h1;exact h1
theorem Bu (u:Nat):Lib.nDigits u=(bq u).length:=by rw [<- dL,Lib.decDigits_length]
theorem DH (C:Mem)(l:Tabs C)(u:Nat)(s:u<9223372036854775808):Gives cx.P 286 [.int .u64 u,.int .i64 10] C (ah (bq u)):=by
 refine Uk func286 32 U3 fun w0=>Ua 1 [0,1] Z<|Ua 2 [0,1,10] Z<|Ud (fun g=>?_) fun g=>?_
 ·refine Ua 2 [0,12] Z<|Ud (fun e=>?_) fun e=>?_
  ·have h:u<100:=by
    have:(u:Int)<100:=by simpa using e
    omega
   exact Ub 1 Z fun R a=>UQ (c:=(u:Int)) U8 (by rw [IntKind.wrap_i64];omega) fl_<|Uo (CP _ u h) U7<|C4 1 [4] a Z<|Ui U2<|⟨Z,Z⟩
  have h:100<=u:=by
   have:¬ (u:Int)<100:=by simpa using e
   omega
  have t:Lib.nDigits u<=19:=by
   rw [Bu];exact eF om_ om_
  refine Uf fun R a=>Uv U5 fun i=>Ug [0,5] a Z<|Ub 1 Z fun R a=>Us (wE Tryz.nDig u om_ om_ _ l.pow.m_ kr_) U7 fl_<|C4 1 [0,5,6] a Z<|UC [(3,3)] Z fun R a=>Ue U6<|VX 0 (Lib.nDigits u) 24 U12 (fun _=>⟨.inl ⟨Z,Z⟩,.inr ⟨_,Z⟩,.inl ⟨Z,Z⟩,by omega,by omega,by decide⟩) U2<|Ue U6<|D.call (yK Tryz.fmt10 i 24 u 372 (List.replicate 24 (Value.int .u8 0)) om_ (fun j d=>(by rw [R8,aV om_])) om_ _ kr_) Z (.inr dc_) U6 (Qo _) fl_ fun w _ z _ m=>Ug [5,6] a Z ?_;obtain ⟨_,rfl,cs,rfl,A,n⟩:=m;refine G.freeze 0 Z (fun o _ p=>?_);have q:(bq u).length=Lib.nDigits u:=(Bu u).symm;have k:Sl o 1 (.slice (some ⟨i,0,none⟩) ((bq u).map fun b=>[Value.int .u8 b.toNat]).length 24) ((bq u).map fun b=>[Value.int .u8 b.toNat]) :=
   Sl.ofBlock p (by intro r hr;obtain ⟨y,_,rfl⟩:=Qq.1 hr;rfl) (fun j v d=>by
    rw [gi,Qn] at d;cases f:(bq u)[j]? with
    | none=>rw [f] at d;cases d
    | some x=>rw [f] at d;cases d;simpa using n j x f) ap (by simp [maxLen])
  rw [al,q] at k;exact Ub 1 Z fun R a=>VX 0 (Lib.nDigits u) 24 U12 (fun _=>⟨.inl ⟨Z,Z⟩,.inr ⟨_,Z⟩,.inl ⟨Z,Z⟩,by omega,by omega,by decide⟩) U2<|VE k.m_ U11 fl_<|C4 1 [4] a Z<|Ui U2<|⟨Z,Z⟩
 exact absurd g dc_
theorem DI (C:Mem)(a:Tabs C)(u:Nat)(b:u<9223372036854775808):Gives cx.P 255 [.int .u64 u,.int .i64 10] C (ah (bq u)):=by
 exact Uk func255 8 U3 fun w0=>Ua 1 [0,1] Z<|Ub 2 Z fun R c=>Uo (DH _ a.m_ u b) U7<|C4 1 [4] c Z<|Ui U2<|⟨Z,Z⟩
theorem jH (C:Mem)(z:Int)(m:Nat)(d:m<=18):Gives cx.P 213 [ah (txt z),.int .i64 m] C (.tuple #[.int .i64 (if (txt z).length<=m then z else 0),.bool (decide ((txt z).length<=m))]):=by
 refine Uk func213 20 U3 fun w0=>Ua 2 [0,1] Z<|Ua 4 [0,11] Z<|Ud (fun b=>?_) fun b=>?_
 ·have a:¬ (txt z).length<=m:=by
   have:(m:Int)<((txt z).length:Int):=by simpa using b
   omega
  refine Ua 2 [4,5] Z<|Up (G.dropAll (UD U3 ?_));exact ⟨by rw [aA a,QJ a],Z⟩
 have a:(txt z).length<=m:=by
  have:¬ (m:Int)<((txt z).length:Int):=by simpa using b
  omega
 refine Ub 1 Z fun R c=>Us (zo Tryz.atoi z om_ _ kr_) U7 fl_<|C4 5 [6,7] c Z<|Uy [0,1,2,3,4] [] Z kr_ fun R e c=>Uh 2 Z<|V7 true Z Z Z Z Z (.inl ⟨Z,Z⟩) kr_ Z Z<|C4 2 [4,5] c Z<|Up (G.dropAll (UD U3 ?_));exact ⟨by rw [aV a,QC a],Z⟩
theorem iZ (C:Mem)(z:Int)(t:(bq z.natAbs).length<=1000000):Pur cx.P 214 [ah (txt z)] C fun u D=>∃ p,u=.agg ⟨[.bool (decide (z<0)),p]⟩/\NineC D p z.natAbs:=by
 obtain ⟨S,hS⟩:∃ S,bq z.natAbs=S:=⟨_,rfl⟩;have b:=(bC z.natAbs).1;have i:=(bC z.natAbs).2;rw [hS] at t b i;refine Uk func214 44 U3 fun w0=>Uf fun R a=>Uv U5 fun d=>Ug [0,2] a Z<|Ub 1 Z fun R a=>Uo (Hy _ (txt z) 45) U7 ?_;rw [dD,hS];refine C4 5 [2,3,4] a Z<|Ub 2 Z fun R a=>Vk (S.length) (9) U6 om_ (.inl ⟨Z,by omega⟩) U2<|UN (((S.length / 9+1:Nat):Int)) U4 om_ om_ om_ U2<|Vc U9 (Qm _) (by show 8*(S.length / 9+1)<=281474976710656;omega) (by simp only [maxLen];omega) fl_ fun L=>C4 1 [2,3,4,5] a Z ?_;rw [show (ah S:Value)=ah (S.take S.length) by rw [Qv]];refine G.loop (fun fr C' k v=>∃ (q j:Nat)(out:List Nat)(w:Value),(q<=S.length/\(q=0∨q+9*j=S.length)/\out.length=j/\j<=S.length/\(q=0∨j<S.length)/\Dig9 out/\bB out=bV (S.drop q))/\fr=[(2,[],.pointer (some ⟨d,0,none⟩)),(3,[],ah (S.take q)),(4,[],.bool (decide (z<0))),(5,[],w)]/\k=[.arr w 160 1 j (out.map ck).flatten,.obj d (.cells ⟨[.bool false,.slice none 0 0]⟩ 307 (0,0))]/\v=q+1) (hn_ [2,3,4,5] Z) ⟨S.length,0,[],_,⟨Qi _,by omega,Z,Qm _,by have:=Q3.2 b.2.1;omega,(fun x y=>(by cases y)),by rw [Rq];rfl⟩,Z,Z,Z⟩ (fun fr M N m _ A=>?_);obtain ⟨q,j,out,w,⟨O,Q,e,T,U,l,f⟩,rfl,rfl,rfl⟩:=A;refine Ua 3 [2,3,4,5,21] Z<|Ud (fun g=>?_) fun g=>?_
 ·have B:(⟨(S.take q).toArray⟩:ByteArray).data.toList.length=q:=by
   show (S.take q).length=q;rw [Qx];omega
  have E:(S.take q).length=q:=B;have o:0<q:=by
   have h:(0:Int)<(((⟨(S.take q).toArray⟩:ByteArray).data.toList.length:Nat):Int):=by simpa using g
   omega
  have F:(gG S (q-9) q).length<=9/\0<(gG S (q-9) q).length:=by
   unfold gG;rw [Sq,Qx];omega
  have H:∀ c∈gG S (q-9) q,eP c=true:=fun c I=>b.1 c (Rt (Tb I));refine Ub 2 Z fun R a=>UN (((q:Int)-9)) U4 om_ om_ om_ U2<|D.max (((q-9:Nat):Int)) U6 om_ U2<|C4 1 [2,3,4,5,6] a Z<|Ub 2 Z fun R a=>Vb (q-9) (S.take q).length U9 (fun _=>⟨.inr ⟨_,Z⟩,.inl ⟨Z,Z⟩,.inl ⟨Z,Z⟩,by omega,Qi _,Qi _⟩) U2 ?_;rw [show (((S.take q).take (S.take q).length).drop (q-9))=gG S (q-9) q from by rw [Qv];rfl];refine Us (F0 _ (gG S (q-9) q) H (Q3.1 F.2) om_) U7 fl_<|C4 5 [2,3,4,5,6,7] a Z<|Uy [0,1,4,5,6,2,3,7,8] [] Z kr_ fun R V a=>Uh 4 Z<|Vb 0 (q-9) U9 (fun _=>⟨.inl ⟨Z,Z⟩,.inr ⟨_,Z⟩,.inl ⟨Z,Z⟩,by omega,by omega,Qi _⟩) U2<|Ux [ck (bV (gG S (q-9) q))] U12 fun W _ _ J=>D.append (j:=0) U11 J Z aw (by show (j+1)*8<=_;omega) fl_ fun r=>C4 2 [2,3,4,5] a Z ?_;rw [show ((S.take q).take (q-9)).drop 0=S.take (q-9) from by rw [Ru,Tp,RI om_]];refine Ut (L':=[.arr r 160 1 (j+1) ((out++[bV (gG S (q-9) q)]).map ck).flatten,.obj d (.cells ⟨[.bool false,.slice none 0 0]⟩ 307 (0,0))]) (by simp [ck])<|Un (m':=q-9+1) om_ mup (hn_ [2,3,4,5] Z) ⟨q-9,j+1,out++[bV (gG S (q-9) q)],r,⟨by omega,by omega,by simp [e],by omega,by omega,l.snoc (Kt b.1 om_),CI om_ e om_ f⟩,Z,Z,Z⟩
 have o:q=0:=by
  have E:(S.take q).length=q:=by rw [Qx];omega
  have h:¬ (0:Int)<(((S.take q).length:Nat):Int):=by simpa using g
  omega
 subst o;rw [Ru,i] at f;refine UC [(2,3)] Z fun R a=>Uh 2 Z<|D.call (gr _ _ out (n:=j) e) Z (.inr dc_) U6 (Qo _) fl_ (fun X _ Y _ K=>?_);obtain ⟨rfl,s⟩:=K;obtain ⟨Au,cu,rfl,_⟩:=id s;refine Uu [.bool (decide (z<0)),_] U8<|Um (j:=0) U12<|Ug [2] a Z<|Up (UU af U4 ?_);exact ⟨Z,_,Z,Eu out,ir l,by rw [iq,f],s⟩
theorem DR (k:Nat)(s:Str):bV (List.replicate k 48++s)=bV s:=by
 induction k with
 | zero=>rfl
 | succ k a=>rw [RE,R3,dE,a];simp
theorem MU (h:x<1000000000):mF 9 x=List.replicate (9-(bq x).length) 48++bq x:=by
 obtain ⟨h1,h2,h3⟩:=kM 9 x h;obtain ⟨h4,h5⟩:=bC x;have b:(bq x).length<=9:=eF om_ om_;refine yV h2 (fun c a=>?_) (by rw [h1];simp;omega) (by rw [h3,DR,h5]);rcases Qz.1 a with a | a
 ·rw [Sr a];rfl
 exact h4.1 c a
def KV (l:List Nat)(j:Nat)(s:Str):Prop:=(j=0/\s=[])∨(0<j/\vw s/\bV s=bB (l.drop (l.length-j))/\0<bV s)
theorem Dv (b:xV l)(d:j<l.length)(h:KV l j s):KV l (j+1) (s++if j=0 then bq (g9 l (l.length-1-j)) else mF 9 (g9 l (l.length-1-j))):=by
 have a:l[l.length-1-j]?=some (g9 l (l.length-1-j)):=wZ om_;refine .inr ⟨by omega, ?_⟩;rw [show l.length-(j+1)=l.length-1-j by omega];rcases h with ⟨rfl,rfl⟩ | ⟨h0,h1,h2,h3⟩
 ·rw [aV rfl,Sa];obtain ⟨h4,h5⟩:=bC (g9 l (l.length-1-0));have c:bB (l.drop (l.length-1-0))=g9 l (l.length-1-0):=by
   rw [QK om_,show l.length-1-0+1=l.length by omega,Rq];rw [ak om_] at a;rw [RS a];show _+B9*0=_;omega
  refine ⟨h4,by rw [h5,c], ?_⟩;rw [h5];rcases RJ (g9 l (l.length-1-0)) with h | h
  ·rw [h] at a;exact absurd (by rw [Sx];exact a) b.2
  exact h
 rw [aA om_];rw [show l.length-j=l.length-1-j+1 by omega] at h2;exact DF b.1 a h1 h2 h3
theorem jW (C:Mem)(V:Tabs C)(m:Bool)(v:Value)(n:Nat)(W:NineC C v n)(X:n<B9 ^ 100000):Gives cx.P 216 [.agg ⟨[.bool m,v]⟩] C (ah (txt (sgZ m n))):=by
 obtain ⟨ls,J,K,aj,hs⟩:=W.get X;obtain ⟨A,c,rfl,_⟩:=id hs;simp only [al] at hs ⊢;refine Vu kr_ func216 Z 34 Z Z fun w0=>Uf fun R a=>Uw U6 fun L=>C4 1 [1] a Z<|G.freeze 0 Z fun _ _ o=>Ub 1 Z fun R a=>Uc (PtrTo.block (Mem.get o mup) _) U8<|C4 2 [1,10] a Z<|Ud (fun y=>?_) fun y=>?_
 ·have M:ls=[]:=by
   have:(ls.length:Int)=0:=by simpa using y
   exact Q1 om_
  refine Ua 1 [2] Z<|Up (VI (Lf Z Z) ?_ Ki);subst M;refine ⟨?_,Z⟩;rw [<- K,(zX (sgZ m (bB []))).2 (by cases m <;> rfl)];rfl
 have M:0<ls.length:=by
  have:¬ (ls.length:Int)=0:=by simpa using y
  omega
 obtain ⟨d,g⟩:∃ d:Str,(if m then [45] else [])=d:=⟨_,rfl⟩;have ak:d.length<=1:=by rw [<- g];split <;> simp
 refine Uf fun R a=>Uv U5 fun b=>Ug [1,3] a Z<|G.nilArr 5 1<|G.perm (L':=[.obj b (.cells ⟨[.pointer none,.slice none 0 0]⟩ 354 (0,0)),.arr (.slice none 0 0) 5 1 0 []]) (List.Perm.swap _ _ _)<|Ub 1 Z fun R a=>Uc (PtrTo.block (Mem.get o mup) _) U8<|Ug [1,3,12] a Z<|G.cut (fun fr C' e z=>∃ (q:Option Addr)(w:Value),(q=none∨q=some ⟨b,0,none⟩)/\fr=[(1,[],.pointer (some ⟨L,0,none⟩)),(3,[],.pointer (some ⟨b,0,none⟩))]/\e=[.obj b (.cells ⟨[.pointer q,w]⟩ 354 (0,0)),.arr w 5 1 d.length (u8s d)]) ?_ (fun fr _ an z _ f=>?_)
 ·refine Ud (fun B=>?_) fun B=>?_
  ·rw [aV B] at g;subst g;refine UC [(0,3)] Z fun R a=>D.call (vx _ b none (.slice none 0 0) [] 45 (.inl Z) am) Z (.inr dc_) U6 (Qo _) fl_ fun ao _ aq _ Y=>Ug [1,3] a Z ?_;obtain ⟨w1,rfl⟩:=Y;refine Uq 0 mup (hn_ [1,3] Z) ⟨some ⟨b,0,none⟩,w1,.inr Z,Z,Z⟩
  rw [aA (by rw [B];decide)] at g;subst g;refine Uq 0 mup (hn_ [1,3] Z) ⟨none,.slice none 0 0,.inl Z,Z,Z⟩
 obtain ⟨q ,w,hq,rfl,rfl⟩:=f;refine Ub 1 Z fun R a=>Uc (PtrTo.block (Mem.get o mup) _) U8<|UM (Ch _ A ls.length c) U7 fun ar _ _ aa=>Ug [1,3,16] a Z ?_;obtain ⟨bb,rfl,ab⟩:=aa;refine Ut (L':=[.obj b (.cells ⟨[.pointer q,w]⟩ 354 (0,0)),.arr w 5 1 (d++[]).length (u8s (d++[]))]) (by rw [QM])<|G.rangeFunc Z Z Z kr_ (sY _ bb _ _ ls ab hs.m_ om_) (fun j e=>∃ (q:Option Addr)(w:Value)(s:Str),((q=none∨q=some ⟨b,0,none⟩)/\KV ls j s/\s.length<=9*j)/\e=[.obj b (.cells ⟨[.pointer q,w]⟩ 354 (0,0)),.arr w 5 1 (d++s).length (u8s (d++s))]) ⟨q,w,[],⟨hq,.inl ⟨Z,Z⟩,by simp⟩,Z⟩ Z (fun _ _=>rfl) (fun u v=>[(1,[],.pointer (some ⟨L,0,none⟩)),(3,[],.pointer (some ⟨b,0,none⟩)),(4,[],u),(5,[],v)]) (fun l u v W1 e=>?_) (fun l j u v e W1 f E=>?_) (fun bD e f=>?_)
 ·exact Ua 1 [1,3,4,18] Z<|Ua 1 [1,3,4,5] Z<|Wf ⟨Z,Z,Z,Z,trivial⟩
 ·obtain ⟨q,w,s,⟨F,p,N⟩,rfl⟩:=f;have O:j<ls.length:=by have:=(aE.1 E).1;rwa [fP] at this
  rw [ve O] at E;cases E
  have Q:=Dv J O p;obtain ⟨x,H⟩:∃ x,g9 ls (ls.length-1-j)=x:=⟨_,rfl⟩;have i:x<B9:=by rw [<- H];exact kQ J.1 _
  rw [show ls.getD (ls.length-1-j) 0=x from H];rw [H] at Q;have au:(bq x).length<=9:=eF (by rw [B9v] at i;omega) om_;have ac:=MU (x:=x) (by rw [B9v] at i;exact i);have av:(mF 9 x).length=9:=(kM 9 x (by rw [B9v] at i;omega)).1;refine Ub 1 Z fun R a=>Us (DI _ V.m_ x (by rw [B9v] at i;omega)) U7 fl_<|C4 1 [1,3,4,6] a Z<|Ub 2 Z fun R a=>Uc (PtrTo.block (Mem.get o mup) _) U8<|Ue U6<|Ul _ U7<|C4 1 [3,6,26] a Z<|G.cut (fun fr C' e z=>∃ (k:Option Addr)(r:Value)(t:Str),((k=none∨k=some ⟨b,0,none⟩)/\t++bq x=d++(s++if j=0 then bq x else mF 9 x)/\t.length<=9*j+10)/\fr=[(3,[],.pointer (some ⟨b,0,none⟩)),(6,[],ah (bq x))]/\e=[.obj b (.cells ⟨[.pointer k,r]⟩ 354 (0,0)),.arr r 5 1 t.length (u8s t)]) ?_ (fun fr _ aw z _ f=>?_)
  ·refine Ud (fun I=>?_) fun I=>?_
   ·have S:0<j:=by
     have:((ls.length-1-j:Nat):Int)<(ls.length:Int)-1:=by simpa using I
     omega
    refine UC [(3,3)] Z fun R a=>Uh 2 Z<|Vb (bq x).length 9 U9 (fun _=>⟨.inr ⟨_,Z⟩,.inl ⟨Z,Z⟩,.inl ⟨Z,Z⟩,by omega,Qi _,Qi _⟩) U2 ?_;rw [show ((([48,48,48,48,48,48,48,48,48]:Str).take 9).drop (bq x).length)=List.replicate (9-(bq x).length) 48 from by rw [show (([48,48,48,48,48,48,48,48,48]:Str).take 9)=List.replicate 9 48 from rfl,List.drop_replicate]];refine D.call (kr _ b q w (d++s) (List.replicate (9-(bq x).length) 48) F ap) Z (.inr dc_) U6 (Qo _) fl_ fun ax _ ay _ ad=>Ug [3,6] a Z ?_;obtain ⟨w1,rfl⟩:=ad;refine Uq 0 mup (hn_ [3,6] Z) ⟨some ⟨b,0,none⟩,w1,_,⟨.inr Z,by rw [aA om_,ac];simp [],by simp;omega⟩,Z,Z⟩
   have S:j=0:=by
    have:¬ ((ls.length-1-j:Nat):Int)<(ls.length:Int)-1:=by simpa using I
    omega
   refine Uq 0 mup (hn_ [3,6] Z) ⟨q,w,d++s,⟨F,by rw [aV S,QS],by simp;omega⟩,Z,Z⟩
  obtain ⟨k ,r ,t,⟨ae,af,az⟩,rfl,rfl⟩:=f;refine UC [(1,3)] Z fun R a=>Ue U6<|D.call (kr _ b k r t (bq x) ae om_) Z (.inr dc_) U6 (Qo _) fl_ fun aB _ aC _ ag=>Ve [] trivial (a _ _ _ Z ?_);obtain ⟨w4,rfl⟩:=ag;rw [af];exact VT (R:=fun e=>∃ (q:Option Addr)(w:Value)(s:Str),((q=none∨q=some ⟨b,0,none⟩)/\KV ls (j+1) s/\s.length<=9*(j+1))/\e=[.obj b (.cells ⟨[.pointer q,w]⟩ 354 (0,0)),.arr w 5 1 (d++s).length (u8s (d++s))]) (Qo _) ⟨some ⟨b,0,none⟩,w4,_,⟨.inr Z,Q,by rw [Qp];split <;> omega⟩,Z⟩
 obtain ⟨q,w,s,⟨F,p,N⟩,rfl⟩:=f;rw [fP] at p;obtain ⟨aD,T,U,aF⟩:0<ls.length/\vw s/\bV s=bB (ls.drop (ls.length-ls.length))/\0<bV s:=p.elim (fun h=>by omega) id;rw [SN,Ru,K] at U;refine G.perm (L':=[.obj b (.cells ⟨[.pointer q,w]⟩ 354 (0,0)),.arr w 5 1 (d++s).length (u8s (d++s)),.obj bD (.deferred (some []))]) (pkL [1,1,0] Z)<|UC [(0,3)] Z fun R a=>D.call (D3 _ b q w (d++s) (fun h=>T.2.1 (Tu.1 h).2) (by simp;rw [fP] at N;omega)) Z (.inr dc_) U6 (Qo _) fl_ fun aG _ aH _ ai=>C4 1 [2] a Z ?_;obtain ⟨rfl,rfl⟩:=ai;refine Up (Wd (Lf Z Z) ?_);refine ⟨?_,Z⟩;have es:s=bq n:=by rw [<- U];exact ox T
 rw [zY m n (fun _=>by omega),es,<- g];cases m <;> rfl
theorem sH (a:0<Q):(x+B9*t) / Q=B9*(t / Q)+(x+B9*(t % Q)) / Q/\(x+B9*t) % Q=(x+B9*(t % Q)) % Q:=by
 have h:x+B9*t=(x+B9*(t % Q))+Q*(B9*(t / Q)):=by
  have h1:=Tj t Q;have h2:B9*t=B9*(t % Q)+B9*(Q*(t / Q)):=by rw [<- Rz,h1]
  rw [h2,TW];omega
 rw [h,Tc _ _ a,Nat.add_mul_mod_self_left];exact ⟨by omega,Z⟩
theorem mg (a:0<Q)(b:x<B9):(x+B9*(t % Q)) / Q<B9:=by
 rw [So a];have h1:=Q2 t a;have h2:B9*(t % Q+1)<=B9*Q:=RM _ h1;rw [Rz] at h2;omega
theorem fx (h:j<l.length):bB (l.drop j)=g9 l j+B9*bB (l.drop (j+1)):=by
 rw [QK h,bB,yI (ak h)]
theorem lm (h:j<l.length):bB ((l.set j x).drop j)=x+B9*bB (l.drop (j+1)):=by
 rw [QK (by simpa using h),bB,List.getElem_set_self,List.drop_set_of_lt om_]
theorem sG (C:Mem)(Y M:Value)(m d:Nat)(ha:NineC C Y m)(hm:m<B9 ^ 200000)(F:Sl C 1 M ([d].map ck))(H:0<d)(hd:d<B9) :
  Pur cx.P 248 [Y,M] C fun u D=>∃ q r,u=.tuple #[q,r]/\NineC D q (m / d)/\NineC D r (m % d):=by
 have aa:NineC C M d:=⟨[d],⟨fun x o=>(by rw [QF.1 o];exact hd),by simp;omega⟩,by show d+B9*0=d;omega,F⟩;have N:=ha;obtain ⟨a,ao,ab,aG,O⟩:=ha.get hm;obtain ⟨A0,c0,rfl,_⟩:=id O;obtain ⟨B0,d0,rfl,aH⟩:=id F;simp only [al,aJ] at F aa O N ⊢;have p:=B9v;refine Vu kr_ func248 Z 146 Z Z fun w0=>Uf fun R b=>Uw U6 fun b3=>Uv U5 fun g=>C4 1 [0,3,4,5] b Z<|G.freeze 1 Z fun _ _ K=>Ub 1 Z fun R b=>Uc (PtrTo.block (Mem.get K mup) _) U8<|Uo (pF _ N.m_ aa.m_) U7<|C4 1 [0,3,4,5,17] b Z<|Ud (fun Q=>?_) fun Q=>?_
 ·have S:m<d:=by
   have:jI m d<0:=by simpa using Q
   exact iY.1 this
  refine Ub 1 Z fun R b=>Um (j:=0) U12<|C4 1 [4,5] b Z<|Up (VI (AK af Z Z Z Z Z) ?_ Ki);refine ⟨Z,_,_,Z, ?_, ?_⟩
  ·rw [SI S];exact NineC.zero _
  rw [SY S];exact N.mono mup
 have S:d<=m:=by
  have h:¬ jI m d<0:=by simpa using Q
  rw [iY] at h;omega
 obtain ⟨n,hn⟩:∃ n,a.length=n:=⟨_,rfl⟩;refine Uf fun R b=>Uc (PtrTo.block (Mem.get K mup) _) U8<|C4 2 [0,3,4,5,21] b Z<|Ud (fun ad=>?_) fun ad=>?_
 ·refine Ub 2 Z fun R b=>Vc U9 (Qi _) (by show 8*a.length<=281474976710656;omega) (by simp only [maxLen];omega) fl_ fun f=>Um (j:=1) U12<|Ug [0,3,4] b Z<|Uf fun R b=>Uv U5 fun k=>Um (j:=0) U12<|Ug [0,3,4,6] b Z<|Ub 1 Z fun R b=>UM (Ch _ A0 a.length c0) U7 fun aI _ _ ap=>Ug [3,4,6,26] b Z ?_;obtain ⟨bb,rfl,aq⟩:=ap;refine Ut (L':=[.obj k (.cells ⟨[.int .u64 ((bB (a.drop (a.length-0)) % d:Nat):Int)]⟩ 160 (0,0)),.obj g (.cells ⟨[qU f a.length a.length]⟩ 305 (0,0)),.arr (qU f a.length a.length) 160 1 a.length ((List.replicate a.length 0).map ck).flatten]) (by rw [<- Ew,S7,Rq,show bB []=0 from Z,Nat.zero_mod];rfl)<|G.rangeFunc Z Z Z kr_ (sY _ bb _ _ a aq O.m_ om_) (fun j e=>∃ (c:List Nat),(c.length=a.length/\Dig9 c/\bB (c.drop (a.length-j))=bB (a.drop (a.length-j)) / d)/\e=[.obj k (.cells ⟨[.int .u64 ((bB (a.drop (a.length-j)) % d:Nat):Int)]⟩ 160 (0,0)),.obj g (.cells ⟨[qU f a.length a.length]⟩ 305 (0,0)),.arr (qU f a.length a.length) 160 1 a.length (c.map ck).flatten]) ⟨List.replicate a.length 0,⟨RK,(fun x o=>by rw [Sr o];decide),by rw [S7,Rq,S5 am];simp [bB]⟩,Z⟩ Z (fun _ _=>rfl) (fun u v=>[(3,[],.pointer (some ⟨b3,0,none⟩)),(4,[],.pointer (some ⟨g,0,none⟩)),(6,[],.pointer (some ⟨k,0,none⟩)),(7,[],u),(8,[],v)]) (fun l u v W1 e=>?_) (fun l j u v e W1 s U=>?_) (fun bD e s=>?_)
  ·exact Ua 1 [3,4,6,7,28] Z<|Ua 1 [3,4,6,7,8] Z<|Wf ⟨Z,Z,Z,Z,Z,trivial⟩
  ·obtain ⟨c,⟨I,L,B⟩,rfl⟩:=s;have ar:j<a.length:=by have:=(aE.1 U).1;rwa [fP] at this
   rw [ve ar] at U;cases U
   obtain ⟨i,hi⟩:∃ i,a.length-1-j=i:=⟨_,rfl⟩;have ag:a.length-j=i+1:=by omega
   obtain ⟨T,hT⟩:∃ T,bB (a.drop (i+1))=T:=⟨_,rfl⟩;have au:=kQ ao.1 i;have aK:=Q2 T H;have hX:T % d*B9+g9 a i<18446744073709551616:=by
    have:=Ri B9 (show T % d<=999999999 by omega);rw [p] at this ⊢;omega
   rw [hi,ag,hT,show a.getD i 0=g9 a i from rfl];rw [ag,hT] at B;have av:T % d*B9+g9 a i=g9 a i+B9*(T % d):=by rw [Q7,SM]
   have V:=sH (t:=T) (x:=g9 a i) H;have ah:=mg (t:=T) H au;rw [<- av] at V ah;refine Uf fun R b=>Uj af U9<|D.int (((T % d*B9:Nat):Int)) U4 (by rw [show (1000000000:Int)=((B9:Nat):Int) from Z,<- Rc,IntKind.wrap_u64];omega) U2<|Ue U6<|D.int (((T % d*B9+g9 a i:Nat):Int)) U4 (by rw [IntKind.wrap_u64];omega) U2<|Um (j:=0) U12<|Ug [3,4,6,7] b Z<|G.cut (fun fr C' e W=>(True)/\fr=[]/\e=[.obj k (.cells ⟨[.int .u64 (((T % d*B9+g9 a i) % d:Nat):Int)]⟩ 160 (0,0)),.arr (qU f a.length a.length) 160 1 a.length (aD (c.map ck).flatten [Value.int .u64 (((T % d*B9+g9 a i) / d:Nat):Int)] (i*1)),.obj g (.cells ⟨[qU f a.length a.length]⟩ 305 (0,0))]) ?_ (fun fr aL aM W aN s=>?_)
   ·refine UV (.cut [0,1,2,3,4,5,6,8,9,10,12] (.alt 7 (.fin [11,13,14]) (.alt 13 (.fin [7,11,14]) .stop))) [] Z Z kr_ fun R p b w=>Uj ae U9<|Ue U6<|Uj af U9<|Uc (PtrTo.block (Mem.get K mup) _) U8<|Ur F.m_ U10 om_ (rfl:([d].map ck)[(0:Int).toNat]?=some (ck d)) fl_ fun aO aw=>Uc aw U8<|Vk (T % d*B9+g9 a i) (d) U6 om_ (.inr ⟨Z,by omega⟩) U2<|Uc (PtrTo.block (Mem.get K mup) _) U8<|Ur F.m_ U10 om_ (rfl:([d].map ck)[(0:Int).toNat]?=some (ck d)) fl_ fun aP ax=>Uc ax U8<|UI (i*1) U10 ai U2<|UK w Z ⟨?_, ?_,trivial⟩
    ·first | refine Vz af U9 ?_ | refine Vz ae U9 ?_
     refine U1 (T % d*B9+g9 a i) (d) U6 om_ U2<|UL (j:=2) U11 (by show i*1+1<=_;rw [bR eE,I];omega)<|Um (j:=1) U12<|Ve [] trivial (b _ _ _ Z ?_);clear b p w R;exact Uq 0 (Mem.le.refl _) (fr':=[]) trivial ⟨trivial,Z,Z⟩
    refine UL (j:=2) U11 (by show i*1+1<=_;rw [bR eE,I];omega) ?_
    first | refine Vz af U9 ?_ | refine Vz ae U9 ?_
    refine U1 (T % d*B9+g9 a i) (d) U6 om_ U2<|Um (j:=1) U12<|Ve [] trivial (b _ _ _ Z ?_);clear b p w R;exact Uq 0 (Mem.le.refl _) (fr':=[]) trivial ⟨trivial,Z,Z⟩
   obtain ⟨_,rfl,rfl⟩:=s;refine G.perm (L':=[.obj k (.cells ⟨[.int .u64 (((T % d*B9+g9 a i) % d:Nat):Int)]⟩ 160 (0,0)),.obj g (.cells ⟨[qU f a.length a.length]⟩ 305 (0,0)),.arr (qU f a.length a.length) 160 1 a.length (aD (c.map ck).flatten [Value.int .u64 (((T % d*B9+g9 a i) / d:Nat):Int)] (i*1))]) (pkL [0,1,0] Z) ?_;have aj:bB (a.drop i)=g9 a i+B9*T:=by rw [fx om_,hT]
   have ay:bB (a.drop (a.length-(j+1))) % d=(T % d*B9+g9 a i) % d:=by rw [show a.length-(j+1)=i by omega,aj,V.2]
   exact Ut (L':=[.obj k (.cells ⟨[.int .u64 ((bB (a.drop (a.length-(j+1))) % d:Nat):Int)]⟩ 160 (0,0)),.obj g (.cells ⟨[qU f a.length a.length]⟩ 305 (0,0)),.arr (qU f a.length a.length) 160 1 a.length ((c.set i ((T % d*B9+g9 a i) / d)).map ck).flatten]) (by rw [ay,<- bN eE _ (by omega:i<c.length)];rfl)<|VT (R:=fun e=>∃ (c:List Nat),(c.length=a.length/\Dig9 c/\bB (c.drop (a.length-(j+1)))=bB (a.drop (a.length-(j+1))) / d)/\e=[.obj k (.cells ⟨[.int .u64 ((bB (a.drop (a.length-(j+1))) % d:Nat):Int)]⟩ 160 (0,0)),.obj g (.cells ⟨[qU f a.length a.length]⟩ 305 (0,0)),.arr (qU f a.length a.length) 160 1 a.length (c.map ck).flatten]) (Qo _) ⟨c.set i ((T % d*B9+g9 a i) / d),⟨by simp [I],L.set ah,by rw [show a.length-(j+1)=i by omega,aj,lm om_,B,V.1];omega⟩,Z⟩
  obtain ⟨c,⟨I,L,B⟩,rfl⟩:=s;rw [fP,SN,Ru,Ru,ab] at B;rw [fP,SN,Ru,ab];refine G.freezeArr 3 (c.map ck) rfl rfl (by intro r hr;obtain ⟨y,_,rfl⟩:=Qq.1 hr;rfl) (by rw [al,I]) fun Cq aQ ak=>G.cut (fun fr C' e W=>∃ (E z:Value),(NineC C' E (m / d)/\NineC C' z (m % d))/\fr=[(4,[],.pointer (some ⟨g,0,none⟩)),(5,[],z)]/\e=[.obj g (.cells ⟨[E]⟩ 305 (0,0)),.obj bD (.deferred (some [])),.obj k (.cells ⟨[.int .u64 ((m % d:Nat):Int)]⟩ 160 (0,0))]) ?_ (fun fr aR aS W aT s=>?_)
  ·refine UV (.cut [0,2] (.alt 1 (.fin [3,4,5,6]) (.alt 3 (.fin [1,4,5,6]) .stop))) [] Z Z kr_ fun R p b w=>Uj ac U9<|Uj ae U9<|UK w Z ⟨?_, ?_,trivial⟩
   ·refine UM (vG _ L ak.m_) U7 fun E az _ A=>Ux [ck (m % d)] U12 fun aA aB _ X=>UG (vG _ (l:=[m % d]) (fun x o=>by rw [QF.1 o];have:=Q2 m H;omega) X.m_) U7 fl_ (fun z aC _ J=>?_);obtain ⟨A7,m7,c7,rfl⟩:=A.form;refine Um (j:=2) U12<|Ue U6<|Ug [4,5] b Z ?_;clear b p w R;rw [show bB [m % d]=m % d from (by show m % d+B9*0=m % d;omega)] at J;rw [B] at A;exact Uq 0 mup (hn_ [4,5] Z) ⟨_,z,⟨A.mono mup,J.mono mup⟩,Z,Z⟩
   refine Ux [ck (m % d)] U12 fun aA aB _ X=>UM (vG _ L ak.m_) U7 fun E az _ A=>UG (vG _ (l:=[m % d]) (fun x o=>by rw [QF.1 o];have:=Q2 m H;omega) X.m_) U7 fl_ (fun z aC _ J=>?_);obtain ⟨A7,m7,c7,rfl⟩:=A.form;refine Um (j:=2) U12<|Ue U6<|Ug [4,5] b Z ?_;clear b p w R;rw [show bB [m % d]=m % d from (by show m % d+B9*0=m % d;omega)] at J;rw [B] at A;exact Uq 0 mup (hn_ [4,5] Z) ⟨_,z,⟨A.mono mup,J.mono mup⟩,Z,Z⟩
  obtain ⟨E,z,⟨an,aF⟩,rfl,rfl⟩:=s;refine G.perm (L':=[.obj bD (.deferred (some [])),.obj g (.cells ⟨[E]⟩ 305 (0,0)),.obj k (.cells ⟨[.int .u64 ((m % d:Nat):Int)]⟩ 160 (0,0))]) (pkL [1,0,0] Z) ?_;obtain ⟨A7,m7,c7,rfl⟩:=an.form;refine Up (Wd (AK af Z Z Z Z Z) ?_);exact ⟨Z,_,_,Z,an,aF⟩
 exact absurd ad dc_
theorem vC (h:Dig9 l)(a:k<=l.length):bB l / B9 ^ k=bB (l.drop k):=by
 have e:bB l=bB (l.take k)+B9 ^ k*bB (l.drop k):=by
  conv=>lhs;rw [<- Ro k l]
  rw [fC,Qx,RI a]
 have h1:=iP (h.take k);rw [Qx,RI a] at h1;rw [e,Tc _ _ (SL dc_),SI h1,RG]
theorem uA {b a:List Nat}(f:xV b)(c:xV a)(j:0<a.length)(m:a.length<=b.length):bB b / bB a<=bB (b.drop (a.length-1)) / g9 a (a.length-1)/\0<g9 a (a.length-1):=by
 have d:bB (a.drop (a.length-1))=g9 a (a.length-1):=by
  rw [fx om_,show a.length-1+1=a.length by omega,Rq];show _+B9*0=_;omega
 have h1:=vC c.1 (k:=a.length-1) om_;have h2:=vC f.1 (k:=a.length-1) om_;have e:0<g9 a (a.length-1):=by
  rcases RJ (g9 a (a.length-1)) with h | h
  ·have h3:=wZ (l:=a) (i:=a.length-1) om_;rw [h] at h3;exact absurd (by rw [Sx];exact h3) c.2
  exact h
 refine ⟨?_,e⟩;rw [<- h2,<- d,<- h1,Nat.div_div_eq_div_mul];have g:0<B9 ^ (a.length-1):=SL dc_;rw [d] at h1;refine Nat.div_le_div_left (Nat.mul_div_le _ _) ?_;rw [h1];exact SV g e
theorem BB (h:l.length=k+1):bB (l.drop k)=g9 l k:=by
 rw [fx om_,show k+1=l.length by omega,Rq];show _+B9*0=_;omega
theorem JU (h:l.length=k+2):bB (l.drop k)=g9 l (k+1)*B9+g9 l k:=by
 rw [fx om_,BB (k:=k+1) om_,Q7];omega
theorem zk {a b:List Nat}(c:xV a)(d:xV b)(h:bB b<=bB a):b.length<=a.length:=by
 rcases QU a.length b.length with h1 | h1
 ·have:=ut c.1 d h1;omega
 exact h1
theorem xB {a b:List Nat}(c:xV a)(d:xV b)(h:bB a<B9*bB b):a.length<=b.length+1:=by
 have h2:=iP d.1;refine sU c (RB h ?_);rw [RC,Q7];exact Ri _ (Nat.le_of_lt h2)
theorem jD {f:Nat}(a:m<B9 ^ k)(b:f<B9):m*f<B9 ^ (k+1):=by
 rw [RC];exact Sj a b
theorem Ph (h:x<B9*a)(b:a<B9 ^ k):x<B9 ^ (k+1):=by
 rw [RC,Q7 _ B9];exact SA h (Nat.mul_lt_mul_of_pos_left b dc_)
theorem KU (l:List Nat):(l.map ck).all (fun r=>r.all mG)=true:=by
 rw [List.all_map,QD];intro x _;rfl
theorem DQ (C:Mem)(va vb:Value)(m n:Nat)(ha:NineC C va m)(hb:NineC C vb n)(hm:m<B9 ^ 100000)(aF:B9<=n) :
  Pur cx.P 248 [va,vb] C fun u D=>∃ q r,u=.tuple #[q,r]/\NineC D q (m / n)/\NineC D r (m % n):=by
 have aG:0<n:=RB dc_ aF;have ac:=ha;have ad:=hb;obtain ⟨B,Q,bE,ag⟩:=hb;obtain ⟨A0,a0,c0,rfl⟩:=ha.form;obtain ⟨B0,d0,rfl,a2,bF,_⟩:=id ag;simp only [al] at ag ad a2 ⊢;have bG:maxLen<=9223372036854775807:=by simp [maxLen]
 have S:=B9v;have bH:2<=B.length:=by
  rcases QU B.length 2 with h | h
  ·have h2:=iP Q.1;have h3:B9 ^ B.length<=B9 ^ 1:=QL dc_ om_;rw [Nat.pow_one] at h3;omega
  exact h
 refine Vu kr_ func248 Z 146 Z Z (fun w0=>?_);refine Uf fun R a=>?_;refine Uw U6 (fun b3=>?_);refine Uv U5 (fun e=>?_);refine C4 1 [0,3,4,5] a Z ?_;clear a R;refine Ub 1 Z fun R a=>?_
 skip
 refine Uj ae U9 ?_;refine Uo (pF _ ac.m_ ad.m_) U7 ?_;refine C4 1 [0,3,4,5,17] a Z ?_;clear a R;refine Ud (fun ah=>?_) fun ah=>?_
 ·have U:m<n:=by
   have:jI m n<0:=by simpa using ah
   exact iY.1 this
  refine Ub 1 Z fun R a=>?_;refine Um (j:=0) U12 ?_;refine C4 1 [4,5] a Z ?_;clear a R;refine Up (VI (AK af Z Z Z Z Z) ?_ Ki);refine ⟨Z,_,_,Z, ?_, ?_⟩
  ·rw [SI U];exact NineC.zero _
  rw [SY U];exact ac.mono mup
 have U:n<=m:=by
  have h:¬ jI m n<0:=by simpa using ah
  rw [iY] at h;omega
 refine Uf fun R a=>?_;refine Uj ae U9 ?_;refine C4 2 [0,3,4,5,21] a Z ?_;clear a R;refine Ud (fun aH=>?_) fun aH=>?_
 ·exact absurd aH ap
 have bI:=kQ Q.1 (B.length-1);have a3:(B.map ck)[((B.length:Int)-1).toNat]?=some (ck (g9 B (B.length-1))):=by
  rw [show ((B.length:Int)-1).toNat=B.length-1 by omega];exact jl om_
 obtain ⟨f,hf⟩:∃ f,B9 / (g9 B (B.length-1)+1)=f:=⟨_,rfl⟩;refine Uf fun R a=>?_;refine Uj ae U9 ?_;refine Uj ae U9 ?_;refine Ue U6 ?_;refine Ul _ U7 ?_;refine Ur ag.m_ U10 om_ a3 fl_ (fun bJ a4=>?_);refine Uc a4 U8 ?_;refine D.int (((g9 B (B.length-1)+1:Nat):Int)) U4 (by rw [IntKind.wrap_u64];omega) U2 ?_;refine Vk (B9) (g9 B (B.length-1)+1) U6 om_ (.inr ⟨Z,by omega⟩) U2 ?_;refine C4 1 [0,3,4,5,9] a Z ?_;clear a R;rw [hf];have w:0<f:=by rw [<- hf];exact Nat.div_pos om_ om_
 have o:f<B9:=by
  rw [<- hf];have h1:=(uA Q Q om_ (Qi _)).2;exact Nat.div_lt_self dc_ om_
 have y:n<B9 ^ 100000:=Re U hm;refine Uy [0,1,3,4,2,5,6,7] [] Z kr_ (fun R S a=>?_);refine Uh 2 Z ?_;refine Uj ae U9 ?_;refine Ue U6 ?_;refine UG (yf (k:=100000) _ ac.m_ hm o om_) U7 fl_ (fun bK _ _ a5=>?_);refine UG (yf (k:=100000) _ ad.m_ y o om_) U7 fl_ (fun bL _ a6 aI=>?_);refine Ue U6 ?_;obtain ⟨a7,bM,a8,rfl⟩:=aI.form;refine Um (j:=1) U12 ?_;refine Ug [0,3,4,5,9] a Z ?_;clear a S R;have aK:=a5.mono a6;have aL:=aI;refine G.freeze 0 Z (fun C3 aM v=>?_);obtain ⟨P,a9,ai,bO,aj⟩:=(aK.mono aM).get (jD hm o);obtain ⟨W,p,z,bP,V⟩:=(aL.mono aM).get (jD y o);obtain ⟨PA,pc,rfl,_⟩:=id aj;obtain ⟨bQ,bS,ba,_⟩:=id V;cases ba
 simp only [al] at aj V v aK aL ⊢;have ak:NineC C3 (.slice a7 W.length a8) (n*f):=⟨W,p,z,V⟩;have A:0<n*f:=SV aG w;have an:n*f<B9 ^ 100001:=dA (k:=100001) (n:=100000+1) (jD (k:=100000) y o) (Qi _);have bT:2<=W.length:=by
  have h1:B9<=bB W:=by rw [z];exact QG aF (Ss _ w)
  rcases QU W.length 2 with h | h
  ·have h2:=iP p.1;have h3:B9 ^ W.length<=B9 ^ 1:=QL dc_ om_;rw [Nat.pow_one] at h3;omega
  exact h
 have bU:1<=P.length:=by
  rcases RJ P.length with h | h
  ·have:P=[]:=Q1 h;subst this;have h1:m*f=0:=by rw [<- ai];rfl
   have h2:0<m*f:=SV om_ w;omega
  exact h
 have bb:=(uA p p om_ (Qi _)).2;have bV:=kQ p.1 (W.length-1);refine Ub 2 Z fun R a=>?_;refine Vc U9 (Qi _) (by show 8*P.length<=281474976710656;omega) (by simp only [maxLen];omega) fl_ (fun d=>?_);refine Um (j:=1) U12 ?_;refine Ug [0,3,4,5,9] a Z ?_;clear a R;refine Uf fun R a=>?_;refine Uc (PtrTo.block (Mem.get v mup) _) U8 ?_;refine Uc (PtrTo.block (Mem.get v mup) _) U8 ?_;refine Ue U6 ?_;refine Ul _ U7 ?_;refine Ur V.m_ U10 om_ (by rw [show ((W.length:Int)-1).toNat=W.length-1 by omega];exact jl om_:(W.map ck)[((W.length:Int)-1).toNat]?=some (ck (g9 W (W.length-1)))) fl_ (fun bW bc=>?_);refine Uc bc U8 ?_;refine C4 1 [0,3,4,5,9,10] a Z ?_;clear a R;refine Ub 2 Z fun R a=>?_;refine Ul _ U7 ?_;refine C4 1 [0,3,4,5,9,10,11] a Z ?_;clear a R;refine Ut (L':=[.obj e (.cells ⟨[qU d P.length P.length]⟩ 305 (0,0)),.arr (qU d P.length P.length) 160 1 P.length ((List.replicate P.length 0).map ck).flatten]) (by rw [<- Ew];rfl) ?_;refine G.loop (fun fr C' g E=>∃ (i:Nat)(c:List Nat)(v5:Value),(i<=P.length/\c.length=P.length/\Dig9 c/\bB (c.drop i)=bB (P.drop i) / (n*f)/\NineC C' v5 (bB (P.drop i) % (n*f))/\∀ j,j<i->g9 c j=0)/\fr=[(0,[],.slice PA P.length pc),(3,[],.pointer (some ⟨b3,0,none⟩)),(4,[],.pointer (some ⟨e,0,none⟩)),(5,[],v5),(9,[],.int .u64 f),(10,[],.int .u64 (g9 W (W.length-1))),(11,[],.int .i64 ((i:Int)-1))]/\g=[.obj e (.cells ⟨[qU d P.length P.length]⟩ 305 (0,0)),.arr (qU d P.length P.length) 160 1 P.length (c.map ck).flatten]/\E=i+1) (hn_ [0,3,4,5,9,10,11] Z) ⟨P.length,List.replicate P.length 0,_,⟨Qi _,RK,(fun x hx=>by rw [Sr hx];decide),by rw [Rq,S5 am];simp [bB],by rw [Rq,show bB []=0 from Z,Nat.zero_mod];exact NineC.zero _,fun j _=>BH _ j⟩,Z,Z,Z⟩ (fun fr bX bY m _ F=>?_);obtain ⟨i,c,v5,⟨hi,Y,ao,H,aa,aq⟩,rfl,rfl,rfl⟩:=F;refine Ua 2 [0,3,4,5,9,10,11,78] Z ?_;refine Ud (fun ar=>?_) fun ar=>?_
 ·have aN:0<i:=by
   have:(0:Int)<=(i:Int)-1:=by simpa using ar
   omega
  obtain ⟨j,rfl⟩:∃ j,i=j+1:=⟨i-1,by omega⟩;obtain ⟨T,hT⟩:∃ T,bB (P.drop (j+1))=T:=⟨_,rfl⟩;rw [hT] at H aa;have aO:=Q2 T A;obtain ⟨I,bd,be,bZ,aP⟩:=aa.get (m:=100001) (SA aO (dA (k:=100001) (n:=100000+1) (jD (k:=100000) y o) (Qi _)));obtain ⟨RA,rc,aQ,_⟩:=id aP;rw [al] at aQ;subst aQ;obtain ⟨X,hX⟩:∃ X,g9 P j+B9*(T % (n*f))=X:=⟨_,rfl⟩;have aR:=kQ a9.1 j;have bf:bB (g9 P j::I)=X:=by rw [bB,be,hX]
  have J:=sH (t:=T) (x:=g9 P j) A;have bg:=mg (t:=T) A aR;rw [hX] at J bg;have ab:bB (P.drop j)=g9 P j+B9*T:=by rw [fx om_,hT]
  refine UC [(7,3)] Z (fun R a=>?_);refine Uh 2 Z ?_;refine Ur aj.m_ U10 om_ (by rw [show ((((j+1:Nat):Int)-1)).toNat=j by omega];exact jl om_:(P.map ck)[((((j+1:Nat):Int)-1)).toNat]?=some (ck (g9 P j))) fl_ (fun b0 bh=>?_);refine Uc bh U8 ?_;refine Vi [ck (g9 P j)] U12 fl_ (fun b1=>?_);refine Ue U6 ?_;refine D.append (j:=0) U11 aP.m_ (KU I) (by simp only [al,aJ,maxLen];omega) (by simp only [al,aJ];omega) fl_ (fun b2=>?_);refine D.call (gr _ _ (g9 P j::I) (n:=1+(I.map ck).length) (by rw [al];simp;omega)) Z (.inr dc_) U6 (Qo _) fl_ (fun bi bj b5 _ bk=>?_);refine C4 1 [0,3,4,5,9,10,11] a Z ?_;clear a R;obtain ⟨rfl,hu⟩:=bk;have K:NineC bj bi X:=⟨Eu (g9 P j::I),ir (fun x hx=>(Qw.1 hx).elim (fun h=>by rw [h];exact aR) (bd.1 x)),by rw [iq,bf],hu⟩;have aS:X<B9*(n*f):=by
   have h1:B9*(T % (n*f)+1)<=B9*(n*f):=RM _ aO;rw [Rz] at h1;omega
  have aT:X<B9 ^ 100002:=dA (k:=100002) (n:=100001+1) (Ph (k:=100001) aS an) (Qi _);obtain ⟨b,L,au,b6,av⟩:=K.get aT;obtain ⟨XA,xc,aU,_⟩:=id av;rw [al] at aU;subst aU;refine Ub 1 Z fun R a=>?_;refine Uc (PtrTo.block (Mem.get v mup) _) U8 ?_;refine Uo (pF _ K.m_ ak.m_) U7 ?_;refine C4 1 [0,3,4,5,9,10,11,92] a Z ?_;clear a R;refine Ud (fun aw=>?_) fun aw=>?_
  ·have aV:X<n*f:=by
    have:jI X (n*f)<0:=by simpa using aw
    exact iY.1 this
   refine Ub 1 Z fun R a=>?_;refine Ul _ U7 ?_;refine C4 1 [0,3,4,5,9,10,11] a Z ?_;clear a R;rw [show ((j+1:Nat):Int)-1-1=(j:Int)-1 by omega];refine Un (m':=j+1) om_ mup (hn_ [0,3,4,5,9,10,11] Z) ⟨j,c,_,⟨by omega,Y,ao,by rw [fx (l:=c) om_,aq j om_,H,ab,J.1,SI aV];omega,by rw [ab,J.2,SY aV];exact K.mono mup,fun j' h=>aq j' om_⟩,Z,Z,Z⟩
  have bl:n*f<=X:=by
   have h:¬ jI X (n*f)<0:=by simpa using aw
   rw [iY] at h;omega
  have bm:=zk L p (by rw [au,z];exact bl);have b7:=xB L p (by rw [au,z];exact aS);have ax:=(uA L p om_ bm).1;obtain ⟨s,ay⟩:∃ s,bB (b.drop (W.length-1))=s:=⟨_,rfl⟩;rw [au,z,ay] at ax;have b8:=kQ L.1 (b.length-1);have b9:=kQ L.1 (b.length-2);refine Ub 3 Z fun R a=>?_;refine Ul _ U7 ?_;refine Ur av.m_ U10 om_ (by rw [show ((b.length:Int)-1).toNat=b.length-1 by omega];exact jl om_:(b.map ck)[((b.length:Int)-1).toNat]?=some (ck (g9 b (b.length-1)))) fl_ (fun ca bn=>?_);refine Uc bn U8 ?_;refine C4 1 [0,3,4,5,9,10,11,12] a Z ?_;clear a R;refine Ub 2 Z fun R a=>?_;refine Uc (PtrTo.block (Mem.get v mup) _) U8 ?_;refine C4 2 [0,3,4,5,9,10,11,12,103] a Z ?_;clear a R;refine G.cut (fun fr C' g E=>(s<1000000000000000000)/\fr=[(0,[],.slice PA P.length pc),(3,[],.pointer (some ⟨b3,0,none⟩)),(4,[],.pointer (some ⟨e,0,none⟩)),(5,[],.slice XA b.length xc),(9,[],.int .u64 f),(10,[],.int .u64 (g9 W (W.length-1))),(11,[],.int .i64 (((j+1:Nat):Int)-1)),(12,[],.int .u64 (s:Nat))]/\g=[.obj e (.cells ⟨[qU d P.length P.length]⟩ 305 (0,0)),.arr (qU d P.length P.length) 160 1 P.length (c.map ck).flatten]) ?_ (fun fr _ cb E _ F=>?_)
  ·refine Ud (fun az=>?_) fun az=>?_
   ·have bo:b.length=W.length-1+2:=by
     have:(W.length:Int)<(b.length:Int):=by simpa using az
     omega
    have M:=JU bo;rw [ay,show W.length-1+1=b.length-1 by omega,show W.length-1=b.length-2 by omega] at M;have bp:g9 b (b.length-1)*B9<=999999999*B9:=Ri _ om_;rw [show 999999999*B9=999999999000000000 from rfl] at bp;refine Ub 1 Z fun R a=>?_;refine D.int (((g9 b (b.length-1)*B9:Nat):Int)) U4 (by rw [show (1000000000:Int)=((B9:Nat):Int) from Z,<- Rc,IntKind.wrap_u64];omega) U2 ?_;refine Uh 3 Z ?_;refine Ul _ U7 ?_;refine Ur av.m_ U10 om_ (by rw [show ((b.length:Int)-2).toNat=b.length-2 by omega];exact jl om_:(b.map ck)[((b.length:Int)-2).toNat]?=some (ck (g9 b (b.length-2)))) fl_ (fun cc bq=>?_);refine Uc bq U8 ?_;refine D.int (((s:Nat):Int)) U4 (by rw [M,IntKind.wrap_u64];omega) U2 ?_;refine C4 1 [0,3,4,5,9,10,11,12] a Z ?_;clear a R;refine Uq 0 mup (hn_ [0,3,4,5,9,10,11,12] Z) ⟨by omega,Z,Z⟩
   have br:b.length=W.length-1+1:=by
    have:¬ (W.length:Int)<(b.length:Int):=by simpa using az
    omega
   have M:=BB br;rw [ay,show W.length-1=b.length-1 by omega] at M;rw [<- M];refine Uq 0 mup (hn_ [0,3,4,5,9,10,11,12] Z) ⟨by omega,Z,Z⟩
  obtain ⟨cd,rfl,rfl⟩:=F;obtain ⟨N,aA⟩:∃ N,s / g9 W (W.length-1)=N:=⟨_,rfl⟩;rw [aA] at ax;have ce:N<=s:=by rw [<- aA];exact Rm _ _
  refine Ub 2 Z fun R a=>?_;refine Vk (s) (g9 W (W.length-1)) U6 bb (.inr ⟨Z,by omega⟩) U2 ?_;rw [aA];refine D.min (((min N 999999999:Nat):Int)) Z Z Z Z Z Z om_ Z Z ?_;refine C4 1 [0,3,4,5,9,10,11,12] a Z ?_;clear a R;refine Uf fun R a=>?_;refine Uc (PtrTo.block (Mem.get v mup) _) U8 ?_;refine Ue U6 ?_;refine UG (yf (k:=100001) _ ak.m_ an om_ om_) U7 fl_ (fun bs _ _ bt=>?_);refine C4 1 [0,3,4,5,9,10,11,12,13] a Z ?_;clear a R;refine G.loop (fun fr C' g E=>∃ (dd:Nat)(aB:Value),(X / (n*f)<=dd/\dd<B9/\NineC C' aB (n*f*dd))/\fr=[(0,[],.slice PA P.length pc),(3,[],.pointer (some ⟨b3,0,none⟩)),(4,[],.pointer (some ⟨e,0,none⟩)),(5,[],.slice XA b.length xc),(9,[],.int .u64 f),(10,[],.int .u64 (g9 W (W.length-1))),(11,[],.int .i64 (((j+1:Nat):Int)-1)),(12,[],.int .u64 (dd:Nat)),(13,[],aB)]/\g=[.obj e (.cells ⟨[qU d P.length P.length]⟩ 305 (0,0)),.arr (qU d P.length P.length) 160 1 P.length (c.map ck).flatten]/\E=dd+1) (hn_ [0,3,4,5,9,10,11,12,13] Z) ⟨min N 999999999,bs,⟨by have h:=Nat.le_min.2 ⟨ax,(by omega:X / (n*f)<=999999999)⟩;exact h,by omega,bt.mono mup⟩,Z,Z,Z⟩ (fun fr cf cg m _ F=>?_);obtain ⟨dd,aB,⟨bu,aW,aC⟩,rfl,rfl,rfl⟩:=F;refine Ub 2 Z fun R a=>?_;refine Uo (pF _ aC.m_ K.m_) U7 ?_;refine C4 1 [0,3,4,5,9,10,11,12,13,123] a Z ?_;clear a R;refine Ud (fun aE=>?_) fun aE=>?_
  ·have O:X<n*f*dd:=by
    have:0<jI (n*f*dd) X:=by simpa using aE
    exact F6.1 this
   have bv:1<=dd:=by
    rcases RJ dd with h | h
    ·rw [h] at O;omega
    exact h
   refine Ub 1 Z fun R a=>?_;refine Uc (PtrTo.block (Mem.get v mup) _) U8 ?_;refine UG (um (k:=100002) _ aC.m_ ak.m_ (dA (k:=100002) (n:=100001+1) (jD (k:=100001) an aW) (Qi _)) (Ss _ bv) om_) U7 fl_ (fun bw _ _ aX=>?_);refine C4 1 [0,3,4,5,9,10,11,12,13] a Z ?_;clear a R;refine Ub 1 Z fun R a=>?_;refine D.int (((dd-1:Nat):Int)) U4 (by rw [IntKind.wrap_u64];omega) U2 ?_;refine C4 1 [0,3,4,5,9,10,11,12,13] a Z ?_;clear a R;rw [show n*f*dd-n*f=n*f*(dd-1) from by rw [Nat.mul_sub,Sf]] at aX;refine Un (m':=dd-1+1) om_ mup (hn_ [0,3,4,5,9,10,11,12,13] Z) ⟨dd-1,bw,⟨by have h:=(So A).2 (by rw [Q7];exact O);omega,by omega,aX.mono mup⟩,Z,Z,Z⟩
  have O:n*f*dd<=X:=by
   have h:¬ 0<jI (n*f*dd) X:=by simpa using aE
   rw [F6] at h;omega
  have aY:dd=X / (n*f):=Nat.le_antisymm ((Nat.le_div_iff_mul_le A).2 (by rw [Q7];exact O)) bu;have bx:X-n*f*dd=X % (n*f):=by rw [aY];have:=Tj X (n*f);omega
  refine Uy [0,1,2,3,4,5,6,7,8] [] Z kr_ (fun R S a=>?_);refine Uj af U9 ?_;refine Uh 4 Z ?_;refine UG (um (k:=100002) _ K.m_ aC.m_ aT O om_) U7 fl_ (fun bz _ _ aZ=>?_);refine UI (j*1) U10 (fun _=>⟨by omega,by omega,(by rw [show (((j+1:Nat):Int)-1).toNat=j by omega])⟩) U2 ?_;refine UL (j:=1) U11 (by show j*1+1<=_;rw [bR eE,Y];omega) ?_;refine Ue U6 ?_;refine Ug [0,3,4,5,9,10,11] a Z ?_;clear a S R;refine Ub 1 Z fun R a=>?_;refine Ul _ U7 ?_;refine C4 1 [0,3,4,5,9,10,11] a Z ?_;clear a R;rw [show ((j+1:Nat):Int)-1-1=(j:Int)-1 by omega];refine G.perm (L':=[.obj e (.cells ⟨[qU d P.length P.length]⟩ 305 (0,0)),.arr (qU d P.length P.length) 160 1 P.length (aD (c.map ck).flatten (ck dd) (j*1))]) (List.Perm.swap _ _ _) ?_;refine Ut (L':=[.obj e (.cells ⟨[qU d P.length P.length]⟩ 305 (0,0)),.arr (qU d P.length P.length) 160 1 P.length ((c.set j dd).map ck).flatten]) (by rw [<- bN eE _ (by omega:j<c.length)]) ?_;rw [bx] at aZ;refine Un (m':=j+1) om_ mup (hn_ [0,3,4,5,9,10,11] Z) ⟨j,c.set j dd,bz,⟨by omega,by simp [Y],ao.set aW,by rw [lm om_,H,ab,J.1,aY];omega,by rw [ab,J.2];exact aZ.mono mup,fun j' h=>by rw [qg om_];exact aq j' om_⟩,Z,Z,Z⟩
 have aN:i=0:=by
  have:¬ (0:Int)<=(i:Int)-1:=by simpa using ar
  omega
 subst aN;rw [Ru,Ru,ai,Nat.mul_div_mul_right _ _ w] at H;rw [Ru,ai,Nat.mul_mod_mul_right] at aa;refine Ub 2 Z fun R a=>?_;refine Ux [ck f] U12 (fun ch _ _ bA=>?_);refine UG (sG _ _ _ (m % n*f) f aa.m_ (by
  have h1:=jD (k:=100000) (SA (Q2 m aG) y) o;exact dA (k:=200000) (n:=100000+1) h1 dc_) bA.m_ w o) U7 fl_ (fun ci _ _ bC=>?_)
 obtain ⟨q2,r2,rfl,a1,cj⟩:=bC;rw [Nat.mul_div_cancel _ w] at a1;refine C4 4 [4,5] a Z ?_;clear a R;refine G.perm (L':=[.arr (qU d P.length P.length) 160 1 P.length (c.map ck).flatten,.obj e (.cells ⟨[qU d P.length P.length]⟩ 305 (0,0))]) (List.Perm.swap _ _ _) ?_;refine UC [(1,3)] Z (fun R a=>?_);refine Uj ae U9 ?_;refine D.call (gr _ _ c Y) Z (.inr dc_) U6 (Qo _) fl_ (fun cl _ cm _ bD=>?_);refine Ue U6 ?_;obtain ⟨rfl,hu⟩:=bD;obtain ⟨Au,cu,rfl,_⟩:=id hu;refine Um (j:=0) U12 ?_;refine C4 1 [4,5] a Z ?_;clear a R;refine Up (VI (AK af Z Z Z Z Z) ?_ Ki);exact ⟨Z,_,_,Z,⟨Eu c,ir ao,by rw [iq,H],hu⟩,a1.mono mup⟩
theorem xh (C:Mem)(a b:Value)(m n:Nat)(g:NineC C a m)(h:NineC C b n)(i:m<B9 ^ 100000)(f:0<n) :
  Pur cx.P 248 [a,b] C fun u D=>∃ q r,u=.tuple #[q,r]/\NineC D q (m / n)/\NineC D r (m % n):=by
 rcases QU n B9 with c | c
 ·obtain ⟨l,h1,h2,h3,h4⟩:=h.get (m:=1) (by rw [Nat.pow_one];exact c);have j:l≠[]:=fun e=>by rw [e] at h2;rw [<- h2] at f;exact absurd f dc_
  obtain ⟨d,rfl⟩:∃ d,l=[d]:=by
   cases l with
   | nil=>exact absurd rfl j
   | cons d l=>cases l with
    | nil=>exact ⟨d,rfl⟩
    | cons e l=>simp at h3
  have o:d=n:=by rw [<- h2];show d=d+B9*0;omega
  subst o;exact sG C a b m d g (dA (k:=200000) (n:=100000) i dc_) h4 f c
 exact DQ C a b m n g h i c
theorem J5 (C:Mem)(s:Str)(c:UInt8):Gives cx.P 249 [ah s,ah [c]] C (.bool (cJ c s).2):=by
 exact Uk func249 8 U3 fun w0=>Ua 1 [0,1] Z<|Ub 2 Z fun R a=>Uo (yG _ s c) U7<|C4 1 [4] a Z<|Ui U2<|⟨Z,Z⟩
theorem EQ (C:Mem)(s:Str)(c:UInt8):Gives cx.P 266 [ah s,ah [c]] C (ah (cJ c s).1):=by
 refine Uk func266 13 U3 fun w0=>Ua 1 [0,1] Z<|Ub 2 Z fun R d=>Uo (yG _ s c) U7<|Ug [0,1,7] d Z<|Ud (fun a=>?_) fun a=>?_
 ·have h:s.head?=some c:=QT fun h=>by unfold cJ at a;rw [aA h] at a;cases a
  have e:1<=s.length:=by cases s with
   | nil=>cases h
   | cons b s=>simp
  refine Ub 3 Z fun R d=>Vb 1 s.length U9 (fun _=>⟨.inr ⟨_,Z⟩,.inl ⟨Z,Z⟩,.inl ⟨Z,Z⟩,by omega,Qi _,Qi _⟩) U2<|C4 1 [4] d Z<|Ui U2 ?_;unfold cJ;rw [aV h];refine ⟨?_,Z⟩;rw [Qv,List.drop_one];rfl
 have h:¬ s.head?=some c:=fun h=>by unfold cJ at a;rw [aV h] at a;cases a
 refine Ua 2 [4] Z<|Ui U2 ?_;unfold cJ;rw [aA h];exact ⟨Z,Z⟩
theorem zZ (C:Mem)(s:Str)(c:UInt8):Gives cx.P 232 [ah s,ah [c]] C (ah (cJ c s).1):=by
 exact Uk func232 8 U3 fun w0=>Ua 1 [0,1] Z<|Ub 2 Z fun R a=>Uo (EQ _ s c) U7<|C4 1 [4] a Z<|Ui U2<|⟨Z,Z⟩
def eL (z:Int):Int:=if z<0 then -1 else if z=0 then 0 else 1
theorem lT (C:Mem)(z:Int):Gives cx.P 209 [ah (txt z)] C (.int .i64 (eL z)):=by
 refine Uk func209 9 U3 fun w0=>Ua 1 [0] Z ?_
 skip
 refine Ua 3 [0,3] Z<|Ud (fun h3=>?_) fun h3=>?_
 ·have b:z=0:=by
   have h:=lu z;rw [h] at h3;exact aK h3
  exact Ua 1 [2] Z<|Ui U2<|⟨by rw [b];rfl,Z⟩
 have b:z≠0:=by
  have h:=lu z;rw [h] at h3;exact Ql h3
 refine Ub 1 Z fun R d=>Uo (J5 _ (txt z) 45) U7<|C4 1 [6] d Z<|Ud (fun a=>?_) fun a=>?_
 ·have c:z<0:=by
   rw [dD] at a;exact aK a
  exact Ua 1 [2] Z<|Ui U2<|⟨by rw [eL,aV c],Z⟩
 have c:¬ z<0:=by
  rw [dD] at a;exact Ql a
 exact Ua 1 [2] Z<|Ui U2<|⟨by rw [eL,aA c,aA b],Z⟩
theorem sn (C:Mem)(a:Tabs C)(z:Int)(b:-9223372036854775808<=z)(c:z<=9223372036854775807):Gives cx.P 79 [.int .i64 z] C (ah (txt z)):=by
 exact Uk func79 5 U3 fun w0=>Ua 1 [0] Z<|Ub 1 Z fun R d=>Uo (ji _ a.m_ z b c) U7<|C4 1 [2] d Z<|Ui U2<|⟨Z,Z⟩
theorem mL (z:Int):(txt z).length<=(bq z.natAbs).length+1:=by unfold txt;split <;> simp
theorem uw (C:Mem)(z:Int)(e:(bq z.natAbs).length<=1000000):Gives cx.P 210 [ah (txt z)] C (ah (txt (-z))):=by
 have f:=mL z;refine Uk func210 14 U3 fun w0=>Ua 1 [0] Z<|Ub 1 Z fun R a=>Uo (lT _ z) U7<|Ug [0,4] a Z<|Ua 2 [0,4,5] Z<|Ud (fun h5=>?_) fun h5=>?_
 ·have d:0<z:=by
   have h:eL z=1:=by simpa using h5
   unfold eL at h;split at h
   ·cases h
   split at h
   ·cases h
   omega
  refine Ub 1 Z fun R a=>Va U6 (fun _=>(by simp only [QA,Qy];omega)) U2<|C4 1 [2] a Z<|Ui U2<|⟨?_,Z⟩;unfold txt;rw [aA om_,aV om_,Tq];rfl
 have d:¬ 0<z:=fun h=>by
  have h2:eL z=1:=by unfold eL;rw [aA om_,aA om_]
  rw [h2] at h5;cases h5
 refine Ua 2 [0,9] Z<|Ud (fun b=>?_) fun b=>?_
 ·have c:z<0:=by
   have h:eL z=-1:=by simpa using b
   unfold eL at h;split at h
   ·assumption
   split at h <;> cases h
  refine Ub 1 Z fun R a=>Vb 1 (txt z).length U9 (fun _=>⟨.inr ⟨_,Z⟩,.inl ⟨Z,Z⟩,.inl ⟨Z,Z⟩,(by unfold txt;rw [aV c];simp),Qi _,Qi _⟩) U2<|C4 1 [2] a Z<|Ui U2<|⟨?_,Z⟩;rw [Qv];unfold txt;rw [aV c,aA om_,Tq];rfl
 have c:¬ z<0:=fun h=>by
  have h2:eL z=-1:=by unfold eL;rw [aV h]
  rw [h2] at b;cases b
 refine Ua 2 [2] Z<|Ui U2<|⟨?_,Z⟩;rw [show z=0 by omega];rfl
theorem HD:∀ {s t:Str},(∀ c∈s,eP c=true)->(∀ c∈t,eP c=true)->s.length=t.length->Lib.compareBytes s t=jI (bV s) (bV t)
 | [],[],_,_,_=>rfl
 | [],_::_,_,_,h=>by simp at h
 | _::_,[],_,_,h=>by simp at h
 | c::s,d::t,hs,g,k=>by
  have e:s.length=t.length:=by simpa using k
  have i:∀ x∈s,eP x=true:=fun x f=>hs x (by simp [f]);have j:∀ x∈t,eP x=true:=fun x f=>g x (by simp [f]);have l:=HD i j e;have h1:=dV i;have h2:=dV j;have m:=hs c am;have n:=g d am;simp only [eP,Qs] at m n;rw [dE,dE,e];rw [e] at h1;simp only [Lib.compareBytes];obtain ⟨p,o⟩:∃ p,10 ^ t.length=p:=⟨_,rfl⟩;rw [o] at h1 h2 ⊢;by_cases a:c<d
  ·rw [aV a];have r:c.toNat<d.toNat:=a;have h3:(c.toNat-48+1)*p<=(d.toNat-48)*p:=Ri _ om_;rw [Sb] at h3;unfold jI;rw [aV om_]
  rw [aA a];by_cases b:d<c
  ·rw [aV b];have u:d.toNat<c.toNat:=b;have h3:(d.toNat-48+1)*p<=(c.toNat-48)*p:=Ri _ om_;rw [Sb] at h3;unfold jI;rw [aA om_,aV om_]
  rw [aA b,l];have q:c.toNat=d.toNat:=by
   have h3:¬ c.toNat<d.toNat:=a;have h4:¬ d.toNat<c.toNat:=b;omega
  rw [q];unfold jI;split <;> rename_i h5
  ·rw [aV om_]
  split <;> rename_i v
  ·rw [aA om_,aV om_]
  rw [aA om_,aA om_]
theorem qB (h:(bq a).length<(bq b).length):a<b:=by
 obtain ⟨h1,h2⟩:=bC a;obtain ⟨h3,h4⟩:=bC b;have c:=Q3.2 h1.2.1;have h5:=dV h1.1;have d:=ow h3 om_;have e:10 ^ (bq a).length<=10 ^ ((bq b).length-1):=QL dc_ om_;omega
theorem NK (h:(bq a).length=(bq b).length):Lib.compareBytes (bq a) (bq b)=jI a b:=by
 obtain ⟨h1,h2⟩:=bC a;obtain ⟨h3,h4⟩:=bC b;rw [HD h1.1 h3.1 h,h2,h4]
def vt (z w:Int):Int:=if z<w then -1 else if w<z then 1 else 0
theorem el (z:Int):(z<0/\eL z=-1)∨(z=0/\eL z=0)∨(0<z/\eL z=1):=by
 unfold eL;split
 ·exact .inl ⟨by assumption,Z⟩
 split
 ·exact .inr (.inl ⟨by assumption,Z⟩)
 exact .inr (.inr ⟨by omega,Z⟩)
theorem zg (h:eL z=eL w):vt z w=eL z*jI z.natAbs w.natAbs:=by
 have a:=el w;rw [<- h] at a;unfold vt jI;rcases el z with ⟨h1,h2⟩ | ⟨h1,h2⟩ | ⟨h1,h2⟩ <;> rw [h2] at a ⊢
 ·have h3:w<0:=by omega
  split <;> split <;> (try split) <;> omega
 ·have h3:w=0:=by omega
  subst h1 h3;simp
 have h3:0<w:=by omega
 split <;> split <;> (try split) <;> omega
theorem I1 (z:Int):IntKind.i64.wrap (-(eL z))=-(eL z):=by
 rcases el z with ⟨h1,h2⟩ | ⟨h1,h2⟩ | ⟨h1,h2⟩ <;> rw [h2] <;> rfl
theorem E3 (C:Mem)(a b:Str):Gives cx.P 233 [ah a,ah b] C (.int .i64 (Lib.compareBytes a b)):=yl Tryz.scmp a b C kr_
theorem pY (C:Mem)(z w:Int)(_m:(bq z.natAbs).length<=1000000)(_n:(bq w.natAbs).length<=1000000):Gives cx.P 161 [ah (txt z),ah (txt w)] C (.int .i64 (vt z w)):=by
 have ez:(cJ 45 (txt z)).1=bq z.natAbs:=by rw [dD]
 have j:(cJ 45 (txt w)).1=bq w.natAbs:=by rw [dD]
 refine Uk func161 41 U3 fun w0=>Ua 1 [0,1] Z<|Ub 1 Z fun R b=>Uo (lT _ z) U7<|Ue U6<|Uo (lT _ w) U7<|C4 2 [0,1,5,6] b Z<|Ua 3 [0,1,5,6,15] Z<|Ud (fun c=>?_) fun c=>?_
 ·have k:eL z≠eL w:=by simpa using c
  refine Ua 3 [18] Z<|Ud (fun d=>?_) fun d=>?_
  ·have a:eL z<eL w:=by simpa using d
   refine Ua 1 [4] Z<|Ui U2<|⟨?_,Z⟩;rw [vt,aV (by unfold eL at a;split at a <;> split at a <;> (try split at a) <;> omega)]
  have a:¬ eL z<eL w:=by simpa using d
  refine Ua 1 [4] Z<|Ui U2<|⟨?_,Z⟩;have h:w<z:=by
   have h2:eL w<eL z:=by omega
   unfold eL at h2;split at h2 <;> split at h2 <;> (try split at h2) <;> omega
  rw [vt,aA om_,aV h]
 have f:eL z=eL w:=by simpa using c
 refine Ub 1 Z fun R b=>Uo (zZ _ (txt z) 45) U7<|Ue U6<|Uo (zZ _ (txt w) 45) U7 ?_;rw [ez,j];refine C4 2 [5,7,8] b Z<|Ua 5 [5,7,8,27] Z<|Ud (fun g=>?_) fun g=>?_
 ·have k:(bq z.natAbs).length≠(bq w.natAbs).length:=fun e=>by
   have h:(((bq z.natAbs).length:Nat):Int)≠(((bq w.natAbs).length:Nat):Int):=by simpa using g
   exact h (by rw [e])
  refine Ua 5 [5,32] Z<|Ud (fun i=>?_) fun i=>?_
  ·have a:z.natAbs<w.natAbs:=qB (by
    have h:(((bq z.natAbs).length:Nat):Int)<(((bq w.natAbs).length:Nat):Int):=by simpa using i
    omega)
   refine Ua 3 [4] Z<|Ui U2<|⟨?_,Z⟩;rw [Int.zero_sub,I1,zg f,show jI z.natAbs w.natAbs=-1 from aV a];congr 1;omega
  have a:w.natAbs<z.natAbs:=qB (by
   have h:¬ (((bq z.natAbs).length:Nat):Int)<(((bq w.natAbs).length:Nat):Int):=by simpa using i
   omega)
  refine Ua 2 [4] Z<|Ui U2<|⟨?_,Z⟩;rw [zg f,show jI z.natAbs w.natAbs=1 from by unfold jI;rw [aA om_,aV a]];congr 1;omega
 have l:(bq z.natAbs).length=(bq w.natAbs).length:=by
  have h:(((bq z.natAbs).length:Nat):Int)=(((bq w.natAbs).length:Nat):Int):=by simpa using g
  omega
 refine Ub 3 Z fun R b=>Uo (E3 _ (bq z.natAbs) (bq w.natAbs)) U7 ?_;rw [NK l];refine UN ((vt z w)) U4 (by rw [zg f]) (by unfold vt;split <;> (try split) <;> omega) (by unfold vt;split <;> (try split) <;> omega) U2 ?_
 exact C4 1 [4] b Z<|Ui U2<|⟨Z,Z⟩
def qI (b:Bool):Int:=if b then 0 else 2
theorem wV (C:Mem)(s:Str):Gives cx.P 207 [ah s] C (.int .i64 (qI (cI s))):=by
 obtain ⟨t,neg,p⟩:∃ t b,cJ 45 s=(t,b):=⟨_,_,rfl⟩;have g:cI s=(t.all eP && !(t == []) && !(t.head? == some 48 && (neg || decide (1<t.length))) && decide (t.length<=200)):=by unfold cI xz;rw [p]
 refine Uk func207 47 U3 fun w0=>Ua 1 [0] Z<|Ub 1 Z fun R a=>Us (by have h:=Hy C s 45;rw [p] at h;exact h) U7 fl_<|C4 5 [3,4] a Z<|Ub 6 Z fun R a=>UH U8<|Uh 2 Z<|U0 (b:=t.headD 0) U8 (fun r=>⟨by omega,(by
  cases t with
  | nil=>exact Bool.noConfusion (show true=false from r.1)
  | cons b t=>rfl)⟩) U2 ?_
 refine Uh 7 Z<|UH U8<|UB U8<|UH U8<|Ug [3,30] a Z<|Ud (fun d=>?_) fun d=>?_
 ·have j:cI s=false:=by
   rw [g];cases t with
   | nil=>simp
   | cons b t =>
    simp at d;rcases d with h | ⟨h,h2⟩
    ·simp;intro _ _;omega
    have e:b=48:=TG.1 (by show b.toNat=48;omega);subst e;have u:(neg || decide (1<((48:UInt8)::t).length))=true:=by
     rcases h2 with h2 | h2
     ·rw [QC ap];simp
     rw [h2];rfl
    rw [u];simp
  exact Ua 1 [2] Z<|Ui U2<|⟨by rw [j];rfl,Z⟩
 have v:t.length<=200:=by
  simp at d;omega
 refine Ua 3 [3,32,33] Z<|G.loop (fun fr C' w y=>∃ (i:Nat),(i<=t.length/\∀ c∈t.take i,eP c=true)/\fr=[(3,[],ah t),(32,[],.int .i64 t.length),(33,[],.int .i64 i)]/\w=[]/\y=t.length-i) (hn_ [3,32,33] Z) ⟨0,⟨Qm _,by simp⟩,Z,Z,Z⟩ (fun fr E F m _ z=>?_);obtain ⟨i,⟨H,k⟩,rfl,rfl,rfl⟩:=z;refine Ua 1 [3,32,33,34] Z<|Ud (fun l=>?_) fun l=>?_
 ·have n:i<t.length:=by simpa using l
  obtain ⟨c,f⟩:∃ c,t[i]?=some c:=⟨t[i],ak n⟩;refine Ua 2 [3,5,32,33] Z<|Ub 2 Z fun R a=>U0 U8 (fun _=>⟨by omega,f⟩) U2<|Uh 4 Z<|U0 U8 (fun _=>⟨by omega,f⟩) U2<|Ue U6<|UH U8<|Ug [3,32,33,45] a Z<|Ud (fun o=>?_) fun o=>?_
  ·have j:cI s=false:=by
    have h1:t.all eP=false:=by
     rw [SD];refine ⟨c,Qj f, ?_⟩;simp at o;unfold eP;simp;omega
    rw [g,h1];rfl
   exact Ua 1 [2] Z<|Ui U2<|⟨by rw [j];rfl,Z⟩
  have A:eP c=true:=by
   simp at o;unfold eP;simp;omega
  refine Uf fun R a=>Ul _ U7<|C4 1 [3,32,33] a Z<|Un (m':=t.length-(i+1)) om_ mup (hn_ [3,32,33] Z) ⟨i+1,⟨by omega,fun x q=>by
   rw [QO,f] at q;rcases Qz.1 q with h | h
   ·exact k x h
   simp at h;subst h;exact A⟩,rfl,rfl,rfl⟩
 have n:t.length<=i:=by
  have:¬ i<t.length:=by simpa using l
  omega
 rw [QI n] at k;have B:t.all eP=true:=QD.2 k;have D:cI s=true:=by
  rw [g,B,QC v];cases t with
  | nil=>simp at d
  | cons b t =>
   simp at d;simp;by_cases e:b=48
   ·subst e;have h5:=d.2;simp at h5;exact .inr ⟨h5.2,Q1 om_⟩
   exact .inl e
 exact Ua 1 [2] Z<|Ui U2<|⟨by rw [D];rfl,Z⟩
theorem bZ (h:n<B9 ^ k)(a:0<k):(bq n).length<=9*k:=eF (by rw [Lq];exact h) om_
theorem zp (h:(txt z).length<=m):z.natAbs<10 ^ m:=by
 have h1:(bq z.natAbs).length<=m:=by
  unfold txt at h;split at h
  ·simp at h;omega
  exact h
 obtain ⟨h2,h3⟩:=bC z.natAbs;have h4:=dV h2.1;rw [h3] at h4;exact RB h4 (QL dc_ h1)
theorem e18:(10:Nat) ^ 18=1000000000000000000:=by decide
theorem e9:(10:Nat) ^ 9=1000000000:=by decide
theorem xZ (c:a<B9 ^ k)(d:b<B9 ^ k):a+b<B9 ^ (k+1):=by
 rw [RC];have:B9 ^ k*2<=B9 ^ k*B9:=RM _ dc_;omega
theorem Nl (C:Mem)(l:Tabs C)(z w:Int)(k:Nat)(u:0<k)(Y:k<=40000)(f:z.natAbs<B9 ^ k)(g:w.natAbs<B9 ^ k):Gives cx.P 145 [ah (txt z),ah (txt w)] C (ah (txt (z+w))):=by
 have aa:=bZ f u;have ab:=bZ g u;refine Uk func145 62 U3 fun w0=>Ua 1 [0,1] Z<|Ub 1 Z fun R a=>Uo (jH _ z 18 (Qi _)) U7<|C4 5 [0,1,5,6] a Z<|Ua 1 [0,1,5,16] Z<|G.cut (fun fr C' m o=>(True)/\fr=[(0,[],ah (txt z)),(1,[],ah (txt w))]/\m=[]) ?_ (fun fr _ ac o _ p=>?_)
 ·refine Ud (fun v=>?_) fun v=>?_
  ·have x:=aK v;rw [aV x];have K:=zp x;rw [e18] at K;refine Ub 1 Z fun R a=>Uo (jH _ w 18 (Qi _)) U7<|C4 5 [0,1,5,7,8] a Z<|Ua 1 [0,1,5,7,22] Z<|Ud (fun y=>?_) fun y=>?_
   ·have A:=aK y;rw [aV A];have L:=zp A;rw [e18] at L;exact Ub 2 Z fun R a=>Ul _ U7<|Us (sn _ l.m_ (z+w) om_ om_) U7 fl_<|C4 1 [4] a Z<|Ui U2<|⟨Z,Z⟩
   refine Uq 0 (Mem.le.refl _) (hn_ [0,1] Z) ⟨trivial,Z,Z⟩
  refine Uq 0 (Mem.le.refl _) (hn_ [0,1] Z) ⟨trivial,Z,Z⟩
 obtain ⟨_,rfl,rfl⟩:=p;refine Ub 1 Z fun R a=>UG (iZ _ z om_) U7 fl_ fun ad _ _ M=>Ue U6<|UG (iZ _ w om_) U7 fl_ fun ag _ _ N=>Uv U5 fun B=>Uv U5 (fun D=>?_);obtain ⟨pz,rfl,d⟩:=M;obtain ⟨pw,rfl,e⟩:=N;obtain ⟨Az,mz,cz,rfl⟩:=d.form;obtain ⟨Aw,mw,cw,rfl⟩:=e.form;refine Um (j:=1) U12<|Um (j:=1) U12<|Ug [9,10] a Z<|Ub 1 Z fun R a=>Uj ae U9<|Ue U6<|Uj af U9<|C4 1 [9,10,35] a Z<|Ud (fun q=>?_) fun q=>?_
 ·have i:decide (z<0)=decide (w<0):=by simpa using q
  refine Uy [0,1,2,3,4,5,6,7,8,9] [(8,1)] Z kr_ fun R O a=>Ue U6<|Uj ae U9<|Ue U6<|Uj ae U9<|Ue U6<|Uj af U9<|UG (Lu (k:=k) _ d.m_ e.m_ f g om_) U7 fl_ (fun ai _ _ E=>?_);obtain ⟨Q,S,T,rfl⟩:=E.form;exact Uu [.bool (decide (z<0)),_] U8<|Uz (fun _=>(jW _ l.m_ _ _ _ E (dA (k:=100000) (n:=k+1) (xZ f g) om_))) U9<|C4 1 [4] a Z<|Ui U2<|⟨by rw [Mp i],Z⟩
 have i:decide (z<0)≠decide (w<0):=by simpa using q
 refine Ub 1 Z fun R a=>Uj ae U9<|Ue U6<|Uj af U9<|Uo (pF _ d.m_ e.m_) U7<|C4 1 [9,10,50] a Z<|G.cut (fun fr C' m o=>∃ (b c:Int)(r s:Value),(NineC C' r b.natAbs/\NineC C' s c.natAbs/\c.natAbs<=b.natAbs/\b+c=z+w/\decide (b<0)≠decide (c<0)/\b.natAbs<B9 ^ k)/\fr=[(9,[],.pointer (some ⟨B,0,none⟩)),(10,[],.pointer (some ⟨D,0,none⟩))]/\m=[.obj D (.cells ⟨[.bool (decide (c<0)),s]⟩ 307 (0,0)),.obj B (.cells ⟨[.bool (decide (b<0)),r]⟩ 307 (0,0))]) ?_ (fun fr _ aj o _ p=>?_)
 ·refine Ud (fun t=>?_) fun t=>?_
  ·have F:z.natAbs<w.natAbs:=by
    have:jI z.natAbs w.natAbs<0:=by simpa using t
    exact iY.1 this
   refine Uf fun R a=>Uj af U9<|Uj ae U9<|Um (j:=1) U12<|Um (j:=1) U12<|Ug [9,10] a Z<|Uq 0 mup (hn_ [9,10] Z) ⟨w,z,_,_,⟨e.mono mup,d.mono mup,by omega,Int.add_comm w z,Ne.symm i,g⟩,Z,Z⟩
  have F:w.natAbs<=z.natAbs:=by
   have h:¬ jI z.natAbs w.natAbs<0:=by simpa using t
   rw [iY] at h;omega
  refine Uq 0 mup (hn_ [9,10] Z) ⟨z,w,_,_,⟨d.mono mup,e.mono mup,F,Z,i,f⟩,Z,Z⟩
 obtain ⟨b ,c ,r ,s,⟨H,I,U,V,W,X⟩,rfl,rfl⟩:=p;obtain ⟨ak,al,am,rfl⟩:=H.form;obtain ⟨an,ao,ap,rfl⟩:=I.form;refine Uy [0,1,2,3,4,5,6,7,8,9] [(8,1)] Z kr_ fun R O a=>Ue U6<|Uj ae U9<|Ue U6<|Uj ae U9<|Ue U6<|Uj af U9<|UG (um (k:=k) _ H.m_ I.m_ X U om_) U7 fl_ (fun aq _ _ J=>?_);obtain ⟨Q,S,T,rfl⟩:=J.form;exact Uu [.bool (decide (b<0)),_] U8<|Uz (fun _=>(jW _ l.m_ _ _ _ J (dA (k:=100000) (n:=k) om_ om_))) U9<|C4 1 [4] a Z<|Ui U2<|⟨by rw [Mq W om_,V],Z⟩
theorem Mr (z w:Int):sgZ (decide (z<0) != decide (w<0)) (z.natAbs*w.natAbs)=z*w:=by
 unfold sgZ;have h1:z=if z<0 then -(z.natAbs:Int) else (z.natAbs:Int):=by split <;> omega
 have h2:w=if w<0 then -(w.natAbs:Int) else (w.natAbs:Int):=by split <;> omega
 by_cases a:z<0 <;> by_cases b:w<0
 ·rw [QC a,QC b,aA dc_];rw [aV a] at h1;rw [aV b] at h2;rw [Rc]
  conv=>rhs;rw [h1,h2]
  rw [Int.neg_mul_neg]
 ·rw [QC a,QJ b,aV dc_];rw [aV a] at h1;rw [aA b] at h2;rw [Rc]
  conv=>rhs;rw [h1,h2]
  rw [Int.neg_mul]
 ·rw [QJ a,QC b,aV dc_];rw [aA a] at h1;rw [aV b] at h2;rw [Rc]
  conv=>rhs;rw [h1,h2]
  rw [Int.mul_neg]
 rw [QJ a,QJ b,aA dc_];rw [aA a] at h1;rw [aA b] at h2;rw [Rc]
 conv=>rhs;rw [h1,h2]
theorem nX (c:a<B9 ^ k)(d:b<B9 ^ k):a*b<B9 ^ (k+k):=by
 rw [Tg];exact Sj c d
theorem FN (a:z.natAbs<1000000000)(b:w.natAbs<1000000000):-1000000000000000000<z*w/\z*w<1000000000000000000:=by
 have h:z.natAbs*w.natAbs<=999999999*999999999:=RX om_ om_;rw [<- RY] at h;omega
theorem kP (C:Mem)(d:Tabs C)(z w:Int)(k:Nat)(e:0<k)(x:k<=40000)(b:z.natAbs<B9 ^ k)(c:w.natAbs<B9 ^ k):Gives cx.P 146 [ah (txt z),ah (txt w)] C (ah (txt (z*w))):=by
 have y:=bZ b e;have A:=bZ c e;refine Uk func146 43 U3 fun w0=>Ua 1 [0,1] Z<|Ub 1 Z fun R a=>Us (jH _ z 9 om_) U7 fl_<|C4 5 [0,1,5,6] a Z<|Ua 1 [0,1,5,16] Z<|G.cut (fun fr C' r s=>(True)/\fr=[(0,[],ah (txt z)),(1,[],ah (txt w))]/\r=[]) ?_ (fun fr _ B s _ t=>?_)
 ·refine Ud (fun f=>?_) fun f=>?_
  ·have g:=aK f;rw [aV g];have h:=zp g;rw [e9] at h;refine Ub 1 Z fun R a=>Us (jH _ w 9 om_) U7 fl_<|C4 5 [0,1,5,7,8] a Z<|Ua 1 [0,1,5,7,22] Z<|Ud (fun i=>?_) fun i=>?_
   ·have l:=aK i;rw [aV l];have m:=zp l;rw [e9] at m;have D:=FN h m;exact Ub 2 Z fun R a=>UN ((z*w)) U4 om_ om_ om_ U2<|Us (sn _ d.m_ (z*w) om_ om_) U7 fl_<|C4 1 [4] a Z<|Ui U2<|⟨Z,Z⟩
   refine Uq 0 (Mem.le.refl _) (hn_ [0,1] Z) ⟨trivial,Z,Z⟩
  refine Uq 0 (Mem.le.refl _) (hn_ [0,1] Z) ⟨trivial,Z,Z⟩
 obtain ⟨_,rfl,rfl⟩:=t;refine Ub 1 Z fun R a=>UG (iZ _ z om_) U7 fl_ fun E _ _ u=>Ue U6<|UG (iZ _ w om_) U7 fl_ fun F _ _ v=>Uv U5 fun H=>Uv U5 (fun I=>?_);obtain ⟨J,rfl,o⟩:=u;obtain ⟨K,rfl,p⟩:=v;obtain ⟨L,M,N,rfl⟩:=o.form;obtain ⟨O,Q,S,rfl⟩:=p.form;refine Um (j:=1) U12<|Um (j:=1) U12<|Ug [9,10] a Z<|Uy [0,1,2,3,4,5,6,7,8,9,10,11,12] [(11,1)] Z kr_ fun R T a=>Ue U6<|Uj ae U9<|Ue U6<|Uj af U9<|Uh 2 Z<|Uj ae U9<|Ue U6<|Uj af U9<|UG (ET (k:=k) _ o.m_ p.m_ b c om_) U7 fl_ (fun U _ _ q=>?_);obtain ⟨V,W,X,rfl⟩:=q.form;exact Uu [.bool (decide (z<0) != decide (w<0)),_] U8<|Uz (fun _=>(jW _ d.m_ _ _ _ q (dA (k:=100000) (n:=k+k) (nX b c) om_))) U9<|C4 1 [4] a Z<|Ui U2<|⟨by rw [Mr],Z⟩
end Go.Proofs.YthnpijdjlddpmaaGreatDoor
