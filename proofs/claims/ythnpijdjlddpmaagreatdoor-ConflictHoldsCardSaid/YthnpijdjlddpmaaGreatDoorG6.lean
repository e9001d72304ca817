/- Laws that the proofs of this seat share, part 6. -/
import Derived.Test.YthnpijdjlddpmaaGreatDoorG5
import Derived.Test.YthnpijdjlddpmaaGreatDoorShelf
set_option maxHeartbeats 4000000
namespace Go.Proofs.YthnpijdjlddpmaaGreatDoor
open Go.Proofs.Tryz
open Go Go.Jog
set_option maxRecDepth 100000
variable {Q:Nat}{a b:List Nat}{i j k:Nat}{l:List Nat}{m n:Nat}{o p:List Int}{q:List Nat}{s:Str}{t:Nat}{w:Int}{x:Nat}{z:Int}
theorem GQ (C:Mem)(a:Tabs C)(n:Nat)(h:n<=1000000000000000000):Gives cx.P 123 [.int .i64 n] C (ai (bl n)):=by
 have h1:=LK C a (n:Int) om_ om_
 rwa [J5] at h1
theorem jq (C:Mem)(a:Tabs C)(z:Int)(b:-9223372036854775808<=z)(c:z<=9223372036854775807):Gives cx.P 123 [.int .i64 z] C (ai (txt z)):=by
 have h:=LK C a z b c
 rwa [J4] at h
theorem Ns (C:Mem)(a:Tabs C)(x:Nat)(b:x<10000):Gives cx.P 123 [.int .i64 (10000+x:Nat)] C (ai (49::mD 4 x)):=by
 have h:=GQ C a (10000+x) om_
 rwa [tenK b] at h
theorem eI (h:n<10 ^ k)(a:0<k):(bl n).length<=k:=by
 apply Ro;intro b;have h1:=oq (bH n).1 om_;rw [(bH n).2] at h1;have h2:10 ^ k<=10 ^ ((bl n).length-1):=Q7 dc_ om_;omega
theorem uM (h:DigP l):(bl (bK l)).length<=4*l.length+1:=by
 refine eI ?_ om_;have h1:=mF h;rw [<- Lu] at h1;have h2:10 ^ (4*l.length)<=10 ^ (4*l.length+1):=Q7 dc_ om_;omega
theorem qg (h:k<l.length):(l.map aL)[k]?=some (aL (gP l k))/\l[k]?=some (gP l k):=by
 have e:l[k]?=some (gP l k):=by
  unfold gP;rw [al,aj h];rfl
 exact ⟨by rw [QI,e];rfl,e⟩
theorem G1 (C:Mem)(f:Tabs C)(v:Value)(l:List Nat)(b:Sl C 1 v (l.map aL))(g:CN l)(N:l.length<=100000):Gives cx.P 291 [v] C (ai (bl (bK l))):=by
 obtain ⟨s,c0,rfl,_⟩:=id b;simp only [ax] at b ⊢;have c:=g.1;refine Uv func291 34 U3 fun w0=>Um 1 [0] Z<|Um 3 [0,8] Z<|Up (fun d=>?_) fun d=>?_
 ·have h0:l=[]:=by
   have:(l.length:Int)=0:=by simpa using d
   exact Rq om_
  refine Um 1 [2] Z<|Uu U2<|⟨?_,Z⟩;rw [h0,show bl (bK [])=[48] by rw [bl];rfl];rfl
 have h0:0<l.length:=by
  have:¬ (l.length:Int)=0:=by simpa using d
  omega
 have t:(l.map aL)[((l.length:Int)-1).toNat]?=some (aL (gP l (l.length-1))):=by rw [show ((l.length:Int)-1).toNat=l.length-1 by omega];exact (qg om_).1
 have u:gP l (l.length-1)<10000:=G3 c _;have w:bK (l.drop (l.length-1))=gP l (l.length-1):=by
  rw [Re om_,Tu om_];have h1:=(qg (l:=l) (k:=l.length-1) om_).2;rw [(aE.1 h1).2];simp [bK]
 have x:0<gP l (l.length-1):=by
  have h1:=(qg (l:=l) (k:=l.length-1) om_).2;have h2:=g.2;rw [SE,h1] at h2;rcases Sb (gP l (l.length-1)) with h | h
  ·rw [h] at h2;exact absurd rfl h2
  exact h
 refine Un 3 Z fun R a=>Ux _ U7<|UE b.m_ U10 om_ t fl_ fun O y=>Uo y U8<|UC (GQ _ f.m_ (gP l (l.length-1)) om_) U7 fl_<|C4 1 [0,3] a Z<|Un 2 Z fun R a=>Ux _ U7<|C4 1 [0,3,4] a Z ?_;rw [show (l.length:Int)-2=((l.length-1:Nat):Int)-1 by omega];refine G.loop (fun fr C' z A=>∃ (k:Nat)(o:Str),(k<l.length/\vz o/\bW o=bK (l.drop k)/\0<bW o/\o.length<=25+4*(l.length-k))/\fr=[(0,[],.slice s l.length c0),(3,[],ai o),(4,[],.int .i64 ((k:Int)-1))]/\z=[]/\A=k+1) (hn_ [0,3,4] Z) ⟨l.length-1,bl (gP l (l.length-1)),⟨by omega,(bH _).1,by rw [(bH _).2,w],by rw [(bH _).2];exact x,by
  have h2:=eI (k:=4) (n:=gP l (l.length-1)) u om_;omega⟩,rfl,rfl,rfl⟩ (fun fr Q S m _ B=>?_)
 obtain ⟨k,o,⟨T,i,p,D,U⟩,rfl,rfl,rfl⟩:=B;refine Um 2 [0,3,4,20] Z<|Up (fun e=>?_) fun e=>?_
 ·have q:0<k:=by
   have:(0:Int)<=(k:Int)-1:=by simpa using e
   omega
  obtain ⟨j,rfl⟩:∃ j,k=j+1:=⟨k-1,by omega⟩;rw [show ((j+1:Nat):Int)-1=(j:Int) by omega];obtain ⟨E,F⟩:=qg (l:=l) (k:=j) om_;have r:=G3 c j;have H:gP l j<10000:=r;have I:=(kP 4 (gP l j) r).1;refine Un 2 Z fun R a=>UE b.m_ U10 om_ E fl_ fun V J=>Uo J U8<|UY (((10000+gP l j:Nat):Int)) U4 om_ om_ om_ U2<|Uz (Ns _ f.m_ _ H) U7<|C4 1 [0,3,4,5] a Z<|Un 2 Z fun R a=>Vo 1 (49::mD 4 (gP l j)).length U9 (fun _=>⟨.inr ⟨_,Z⟩,.inl ⟨Z,Z⟩,.inl ⟨Z,Z⟩,by simp,QG _,QG _⟩) U2<|Vn U6 (fun _=>(by simp only [SS,QX,QY];omega)) U2<|C4 1 [0,3,4] a Z<|Un 1 Z fun R a=>Ux _ U7<|C4 1 [0,3,4] a Z ?_;rw [QV,List.drop_one,List.tail_cons];obtain ⟨K,L,M⟩:=GZ c F i p D;refine UB (m':=j+1) om_ mup (hn_ [0,3,4] Z) ⟨j,o++mD 4 (gP l j),⟨by omega,K,L,M,by rw [QO,I];omega⟩,Z,Z,Z⟩
 have q:k=0:=by
  have:¬ (0:Int)<=(k:Int)-1:=by simpa using e
  omega
 subst q;refine Um 2 [2] Z<|Uu U2<|⟨?_,Z⟩;rw [ot i,p,RQ]
def sgZ (m:Bool)(n:Nat):Int:=if m then -(n:Int) else n
theorem AE (m:Bool)(n:Nat)(h:m=true->0<n):txt (sgZ m n)=if m then 45::bl n else bl n:=by
 unfold txt sgZ;cases m with
 | false=>simp
 | true=>have:=h rfl;simp;omega
theorem Gv (C:Mem)(e:Tabs C)(m:Bool)(v:Value)(l:List Nat)(i:Sl C 1 v (l.map aL))(j:DigP l)(k:l.length<=100000):Gives cx.P 264 [.bool m,v] C (ai (txt (sgZ m (bK l)))):=by
 have c:=mg j;have f:(xt l).length<=100000:=by unfold xt;rw [QX];omega
 have g:(xt l).length=0 ↔ bK l=0:=by rw [<- ir,Cs c,TQ]
 refine Uv func264 18 U3 fun w0=>Um 1 [0,1] Z<|Un 1 Z fun R a=>UW (Ce _ _ l i) U7 (fun n _ _ d=>?_);obtain ⟨o,p,rfl,_⟩:=id d;rw [ax] at d;rw [ax];refine C4 1 [0,1] a Z<|Un 5 Z fun R a=>UM U8<|Ut [1,12] a Z<|Up (fun b=>?_) fun b=>?_
 ·have hm:m=true/\0<bK l:=by
   simp at b;refine ⟨b.1, ?_⟩;have h2:=b.2;rcases Sb (bK l) with h | h
   ·have:=g.2 h;omega
   exact h
  refine Un 1 Z fun R a=>Uz (G1 _ e.m_ _ (xt l) d.m_ c f) U7<|Vn U6 (fun _=>(by have:=uM c.1;simp only [QY,Rp];omega)) U2<|C4 1 [4] a Z<|Uu U2<|⟨?_,Z⟩;rw [AE m _ (fun _=>hm.2),aJ hm.1,ir];rfl
 have hm:m=true->bK l=0:=fun h=>by
  rcases Sb (xt l).length with h0 | h0
  ·exact g.1 h0
  exfalso;have h1:decide ((0:Int)<((xt l).length:Nat))=true:=Q0 om_;rw [h,h1] at b;cases b
 refine Un 1 Z fun R a=>Uz (G1 _ e.m_ _ (xt l) d.m_ c f) U7<|C4 1 [4] a Z<|Uu U2<|⟨?_,Z⟩;rw [ir];congr 1;cases m with
 | false=>rw [AE false _ (fun h=>by cases h)];rfl
 | true=>rw [hm rfl];rfl
def gI (p:List Int)(i:Nat):Int:=p.getD i 0
theorem G5 (h:k<p.length):(p.map lZ)[k]?=some (lZ (gI p k))/\p[k]?=some (gI p k):=by
 have e:p[k]?=some (gI p k):=by
  unfold gI;rw [al,aj h];rfl
 exact ⟨by rw [QI,e];rfl,e⟩
theorem sC (h:p.length<=k):gI p k=0:=by
 unfold gI;rw [al,QS h];rfl
theorem Mh (p:List Int)(k:Nat):iR (p.take (k+1))=iR (p.take k)+(10000:Int) ^ k*gI p k:=by
 rcases Rh k p.length with h | h
 ·exact ES (G5 h).2
 rw [sC h,Rr h,Rr om_];simp
theorem FK (o:Int):(o-o % 10000).tdiv 10000=(o-o % 10000) / 10000:=Int.tdiv_eq_ediv_of_dvd (Int.dvd_of_emod_eq_zero om_)
theorem KN (C:Mem)(v:Value)(p:List Int)(g:Sl C 1 v (p.map lZ))(F:0<=iR p)(H:∀ x∈p, -1000000000000<=x/\x<=1000000000000)(N:p.length<=100000):Pur cx.P 290 [v] C fun u D=>PieC D u (iR p).toNat:=by
 obtain ⟨k,c0,rfl,_⟩:=id g;simp only [ax] at g ⊢;refine Uv func290 43 U3 fun w0=>Um 1 [0] Z<|Um 1 [0,3] Z<|Um 1 [0,3,4] Z<|Um 1 [0,3,4,5] Z<|G.nilArr 3 1<|G.loop (fun fr C' b c=>∃ (i:Nat)(o:Int)(out:List Nat)(w:Value),(out.length=i/\DigP out/\-1000000000000<=o/\o<=1000000000000/\iR (p.take i)=(bK out:Nat)+(10000:Int) ^ i*o/\(p.length<=i->(i:Int)+o<=1000000100000))/\fr=[(0,[],.slice k p.length c0),(3,[],w),(4,[],.int .i64 o),(5,[],.int .i64 i)]/\b=[.arr w 3 1 i (out.map aL).flatten]/\c=(p.length-i)*4611686018427387904+o.natAbs) (hn_ [0,3,4,5] Z) ⟨0,0,[],_,⟨Z,(fun x I=>(by cases I)),by omega,by omega,by simp [iR,bK],fun h=>by omega⟩,Z,Z,Z⟩ (fun fr O Q m _ d=>?_);obtain ⟨i,o,out,w,⟨e,l,S,T,n,B⟩,rfl,rfl,rfl⟩:=d;have q:p.length<=i->0<=o:=fun h=>by
  refine JB e l (V:=iR p) F ?_;rw [<- n,Rr h]
 have U:(i:Int)<=1000000100000:=by
  rcases Rh i p.length with h | h
  ·omega
  have:=q h;have:=B h;omega
 refine Un 7 Z fun R a=>UU U8<|Ut [0,3,4,5,14] a Z<|Up (fun r=>?_) fun r=>?_
 ·have s:i<p.length∨o≠0:=by
   simp at r;omega
  have W:-1000000000000<=gI p i/\gI p i<=1000000000000:=by
   rcases Rh i p.length with h | h
   ·exact H _ (PN (G5 h).2)
   rw [sC h];omega
  refine Um 4 [0,3,4,5,20] Z<|G.cut (fun fr C' b c=>(True)/\fr=[(0,[],.slice k p.length c0),(3,[],w),(4,[],.int .i64 (o+gI p i)),(5,[],.int .i64 i)]/\b=[.arr w 3 1 i (out.map aL).flatten]) ?_ (fun fr _ X c _ d=>?_)
  ·refine Up (fun t=>?_) fun t=>?_
   ·have f:i<p.length:=by simpa using t
    refine Un 3 Z fun R a=>UE g.m_ U10 om_ (G5 f).1 fl_ fun Y J=>Uo J U8<|Ux _ U7<|C4 1 [0,3,4,5] a Z<|UD 0 (Mem.le.refl _) (hn_ [0,3,4,5] Z) ⟨trivial,Z,Z⟩
   have f:p.length<=i:=by
    have:¬ i<p.length:=by simpa using t
    omega
   rw [show o=o+gI p i by rw [sC f,Int.add_zero]];refine UD 0 (Mem.le.refl _) (hn_ [0,3,4,5] Z) ⟨trivial,by rw [sC f];simp,Z⟩
  obtain ⟨_,rfl,rfl⟩:=d;refine Un 1 Z fun R a=>WO (Int.tmod (o+gI p i) 10000) Z Z Z Z Z Z om_ Z Z Z<|C4 1 [0,3,4,5,6] a Z ?_;have y:=Je (o+gI p i);have aa:-10000<=Int.tmod (o+gI p i) 10000/\Int.tmod (o+gI p i) 10000<10000:=by
   have:=T5 (o+gI p i) (show (10000:Int)≠0 by decide);have:=Int.emod_lt_of_pos (o+gI p i) (show (0:Int)<10000 by decide);split at y <;> omega
  refine Um 2 [0,3,4,5,6,30] Z<|G.cut (fun fr C' b c=>(True)/\fr=[(0,[],.slice k p.length c0),(3,[],w),(4,[],.int .i64 (o+gI p i)),(5,[],.int .i64 i),(6,[],.int .i64 (((o+gI p i) % 10000).toNat:Nat))]/\b=[.arr w 3 1 i (out.map aL).flatten]) ?_ (fun fr _ ab c _ d=>?_)
  ·refine Up (fun z=>?_) fun z=>?_
   ·have A:Int.tmod (o+gI p i) 10000<0:=by simpa using z
    rw [aJ A] at y;refine Un 1 Z fun R a=>UY (((((o+gI p i) % 10000).toNat:Nat):Int)) U4 om_ om_ om_ U2<|C4 1 [0,3,4,5,6] a Z<|UD 0 (Mem.le.refl _) (hn_ [0,3,4,5,6] Z) ⟨trivial,Z,Z⟩
   have A:¬ Int.tmod (o+gI p i) 10000<0:=by simpa using z
   rw [aB A] at y;rw [show Int.tmod (o+gI p i) 10000=((((o+gI p i) % 10000).toNat:Nat):Int) by omega];refine UD 0 (Mem.le.refl _) (hn_ [0,3,4,5,6] Z) ⟨trivial,Z,Z⟩
  obtain ⟨_,rfl,rfl⟩:=d;refine Un 2 Z fun R a=>UJ [aL (((o+gI p i) % 10000).toNat)] U12 fun ac _ _ K=>D.append (j:=0) U11 K Z aw (by show (i+1)*8<=_;omega) fl_ fun E=>C4 1 [0,3,4,5,6] a Z<|Un 2 Z fun R a=>UY ((o+gI p i-(o+gI p i) % 10000)) U4 om_ om_ om_ U2<|VC ((o+gI p i-(o+gI p i) % 10000) / 10000) U6 om_ (FK _) (by rw [IntKind.wrap_i64];omega) U2<|C4 1 [0,3,4,5] a Z<|Un 1 Z fun R a=>Ux _ U7<|C4 1 [0,3,4,5] a Z ?_;have hm:(p.length-(i+1))*4611686018427387904+((o+gI p i-(o+gI p i) % 10000) / 10000).natAbs<(p.length-i)*4611686018427387904+o.natAbs:=by
   rcases Rh i p.length with h2 | h2
   ·omega
   have h3:=q h2;rw [sC h2];omega
  refine UF (L':=[.arr E 3 1 (i+1) ((out++[((o+gI p i) % 10000).toNat]).map aL).flatten]) (by simp [aL])<|UB (m':=(p.length-(i+1))*4611686018427387904+((o+gI p i-(o+gI p i) % 10000) / 10000).natAbs) om_ mup (hn_ [0,3,4,5] Z) ⟨i+1,(o+gI p i-(o+gI p i) % 10000) / 10000,out++[((o+gI p i) % 10000).toNat],E,⟨by simp [e],l.snoc (by show ((o+gI p i) % 10000).toNat<10000;omega),by omega,by omega,by
   refine HL e ?_;rw [Mh,n,TU];omega,fun h=>by
   rcases Rh i p.length with h2 | h2
   ·omega
   have h3:=q h2;have h4:=B h2;rw [sC h2] at *;omega⟩,rfl,rfl,rfl⟩
 have s:p.length<=i/\o=0:=by
  simp at r;omega
 refine UO [(1,3)] Z fun R a=>Uq U6<|D.call (uN _ _ out e) Z (.inr dc_) U6 (QL _) fl_ (fun ad _ ae _ L=>?_);obtain ⟨rfl,M⟩:=L;refine C4 1 [2] a Z<|Uu U2<|⟨Z,xt out,mg l, ?_,M⟩;rw [Rr s.1,s.2] at n;rw [ir];omega
theorem Aq:∀ (l:List Int)(i:Nat)(x:Int),i<l.length->iR (l.set i x)=iR l+(10000:Int) ^ i*(x-gI l i)
 | [],i,x,h=>by simp at h
 | a::l,0,x,_=>by
  show x+10000*iR l=a+10000*iR l+1*(x-a);omega
 | a::l,i+1,x,h=>by
  have b:=Aq l i x (by simpa using h);show a+10000*iR (l.set i x)=a+10000*iR l+(10000:Int) ^ (i+1)*(x-gI l i);rw [b,TU,<- Int.mul_assoc,Int.pow_succ,Int.mul_comm ((10000:Int) ^ i) 10000];omega
theorem ER (l:List Int):iR (l++[0])=iR l:=by rw [vG];omega
structure Joins (p q:List Nat)(k:Int)(i:Nat)(o:List Int):Prop where
 len:o.length=max p.length i
 val:iR o=(bK p:Nat)+k*(bK (q.take i):Nat)
 rest:∀ j,i<=j->gI o j=(gP p j:Nat)
 lim:∀ x∈o, -100000000<=x/\x<=100000000
theorem Pn (p:List Nat)(j:Nat):gI (p.map fun x:Nat=>(x:Int)) j=(gP p j:Nat):=by
 unfold gI gP;rw [al,al,QI];cases p[j]? <;> rfl
theorem yL (p q:List Nat)(k:Int)(a:DigP p):Joins p q k 0 (p.map fun x:Nat=>(x:Int)):=by
 refine ⟨by simp,by rw [Av];simp [bK],fun j _=>Pn p j,fun x b=>?_⟩;obtain ⟨y,hy,rfl⟩:=QM.1 b;have:y<10000:=a y hy;omega
theorem Joins.zero {p:List Nat}{k:Int}(h:Joins p q k i o)(c:o.length<=i):iR (o++[0])=(bK p:Nat)+k*(bK (q.take i):Nat)/\(∀ j,i<=j->gI (o++[0]) j=(gP p j:Nat))/\(∀ x∈o++[0], -100000000<=x/\x<=100000000):=by
 refine ⟨by rw [ER,h.val],fun j a=>?_,fun x b=>?_⟩
 ·have h1:=h.rest j a;have h2:gI o j=0:=by unfold gI;rw [al,QS om_];rfl
  rw [<- h1,h2];unfold gI;rw [al,Rf om_];cases j-o.length <;> rfl
 rcases QW.1 b with h1 | h1
 ·exact h.lim x h1
 simp at h1;subst h1;omega
theorem G4 {x:Int}(h:i≠j):gI (o.set i x) j=gI o j:=by
 unfold gI;rw [al,al,TC h]
theorem DG {p:List Nat}{k:Int}{y:Nat}(d:DigP p)(f:DigP q)(a:-9999<=k/\k<=9999)(b:q[i]?=some y)(g:o.length=max p.length (i+1))
  (h:iR o=(bK p:Nat)+k*(bK (q.take i):Nat)) (c:∀ j,i<=j->gI o j=(gP p j:Nat)) (l:∀ x∈o, -100000000<=x/\x<=100000000) :
  Joins p q k (i+1) (o.set i (gI o i+k*(y:Nat))):=by
 have n:y<10000:=f y (PN b);have r:gP p i<10000:=G3 d i;have s:-99980001<=k*(y:Int)/\k*(y:Int)<=99980001:=by
  have h0:(0:Int)<=y:=by omega
  have h1:k*(y:Int)<=9999*(y:Int):=S1 a.2 h0;have h2:(-9999:Int)*(y:Int)<=k*(y:Int):=S1 a.1 h0;omega
 refine ⟨by rw [RI];exact g, ?_,fun j t=>?_,fun x m=>?_⟩
 ·rw [Aq o i _ om_,h,iQ b];have e:((bK (q.take i)+BP ^ i*y:Nat):Int)=(bK (q.take i):Nat)+(10000:Int) ^ i*(y:Int):=by
   rw [To,RH,Int.natCast_pow];rfl
  rw [e,TU,show gI o i+k*(y:Int)-gI o i=k*(y:Int) by omega,Int.mul_left_comm];omega
 ·rw [G4 om_];exact c j om_
 rcases Tj m with h1 | h1
 ·exact l x h1
 subst h1;rw [c i (QG _)];omega
theorem BW (h:k<p.length):p[k]?=some (gI p k):=by
 unfold gI;rw [al,aj h];rfl
theorem nh (h:CN l)(a:bK l<BP ^ m):l.length<=m:=by
 apply Ro;intro b;have h1:=uY h om_;have h2:BP ^ m<=BP ^ (l.length-1):=Q7 dc_ om_;omega
theorem uG (x:Int):(lZ x).length=1:=rfl
theorem fj (x:Nat):(aL x).length=1:=rfl
theorem HM (C:Mem)(v:Value)(p:List Int)(a:p.length=n)(b:0<=iR p)(c:∀ x∈p, -1000000000000<=x/\x<=1000000000000)(d:p.length<=100000):Jog.Fn cx.P 290 [v] C [.arr v 3 1 n (p.map lZ).flatten] fun u C' e=>e=[]/\PieC C' u (iR p).toNat :=
 Jog.Fn.give (p.map lZ) kr_ (by intro r hr;obtain ⟨y,_,rfl⟩:=QM.1 hr;rfl) (by rw [ax,a]) (fun C' _ hs=>KN C' v p hs b c d)
theorem wZ (C:Mem)(I J:Value)(p q:List Nat)(k:Int)(V:Sl C 1 I (p.map aL))(d:Sl C 1 J (q.map aL))(K:DigP p)(L:DigP q)(f:-9999<=k/\k<=9999)(W:0<=(bK p:Int)+k*(bK q:Int))(ap:p.length<=50000)(aq:q.length<=50000) :
  Pur cx.P 263 [I,J,.int .i64 k,.int .i64 0] C fun u D=>PieC D u ((bK p:Int)+k*(bK q:Int)).toNat:=by
 obtain ⟨M,c0,rfl,_⟩:=id d;simp only [ax] at d ⊢;refine Uv func263 45 U3 fun w0=>Um 1 [0,1,2,3] Z<|Ur fun R a=>Vz [] U12 fl_ fun ar=>Uq U6<|D.append (j:=0) U11 V (by rw [Q3];intro r hr;obtain ⟨y,_,rfl⟩:=QM.1 hr;rfl) (by rw [ax];simp only [Rp,maxLen];omega) (by rw [ax];show (0+p.length)*8<=_;omega) fl_ fun X=>C4 1 [1,2,3,9] a Z<|Um 1 [1,2,3,9,10] Z<|UF (L':=[.arr X 3 1 (p.map fun x:Nat=>(x:Int)).length (((p.map fun x:Nat=>(x:Int)).map lZ).flatten)]) (by rw [Rx];simp;rfl)<|G.loop (fun fr C' c g=>∃ (i:Nat)(o:List Int)(w:Value),(i<=q.length/\Joins p q k i o)/\fr=[(1,[],.slice M q.length c0),(2,[],.int .i64 k),(3,[],.int .i64 0),(9,[],w),(10,[],.int .i64 i)]/\c=[.arr w 3 1 o.length (o.map lZ).flatten]/\g=q.length-i) (hn_ [1,2,3,9,10] Z) ⟨0,_,_,⟨QK _,yL p q k K⟩,Z,Z,Z⟩ (fun fr au av m _ n=>?_);obtain ⟨i,o,w,⟨hi,b⟩,rfl,rfl,rfl⟩:=n;refine Um 4 [1,2,3,9,10,17] Z<|Up (fun z=>?_) fun z=>?_
 ·have A:i<q.length:=by simpa using z
  have ay:=b.len;refine G.loop (fun fr C' c g=>∃ (o2:List Int)(B:Value),((o2=o∨(o2=o++[0]/\o.length<=i)))/\fr=[(1,[],.slice M q.length c0),(2,[],.int .i64 k),(3,[],.int .i64 0),(9,[],B),(10,[],.int .i64 i)]/\c=[.arr B 3 1 o2.length (o2.map lZ).flatten]/\g=i+1-o2.length) (hn_ [1,2,3,9,10] Z) ⟨o,w,.inl Z,Z,Z,Z⟩ (fun fr az aA m _ n=>?_);obtain ⟨o2,B,E,rfl,rfl,rfl⟩:=n;refine W8 0 Z (fun Y N he=>?_);subst he;have aB:o2.length<=50002:=by
   have h1:o2.length<=o.length+1:=by
    have h2:=E.imp (fun e=>congrArg List.length e) (fun e=>congrArg List.length e.1);rw [QO,aU] at h2;omega
   omega
  refine Un 4 Z fun R a=>UY (((i:Nat):Int)) U4 om_ om_ om_ U2<|C4 1 [1,2,3,9,10,25] a Z<|Up (fun F=>?_) fun F=>?_
  ·have O:o2.length<=i:=by
    have:(o2.length:Int)<=i:=by simpa using F
    omega
   have aa:o2=o:=by
    refine E.elim id fun h=>?_;have:=h.1 ▸ O;rw [QO,aU] at this;omega
   subst aa;refine Un 1 Z fun R a=>UJ [lZ 0] U12 fun aC _ _ ab=>D.append (j:=0) U11 ab Z aw (by show (o2.length+1)*8<=_;omega) fl_ fun Q=>C4 1 [1,2,3,9,10] a Z<|UF (L':=[.arr Q 3 1 (o2++[0]).length ((o2++[0]).map lZ).flatten]) (by simp [lZ]) ?_;have aD:i+1-(o2++[0]).length<i+1-o2.length:=by rw [QO,aU];omega
   refine UB (m':=i+1-(o2++[0]).length) om_ mup (hn_ [1,2,3,9,10] Z) ⟨o2++[0],Q,.inr ⟨Z,O⟩,Z,Z,Z⟩
  have H:i<o2.length:=by
   have:¬ (o2.length:Int)<=i:=by simpa using F
   omega
  have ac:o2.length=max p.length (i+1)/\iR o2=(bK p:Nat)+k*(bK (q.take i):Nat)/\(∀ j,i<=j->gI o2 j=(gP p j:Nat))/\(∀ x∈o2, -100000000<=x/\x<=100000000):=by
   refine E.elim (fun h=>?_) fun h=>?_
   ·subst h;exact ⟨by omega,b.val,b.rest,b.lim⟩
   obtain ⟨h1,h2⟩:=h;subst h1;have h3:=b.zero h2;exact ⟨by rw [QO,aU];omega,h3⟩
  obtain ⟨ad,ae,ag,S⟩:=ac;obtain ⟨ai,aj⟩:=qg (l:=q) (k:=i) A;have aE:gP q i<10000:=G3 L i;have aF:-99980001<=k*((gP q i:Nat):Int)/\k*((gP q i:Nat):Int)<=99980001:=by
   have h0:(0:Int)<=((gP q i:Nat):Int):=by omega
   have h1:k*((gP q i:Nat):Int)<=9999*((gP q i:Nat):Int):=S1 f.2 h0;have h2:(-9999:Int)*((gP q i:Nat):Int)<=k*((gP q i:Nat):Int):=S1 f.1 h0;omega
  have aG:=S _ (PN (BW H));refine Wx 0 (m:=o2.length-1) (v:=.slice Y o2.length N) (t:=3) (s:=1) (xs:=(o2.map lZ).flatten) (by rw [show o2.length-1+1=o2.length by omega];rfl) (fun g0 cc ak=>?_);injection ak with al aH am;subst al am;refine UK [0,1,2,3,4,5,6,7,8,9,10,11,12,13,14] [] Z kr_ fun R hB a=>Us 3 Z<|UY (((i:Nat):Int)) U4 om_ om_ om_ U2<|UT (i*1) U10 ah U2<|Vb af U6 (fun _=>(by rw [cM uG (BW H)];rfl)) U2<|Us 3 Z<|UE d.m_ U10 om_ ai fl_ fun aI an=>Uo an U8<|Ux _ U7<|Ux _ U7<|UT (i*1) U10 ah U2<|UX (j:=0) U11 (by show i*1+1<=_;rw [bQ uG];omega)<|Ut [1,2,3,9,10] a Z<|Un 1 Z fun R a=>Ux _ U7<|C4 1 [1,2,3,9,10] a Z<|UF (L':=[.arr (.slice (some ⟨g0,0,none⟩) o2.length N) 3 1 (o2.set i (gI o2 i+k*((gP q i:Nat):Int))).length ((o2.set i (gI o2 i+k*((gP q i:Nat):Int))).map lZ).flatten]) (by rw [<- bM uG _ H,RI];rfl)<|UB (m':=q.length-(i+1)) om_ mup (hn_ [1,2,3,9,10] Z) ⟨i+1,_,_,⟨by omega,DG K L f aj ad ae ag S⟩,Z,Z,Z⟩
 have A:i=q.length:=by
  have:¬ i<q.length:=by simpa using z
  omega
 have T:iR o=(bK p:Int)+k*(bK q:Int):=by rw [b.val,A,QV]
 refine UO [(1,3)] Z fun R a=>Uq U6<|D.call (HM _ _ o Z (by rw [T];exact W) (fun x hx=>by have:=b.lim x hx;omega) (by have:=b.len;omega)) Z (.inr dc_) U6 (QL _) fl_ (fun aJ _ aK _ ao=>?_);obtain ⟨rfl,U⟩:=ao;refine C4 1 [8] a Z<|Uu U2 ?_;rw [T] at U;exact ⟨Z,U⟩
theorem Om (n:Nat):fo ([.int .i64 0]:List Value) n=((List.replicate n 0).map aL).flatten:=by
 rw [cZ,Tp];rfl
theorem vF (h:j<l.length):bK (l.drop j)=gP l j+BP*bK (l.drop (j+1)):=by
 rw [Re h,(aE.1 (qg h).2).2];rfl
theorem tL (h:j<l.length):bK ((l.set j x).drop j)=x+BP*bK (l.drop (j+1)):=by
 rw [vF (by rw [RI];exact h),List.drop_set_of_lt om_];congr 1;unfold gP;rw [al,Tt h];rfl
theorem Kr (h:DigP l)(a:x<BP):DigP (l.set j x):=fun y hy=>by
 rcases Tj hy with h1 | h1
 ·exact h y h1
 rw [h1];exact a
theorem Bv (C:Mem)(O Q:Value)(p q:List Nat)(v:Sl C 1 O (p.map aL))(g:Sl C 1 Q (q.map aL))(ai:DigP p)(w:CN q)(i:0<bK q)(aG:p.length<=10000)(aH:q.length<=10000) :
  Pur cx.P 261 [O,Q] C fun u D=>∃ u1 S,u=.tuple #[u1,S]/\PieC D u1 (bK p / bK q)/\PieC D S (bK p % bK q):=by
 obtain ⟨T,c0,rfl,_⟩:=id v;obtain ⟨U,V,rfl,_⟩:=id g;simp only [ax] at v g ⊢;refine Uv func261 58 U3 fun w0=>Um 2 [0,1] Z<|Un 2 Z fun R b=>Vq U9 (QG _) (by show 8*p.length<=281474976710656;omega) (by simp only [maxLen];omega) fl_ fun d=>C4 1 [0,1,6] b Z<|Um 1 [0,1,6,7] Z<|Un 2 Z fun R b=>Ux _ U7<|C4 1 [0,1,6,7,8] b Z<|UF (L':=[.arr (qW d p.length p.length) 3 1 p.length ((List.replicate p.length 0).map aL).flatten]) (by rw [<- Om];rfl)<|G.loop (fun fr C' e z=>∃ (k:Nat)(o l:List Nat)(A:Value),(k<=p.length/\o.length=p.length/\DigP o/\bK (o.drop k)=bK (p.drop k) / bK q/\Sl C' 1 A (l.map aL)/\CN l/\bK l=bK (p.drop k) % bK q)/\fr=[(0,[],.slice T p.length c0),(1,[],.slice U q.length V),(6,[],qW d p.length p.length),(7,[],A),(8,[],.int .i64 ((k:Int)-1))]/\e=[.arr (qW d p.length p.length) 3 1 p.length (o.map aL).flatten]/\z=k+1) (hn_ [0,1,6,7,8] Z) ⟨p.length,List.replicate p.length 0,[],.slice none 0 0,⟨QG _,Sv,(fun x c=>by rw [Ss c];decide),by rw [RW,Tu am];simp [bK],Sl.nil _ _,⟨fun x c=>(by cases c),by simp⟩,by rw [RW];simp [bK]⟩,Z,Z,Z⟩ (fun fr aI aJ m _ B=>?_);obtain ⟨k,o,l,A,⟨hk,W,X,Y,hs,E,F⟩,rfl,rfl,rfl⟩:=B;refine Um 2 [0,1,6,7,8,19] Z<|Up (fun H=>?_) fun H=>?_
 ·have aa:0<k:=by
   have:(0:Int)<=(k:Int)-1:=by simpa using H
   omega
  obtain ⟨j,rfl⟩:∃ j,k=j+1:=⟨k-1,by omega⟩;rw [show ((j+1:Nat):Int)-1=(j:Int) by omega];obtain ⟨aj,aK⟩:=qg (l:=p) (k:=j) om_;have c:gP p j<BP:=G3 ai j;have aM:gP p j<10000:=c;have aN:l.length<=q.length:=nh E (by rw [F];exact SZ (Rs _ i) (mF w.1));have ak:DigP (gP p j::l):=fun y hy=>by
   rcases QT.1 hy with h | h
   ·rw [h];exact c
   exact E.1 y h
  refine UO [(7,3)] Z fun R b=>Us 2 Z<|UE v.m_ U10 om_ aj fl_ fun aO al=>Uo al U8<|Vz [aL (gP p j)] U12 fl_ fun aP=>Uq U6<|D.append (j:=0) U11 hs.m_ (by rw [Q3];intro r hr;obtain ⟨y,_,rfl⟩:=QM.1 hr;rfl) (by rw [ax];simp only [aU,maxLen];omega) (by rw [ax];show (1+l.length)*8<=_;omega) fl_ fun aQ=>D.call (uN _ _ (gP p j::l) (n:=1+(l.map aL).length) (by rw [ax];simp;omega)) Z (.inr dc_) U6 (QL _) fl_ (fun ab an aR _ ao=>?_);obtain ⟨rfl,I⟩:=ao;refine C4 1 [0,1,6,7,8] b Z ?_;obtain ⟨r,ac,J,ad,aS⟩:∃ r,CN r/\bK r=gP p j+BP*(bK (p.drop (j+1)) % bK q)/\Sl an 1 ab (r.map aL)/\r.length<=20000:=⟨xt (gP p j::l),mg ak,by rw [ir];show gP p j+BP*bK l=_;rw [F],I,by unfold xt;rw [QX,QY];omega⟩;have K:=Hi (t:=bK (p.drop (j+1))) (x:=gP p j) i;rw [<- vF om_,<- J] at K;have ap:bK r / bK q<BP:=by rw [J];exact xp i c
  have aT:bK r / bK q<10000:=ap;refine Um 2 [0,1,6,7,8,9,10] Z<|G.loop (fun fr C' e z=>∃ (low a:Nat),(low<=bK r / bK q/\bK r / bK q<=a/\a<=9999)/\fr=[(0,[],.slice T p.length c0),(1,[],.slice U q.length V),(6,[],qW d p.length p.length),(7,[],ab),(8,[],.int .i64 j),(9,[],.int .i64 low),(10,[],.int .i64 a)]/\e=[.arr (qW d p.length p.length) 3 1 p.length (o.map aL).flatten]/\z=a-low) (hn_ [0,1,6,7,8,9,10] Z) ⟨0,9999,⟨QK _,by omega,QG _⟩,Z,Z,Z⟩ (fun fr aV aW m _ B=>?_);obtain ⟨low,a,⟨aq,ar,au⟩,rfl,rfl,rfl⟩:=B;refine Um 3 [0,1,6,7,8,9,10,32] Z<|Up (fun L=>?_) fun L=>?_
  ·have s:low<a:=by simpa using L
   obtain ⟨av,aw⟩:=Nx i aq ar s;refine Un 2 Z fun R b=>Ux _ U7<|Ux _ U7<|VC ((((low+a+1) / 2:Nat):Int)) U6 om_ (by rw [Th om_];omega) (by rw [IntKind.wrap_i64];omega) U2<|C4 1 [0,1,6,7,8,9,10,11] b Z<|Un 3 Z fun R b=>US (wZ _ _ _ [] q ((((low+a+1) / 2:Nat):Int)) (Sl.nil _ _) g.m_ (fun x c=>(by cases c)) w.1 om_ (by rw [<- RH];omega) am om_) U7 fl_ (fun aX _ _ ay=>?_);obtain ⟨l2,az,aA,aB⟩:=ay;have ae:bK l2=bK q*((low+a+1) / 2):=by
    have h0:((bK ([]:List Nat):Nat):Int)=0:=rfl;rw [aA,h0,Int.zero_add,<- RH,Sm,Rw]
   refine Uz (JA _ _ _ r l2 ad.m_ aB.m_ ac az) U7<|Ut [0,1,6,7,8,9,10,11,42] b Z<|Up (fun M=>?_) fun M=>?_
   ·have N:bK r<bK q*((low+a+1) / 2):=by
     rw [<- ae];simpa using M
    have f:=av N;refine Un 1 Z fun R b=>Ux _ U7<|C4 1 [0,1,6,7,8,9,10] b Z ?_;rw [show ((((low+a+1) / 2:Nat):Int))-1=(((low+a+1) / 2-1:Nat):Int) by omega];refine UB (m':=(low+a+1) / 2-1-low) om_ mup (hn_ [0,1,6,7,8,9,10] Z) ⟨low,(low+a+1) / 2-1,⟨f.1,f.2,by omega⟩,Z,Z,Z⟩
   have N:¬ bK r<bK q*((low+a+1) / 2):=by
    rw [<- ae];simpa using M
   have f:=aw N;refine Um 2 [0,1,6,7,8,9,10] Z<|UB (m':=a-(low+a+1) / 2) om_ mup (hn_ [0,1,6,7,8,9,10] Z) ⟨(low+a+1) / 2,a,⟨f.1,f.2,au⟩,Z,Z,Z⟩
  have s:low=bK r / bK q:=by
   have:¬ low<a:=by simpa using L
   omega
  have af:((bK r:Nat):Int) + -(low:Int)*((bK q:Nat):Int)=((bK r % bK q:Nat):Int):=by
   have h1:=TG (bK r) (bK q);rw [<- s] at h1;have h2:((bK q*low+bK r % bK q:Nat):Int)=(bK r:Nat):=by rw [h1]
   rw [To,RH] at h2;rw [Int.neg_mul,Int.mul_comm (low:Int)];omega
  refine Un 3 Z fun R b=>UT (j*1) U10 ah U2<|UX (j:=0) U11 (by show j*1+1<=_;rw [bQ fj];omega)<|Ut [0,1,6,7,8,9] b Z<|Un 4 Z fun R b=>?_;rw [show IntKind.i64.wrap (0-(low:Int))=-(low:Int) by rw [IntKind.wrap_i64];omega];refine US (wZ _ _ _ r q (-(low:Int)) ad.m_ g.m_ ac.1 w.1 om_ (by rw [af];omega) om_ om_) U7 fl_ (fun aY _ _ aC=>?_);obtain ⟨l3,aD,ag,aE⟩:=aC;rw [af,Sm] at ag;refine C4 1 [0,1,6,7,8] b Z<|Un 1 Z fun R b=>Ux _ U7<|C4 1 [0,1,6,7,8] b Z<|UF (L':=[.arr (qW d p.length p.length) 3 1 p.length ((o.set j low).map aL).flatten]) (by rw [<- bM fj _ (by omega:j<o.length)];rfl)<|UB (m':=j+1) om_ mup (hn_ [0,1,6,7,8] Z) ⟨j,o.set j low,l3,_,⟨by omega,by rw [RI];exact W,Kr X (by show low<BP;omega),by rw [tL om_,Y,K.1,s];omega,aE.mono mup,aD,by rw [ag,K.2,J]⟩,Z,Z,Z⟩
 have aa:k=0:=by
  have:¬ (0:Int)<=(k:Int)-1:=by simpa using H
  omega
 subst aa;refine UO [(1,3)] Z fun R b=>Uq U6<|D.call (uN _ _ o W) Z (.inr dc_) U6 (QL _) fl_ (fun aZ _ a0 _ aF=>?_);obtain ⟨rfl,I⟩:=aF;refine C4 3 [4,5] b Z<|UA (G.dropAll (UP U3 ?_));exact ⟨Z,_,_,Z,⟨xt o,mg X,by rw [ir,<- RQ (l:=o),Y,RQ],I⟩,⟨l,E,by rw [F,RQ],hs.mono mup⟩⟩
theorem dE (z:Int):cJ 45 (txt z)=(bl z.natAbs,decide (z<0)):=by
 unfold txt;split
 ·rename_i h;rw [Q0 h];rfl
 rename_i h;rw [Q6 h];unfold cJ;rw [aB];intro h0;have h1:=(bH z.natAbs).1.1 45 (List.mem_of_mem_head? h0);revert h1;decide
theorem AD (z:Int):txt z=[48] ↔ z=0:=by
 constructor
 ·intro h;have h1:(cJ 45 (txt z)).1=[48]:=by rw [h];rfl
  rw [dE] at h1;have h2:=(bH z.natAbs).2;have h3:bl z.natAbs=[48]:=h1;rw [h3] at h2;have h4:bW [48]=0:=rfl;omega
 rintro rfl;unfold txt;rw [aB om_,show bl (0:Int).natAbs=bl 0 from rfl,bl];rfl
theorem lu (z:Int):((⟨(txt z).toArray⟩:ByteArray).data.toList == (⟨#[48]⟩:ByteArray).data.toList)=decide (z=0):=by
 show (txt z == [48])=_;rw [Pr,Rv];exact AD z
theorem da (n:Nat):txt (n:Int)=bl n:=by
 unfold txt;rw [aB om_];rfl
theorem fA (C:Mem)(z:Int):Gives cx.P 258 [ai (txt z)] C (.tuple #[.bool (decide (z<0)),ai (bl z.natAbs)]):=by
 have h:=split_fn C (txt z)
 rwa [dE] at h
theorem Hs {c:UInt8}(h:s[i]?=some c):bW (s.take (i+1))=10*bW (s.take i)+(c.toNat-48):=by
 rw [Ht h];omega
theorem xr (a:∀ c∈s,eM c=true)(d:s.length<=17)(i:Nat):bW (s.take i)<100000000000000000:=by
 have h1:=dU (s:=s.take i) (fun c b=>a c (RZ b));have h2:10 ^ (s.take i).length<=10 ^ 17:=Q7 dc_ (by rw [QX];omega);omega
theorem IV (C:Mem)(z:Int)(b:(bl z.natAbs).length<=17):Gives cx.P 287 [ai (txt z)] C (.tuple #[.int .i64 z,.bool true]):=by
 obtain ⟨s,k⟩:∃ s,bl z.natAbs=s:=⟨_,rfl⟩;have hs:=(bH z.natAbs).1.1;have d:=(bH z.natAbs).2;rw [k] at b hs d;refine Uv func287 45 U3 fun w0=>Um 2 [0] Z<|Un 1 Z fun R a=>UC (by have h:=fA C z;rw [k] at h;exact h) U7 fl_<|C4 5 [4,5] a Z<|Um 3 [4,5,16] Z<|Up (fun l=>?_) fun l=>?_
 ·exfalso;have:(s.length:Int) > 19:=by simpa using l
  omega
 refine Um 1 [4,5,6] Z<|Um 1 [4,5,6,7] Z<|G.loop (fun fr C' p q=>∃ (i:Nat),(i<=s.length)/\fr=[(4,[],.bool (decide (z<0))),(5,[],ai s),(6,[],.int .i64 (-((bW (s.take i):Nat):Int))),(7,[],.int .i64 i)]/\p=[]/\q=s.length-i) (hn_ [4,5,6,7] Z) ⟨0,QK _,Z,Z,Z⟩ (fun fr w x m _ r=>?_);obtain ⟨i,y,rfl,rfl,rfl⟩:=r;refine Um 4 [4,5,6,7,20] Z<|Up (fun e=>?_) fun e=>?_
 ·have f:i<s.length:=by simpa using e
  obtain ⟨c,g⟩:∃ c,s[i]?=some c:=⟨s[i],aj f⟩;have t:=hs c (PN g);have A:48<=c.toNat/\c.toNat<=57:=by simpa [eM] using t
  have B:=xr hs b i;have u:(-9223372036854775808+(((c.toNat:Nat):Int)-48)).tdiv 10=-((9223372036854775808-(((c.toNat:Nat):Int)-48)) / 10):=by
   rw [show (-9223372036854775808+(((c.toNat:Nat):Int)-48))=-(9223372036854775808-(((c.toNat:Nat):Int)-48)) by omega,Int.neg_tdiv,Th om_]
  refine Un 2 Z fun R a=>Vk U8 (fun _=>⟨by omega,g⟩) U2<|Vc (c:=((c.toNat:Nat):Int)) U8 (by rw [IntKind.wrap_i64];omega) fl_<|Ux _ U7<|C4 1 [4,5,6,7,8] a Z<|Un 2 Z fun R a=>Ux _ U7<|VC (-((9223372036854775808-(((c.toNat:Nat):Int)-48)) / 10)) U6 om_ u (by rw [IntKind.wrap_i64];omega) U2<|C4 1 [4,5,6,7,8,32] a Z<|Up (fun n=>?_) fun n=>?_
  ·exfalso;simp only [QR] at n;omega
  refine Un 1 Z fun R a=>Ux _ U7<|Uq U6<|Ux _ U7<|C4 1 [4,5,6,7] a Z<|Un 1 Z fun R a=>Ux _ U7<|C4 1 [4,5,6,7] a Z ?_;rw [show 10 * -((bW (s.take i):Nat):Int)-(((c.toNat:Nat):Int)-48)=-((bW (s.take (i+1)):Nat):Int) by rw [Hs g];omega];refine UB (m':=s.length-(i+1)) om_ mup (hn_ [4,5,6,7] Z) ⟨i+1,om_,Z,Z,Z⟩
 have f:i=s.length:=by
  have:¬ i<s.length:=by simpa using e
  omega
 rw [f,QV,d];refine Um 2 [6,37] Z<|Up (fun j=>?_) fun j=>?_
 ·have v:z<0:=by simpa using j
  refine Um 3 [2,3] Z<|UA (G.dropAll (UP U3 ?_));refine ⟨?_,Z⟩;rw [show -((z.natAbs:Nat):Int)=z by omega]
 have v:¬ z<0:=by simpa using j
 have D:z.natAbs<100000000000000000:=by
  have:=xr hs b s.length
  rwa [QV,d] at this
 refine Um 3 [6,40] Z<|Up (fun o=>?_) fun o=>?_
 ·exfalso;simp at o;omega
 refine Um 4 [2,3] Z<|UA (G.dropAll (UP U3 ?_));refine ⟨?_,Z⟩;rw [show IntKind.i64.wrap (0 - -((z.natAbs:Nat):Int))=z by rw [IntKind.wrap_i64];omega]
theorem CA (C:Mem)(z:Int):Gives cx.P 260 [ai (txt z)] C (.tuple #[.int .i64 (if (bl z.natAbs).length<=17 then z else 0),.bool (decide ((bl z.natAbs).length<=17))]):=by
 refine Uv func260 18 U3 fun w0=>Um 2 [0] Z<|Un 1 Z fun R b=>Uz (fA C z) U7<|C4 5 [0,5] b Z<|Um 3 [0,13] Z<|Up (fun c=>?_) fun c=>?_
 ·have a:¬ (bl z.natAbs).length<=17:=by
   have:((bl z.natAbs).length:Int) > 17:=by simpa using c
   omega
  refine Um 2 [2,3] Z<|UA (G.dropAll (UP U3 ?_));rw [aB a,Q6 a];exact ⟨Z,Z⟩
 have a:(bl z.natAbs).length<=17:=by
  have:¬ ((bl z.natAbs).length:Int) > 17:=by simpa using c
  omega
 refine Un 1 Z fun R b=>Uz (IV _ z a) U7<|C4 4 [2,3] b Z<|UA (G.dropAll (UP U3 ?_));rw [aJ a,Q0 a];exact ⟨Z,Z⟩
theorem lI (C:Mem)(a:Tabs C)(z:Int)(b:-9223372036854775808<=z)(c:z<=9223372036854775807):Gives cx.P 148 [.int .i64 z] C (ai (txt z)):=by
 exact Uv func148 5 U3 fun w0=>Um 1 [0] Z<|Un 1 Z fun R d=>Uz (jq _ a z b c) U7<|C4 1 [2] d Z<|Uu U2<|⟨Z,Z⟩
theorem yp (C:Mem)(z:Int):Gives cx.P 221 [ai (txt z)] C (.int .i64 (if z<0 then -1 else if z=0 then 0 else 1)):=by
 refine Uv func221 13 U3 fun w0=>Um 1 [0] Z<|Un 1 Z fun R e=>Uz (fA C z) U7<|C4 5 [0,3] e Z<|Um 1 [0,10] Z<|Up (fun b=>?_) fun b=>?_
 ·have c:z<0:=by simpa using b
  refine Um 1 [2] Z<|Uu U2 ?_;rw [aJ c];exact ⟨Z,Z⟩
 have c:¬ z<0:=by simpa using b
 rw [aB c];refine Um 2 [12] Z<|Up (fun a=>?_) fun a=>?_
 ·rw [lu] at a;have d:z=0:=by simpa using a
  refine Um 1 [2] Z<|Uu U2 ?_;rw [aJ d];exact ⟨Z,Z⟩
 rw [lu] at a;have d:¬ z=0:=by simpa using a
 refine Um 1 [2] Z<|Uu U2 ?_;rw [aB d];exact ⟨Z,Z⟩
theorem si (C:Mem)(z:Int)(d:(bl z.natAbs).length<=1000000):Gives cx.P 222 [ai (txt z)] C (ai (txt (-z))):=by
 refine Uv func222 18 U3 fun w0=>Um 1 [0] Z<|Un 1 Z fun R a=>Uz (fA C z) U7<|C4 5 [0,3,4] a Z<|Un 4 Z fun R a=>UU U8<|Ut [4,14] a Z<|Up (fun b=>?_) fun b=>?_
 ·rw [lu] at b;have c:z<=0:=by simp at b;omega
  refine Um 2 [2] Z<|Uu U2<|⟨?_,Z⟩;rw [show txt (-z)=bl z.natAbs by rw [show -z=((z.natAbs:Nat):Int) by omega,da]]
 rw [lu] at b;have c:0<z:=by simp at b;omega
 refine Un 1 Z fun R a=>Vn U6 (fun _=>(by simp only [QY,Rp];omega)) U2<|C4 1 [2] a Z<|Uu U2<|⟨?_,Z⟩;rw [show txt (-z)=45::bl z.natAbs by unfold txt;rw [aJ om_];congr 2;omega];rfl
theorem tk (C:Mem)(z:Int):Gives cx.P 259 [ai (txt z)] C (ai (bl z.natAbs)):=by
 exact Uv func259 11 U3 fun w0=>Um 1 [0] Z<|Un 1 Z fun R a=>Uz (fA C z) U7<|C4 5 [4] a Z<|Um 2 [2] Z<|Uu U2<|⟨Z,Z⟩
theorem QH:BP ^ 200=10 ^ 800:=by decide +kernel
theorem gM (h:n<BP ^ 200):(bl n).length<=800:=eI (by rw [<- QH];exact h) om_
theorem PieC.take {D:Mem}{u:Value}(h:PieC D u n)(a:n<BP ^ 201):∃ l,CN l/\bK l=n/\l.length<=201/\Sl D 1 u (l.map aL):=by
 obtain ⟨l,h1,h2,h3⟩:=h;exact ⟨l,h1,h2,nh h1 (by rw [h2];exact a),h3⟩
theorem nP (C:Mem)(n:Nat)(h:n<BP ^ 200):Pur cx.P 262 [ai (bl n)] C fun u D=>∃ l,CN l/\bK l=n/\l.length<=200/\Sl D 1 u (l.map aL) :=
 (Mr C (bl n) (bH n).1.1 (by have:=gM h;omega)).mono fun u D _ _ ⟨h0,l,h1,h2,h3⟩=>⟨h0,l,h1,by rw [h2,(bH n).2],nh h1 (by rw [h2,(bH n).2];exact h),h3⟩
theorem PR:BP ^ 200+BP ^ 200<BP ^ 201:=by decide +kernel
theorem Cv (h:(bl z.natAbs).length<=17):z.natAbs<100000000000000000:=by
 have h1:=dU (bH z.natAbs).1.1;rw [(bH z.natAbs).2] at h1;have h2:10 ^ (bl z.natAbs).length<=10 ^ 17:=Q7 dc_ h;omega
theorem MA (h:decide (z<0)=decide (w<0)):sgZ (decide (z<0)) (z.natAbs+w.natAbs)=z+w:=by
 rw [Rv] at h;unfold sgZ;by_cases a:z<0
 ·have:=h.1 a;rw [Q0 a,aJ rfl];omega
 have:¬ w<0:=fun h1=>a (h.2 h1);rw [Q6 a,aB am];omega
theorem MB (h:decide (z<0)≠decide (w<0))(b:¬ z.natAbs<w.natAbs):sgZ (decide (z<0)) (z.natAbs-w.natAbs)=z+w:=by
 rw [ne_eq,Rv] at h;unfold sgZ;by_cases a:z<0
 ·have:¬ w<0:=fun h1=>h ⟨fun _=>h1,fun _=>a⟩;rw [Q0 a,aJ rfl];omega
 have:w<0:=Ro fun h1=>h ⟨fun h2=>absurd h2 a,fun h2=>absurd h2 h1⟩;rw [Q6 a,aB am];omega
theorem oP (C:Mem)(n:Nat):Gives cx.P 258 [ai (bl n)] C (.tuple #[.bool false,ai (bl n)]):=by
 have h:=fA C (n:Int);rw [da,Q6 om_] at h;exact h
theorem qM (C:Mem)(n:Nat):Gives cx.P 260 [ai (bl n)] C (.tuple #[.int .i64 (if (bl n).length<=17 then (n:Int) else 0),.bool (decide ((bl n).length<=17))]):=by
 have h:=CA C (n:Int);rw [da] at h;exact h
theorem qN (h:(bl n).length<=17):n<100000000000000000:=Cv (z:=(n:Int)) h
theorem Gd (C:Mem)(a:Tabs C)(n:Nat)(h:n<=9223372036854775807):Gives cx.P 148 [.int .i64 n] C (ai (bl n)):=by
 have h:=lI C a (n:Int) om_ om_
 rwa [da] at h
theorem uq (C:Mem)(a:Tabs C)(v:Value)(l:List Nat)(b:Sl C 1 v (l.map aL))(c:DigP l)(d:l.length<=100000):Gives cx.P 264 [.bool false,v] C (ai (bl (bK l))):=by
 have h:=Gv C a false v l b c d;rw [show sgZ false (bK l)=((bK l:Nat):Int) from rfl,da] at h;exact h
theorem P0 {q:Nat}(h:q<=9223372036854775807):IntKind.i64.wrap ((q:Nat):Int)=(q:Nat):=by rw [IntKind.wrap_i64];omega
theorem ma (C:Mem)(d:Tabs C)(a b:Nat)(l:a<BP ^ 200)(m:b<BP ^ 200)(e:0<b):Gives cx.P 224 [ai (bl a),ai (bl b)] C (.tuple #[ai (bl (a / b)),ai (bl (a % b))]):=by
 have D:=PR;refine Uv func224 93 U3 fun w0=>Um 2 [0,1] Z<|Un 1 Z fun R c=>Uz (qM C a) U7<|C4 5 [0,1,6,7] c Z<|Un 1 Z fun R c=>Uz (qM _ b) U7<|C4 5 [0,1,6,7,8,9] c Z<|Un 3 Z fun R c=>UM U8<|Ut [0,1,6,8,31] c Z<|Up (fun f=>?_) fun f=>?_
 ·have hs:(bl a).length<=17/\(bl b).length<=17:=by simpa using f
  have h1:=qN hs.1;have h2:=qN hs.2;rw [aJ hs.1,aJ hs.2];have h0:=RM a b;refine UK [0,1,2,3,4,5,6,7] [] Z kr_ fun R E c=>Us 2 Z<|VC (((a / b:Nat):Int)) U6 om_ (by rw [Th om_];rfl) (P0 om_) U2<|Us 2 Z<|Vx U6 om_ om_ U2<|C4 2 [6,8,10,11] c Z<|Um 2 [6,8,10,11,39] Z<|Up (fun g=>?_) fun g=>?_
  ·exfalso;have h3:=T5 (a:Int) (show (b:Int)≠0 by omega);simp only [QR] at g;omega
  rw [<- Int.natCast_emod];have h3:=RM a b;have h4:=Rs a e;refine Un 1 Z fun R c=>UC (Gd _ d (a / b) om_) U7 fl_<|Uq U6<|UC (Gd _ d (a % b) om_) U7 fl_<|C4 2 [4,5] c Z<|UA (G.dropAll (UP U3 ?_));exact ⟨Z,Z⟩
 refine Un 1 Z fun R c=>Uz (oP _ a) U7<|C4 5 [1,12,13] c Z<|Un 1 Z fun R c=>Uz (oP _ b) U7<|C4 5 [12,13,14,15] c Z<|Un 1 Z fun R c=>UW (nP _ a l) U7 (fun F _ _ n=>?_);obtain ⟨lp,o,p,H,q⟩:=n;refine Uq U6<|UW (nP _ b m) U7 (fun I _ _ r=>?_);obtain ⟨s,t,u,J,v⟩:=r;refine US (Bv _ _ _ lp s q.m_ v.m_ o.1 t om_ om_ om_) U7 fl_ (fun K _ _ w=>?_);obtain ⟨u1,L,rfl,h,i⟩:=w;rw [p,u] at h i;obtain ⟨l1,x,y,M,z⟩:=PieC.take h (by have:=RM a b;omega);obtain ⟨l2,A,B,N,j⟩:=PieC.take i (by have:=Rs a e;omega);obtain ⟨A2,c2,rfl,_⟩:=id j;refine C4 5 [12,14,15,16,17] c Z<|Un 5 Z fun R c=>UM U8<|Ut [12,14,15,16,17,78] c Z<|Up (fun k=>?_) fun k=>?_
 ·exfalso;simp at k
 refine Un 4 Z fun R c=>UC (uq _ d.m_ _ l1 z.m_ x.1 om_) U7 fl_<|Uq U6<|UC (uq _ d.m_ _ l2 j.m_ A.1 om_) U7 fl_<|C4 2 [4,5] c Z<|UA (G.dropAll (UP U3 ?_));rw [y,B];exact ⟨Z,Z⟩
theorem LU (n:Nat):((⟨(bl n).toArray⟩:ByteArray).data.toList == (⟨#[48]⟩:ByteArray).data.toList)=decide (n=0):=by
 have h:=lu (n:Int);rw [da] at h;rw [h,Rv];omega
theorem DQ (C:Mem)(h:Tabs C)(z w:Int)(i:z.natAbs<BP ^ 200)(j:w.natAbs<BP ^ 200):Gives cx.P 223 [ai (txt z),ai (txt w)] C (ai (bl (Nat.gcd z.natAbs w.natAbs))):=by
 refine Uv func223 22 U3 fun w0=>Um 1 [0,1] Z<|Un 1 Z fun R e=>Uz (tk _ z) U7<|Uq U6<|Uz (tk _ w) U7<|C4 2 [0,1] e Z<|G.loop (fun fr C' k l=>∃ (a b:Nat),(a<BP ^ 200/\b<BP ^ 200/\Nat.gcd a b=Nat.gcd z.natAbs w.natAbs)/\fr=[(0,[],ai (bl a)),(1,[],ai (bl b))]/\k=[]/\l=b+1) (hn_ [0,1] Z) ⟨z.natAbs,w.natAbs,⟨i,j,Z⟩,Z,Z,Z⟩ (fun fr p q m _ n=>?_);obtain ⟨a,b,⟨o,f,g⟩,rfl,rfl,rfl⟩:=n;refine Um 2 [0,1,12] Z<|Up (fun c=>?_) fun c=>?_
 ·have d:0<b:=by
   rw [LU] at c;have:b≠0:=by simpa using c
   omega
  have r:=Rs a d;refine Un 2 Z fun R e=>Uz (ma _ h.m_ a b o f d) U7<|C4 5 [1,6] e Z<|Um 4 [0,1] Z<|UB (m':=a % b+1) om_ mup (hn_ [0,1] Z) ⟨b,a % b,⟨f,by omega,by rw [<- g,Pq a b d]⟩,Z,Z,Z⟩
 have d:b=0:=by
  rw [LU] at c;simpa using c
 refine Um 2 [4] Z<|Uu U2<|⟨?_,Z⟩;rw [<- g,d,Tq]
def iK (s:Str):Int:=sgZ (cJ 45 s).2 (bW (cJ 45 s).1)
theorem xH {t:Str}(h:vz t):t.head?=some 48 ↔ bW t=0:=by
 constructor
 ·intro h0;have h1:=h.2.2 h0;cases t with
  | nil=>cases h0
  | cons b t =>
   have a:b=48:=by simpa using h0
   have d:t=[]:=by cases t with
    | nil=>rfl
    | cons c t=>simp at h1
   subst a d;rfl
 intro h0;have:=qL h (bH 0).1 (by rw [h0,(bH 0).2]);rw [this,bl];rfl
theorem xF :xG s=true ↔ vz (cJ 45 s).1/\((cJ 45 s).2=true->0<bW (cJ 45 s).1):=by
 obtain ⟨t,neg,d⟩:∃ t b,cJ 45 s=(t,b):=⟨_,_,rfl⟩;unfold xG;rw [d];simp only [QU,S2,RJ,ne_eq,Q3,Bool.and_eq_false_imp,Sn,Sq,Q2];constructor
 ·rintro ⟨⟨h1,h2⟩,h3⟩;have a:vz t:=⟨h1,h2,fun h=>by
   have:=(h3 h).2;have:0<t.length:=Ru.2 h2;omega⟩
  refine ⟨a,fun c=>?_⟩;rcases Sb (bW t) with h | h
  ·have:=(h3 ((xH a).2 h)).1;rw [c] at this;cases this
  exact h
 rintro ⟨a,h⟩;refine ⟨⟨a.1,a.2.1⟩,fun h0=>?_⟩;have h1:=(xH a).1 h0;have h2:=a.2.2 h0;refine ⟨?_,by omega⟩;cases c:neg with
 | false=>rfl
 | true=>have:=h c;omega
theorem Hh (s:Str):s=if (cJ 45 s).2 then 45::(cJ 45 s).1 else (cJ 45 s).1:=by
 unfold cJ;split
 ·rename_i h;cases s with
  | nil=>cases h
  | cons b s =>
   have a:b=45:=by simpa using h
   subst a;rfl
 rfl
theorem HP (h:xG s=true):s=txt (iK s):=by
 obtain ⟨h1,h2⟩:=xF.1 h;unfold iK;rw [AE _ _ h2,<- ot h1];exact Hh s
def pg (zn:Int):Option Str->Bool
 | none=>true
 | some b=>decide (1<iK b) && !(zn == 0) && (Nat.gcd zn.natAbs (iK b).natAbs == 1)
def aW (s:Str):Bool:=cI (ka 47 s).1 && cI ((ka 47 s).2.getD [49]) && pg (iK (ka 47 s).1) (ka 47 s).2
theorem rV :cI s=true ↔ okD (cJ 45 s).1=true/\((cJ 45 s).2=true->0<bW (cJ 45 s).1):=by
 unfold cI;rw [QU,xF,yC,QR];constructor
 ·rintro ⟨⟨h1,h2⟩,h3⟩;exact ⟨⟨h1,h3⟩,h2⟩
 rintro ⟨⟨h1,h3⟩,h2⟩;exact ⟨⟨h1,h2⟩,h3⟩
theorem Kv (s:Str):(iK s).natAbs=bW (cJ 45 s).1:=by
 unfold iK sgZ;split <;> omega
theorem FH (h:s.length<=n):(ka 47 s).1.length<=n/\((ka 47 s).2.getD [49]).length<=n+1:=by
 rcases gQ 47 s with ⟨h1,_⟩ | ⟨a,post,h1,h2,_⟩
 ·rw [h1];exact ⟨h,by simp⟩
 have e:=congrArg List.length h2;rw [QO,QY] at e;rw [h1];simp only [R0];omega
theorem one_val:([49]:Str)=txt 1:=by
 unfold txt;rw [aB om_,show bl (1:Int).natAbs=bl 1 from rfl,bl];rfl
theorem sT (n:Nat):((⟨(bl n).toArray⟩:ByteArray).data.toList == (⟨#[49]⟩:ByteArray).data.toList)=(n == 1):=by
 show (bl n == [49])=_;rw [Pr,Ub,QR,Sn];constructor
 ·intro h;have h2:=(bH n).2;rw [h] at h2;exact h2.symm
 rintro rfl;rw [bl];rfl
theorem F2 (C:Mem)(s:Str)(d:∀ c∈s,eM c=true)(e:s≠[])(f:s.length<=18):Gives cx.P 251 [ai s,.int .i64 10,.int .i64 64] C (.tuple #[.int .u64 (bW s),.nilIface]):=by
 refine Uv func251 26 U3 fun w0=>Um 2 [0,1,2] Z<|Un 3 Z fun R a=>UC (F1 Tryz.parseU s d e f _ kr_) U7 fl_<|C4 5 [0,1,2,8,9] a Z<|Un 1 Z fun R a=>Wg false Z Z Z Z Z (.inr ⟨Z,Z⟩) kr_ Z Z<|Ut [0,1,2,8,9,18] a Z<|Up (fun b=>?_) fun b=>?_
 ·cases b
 refine Um 3 [6,7] Z<|UA (G.dropAll (UP U3 ?_));exact ⟨Z,Z⟩
theorem Da (C:Mem)(i:Nat)(h:i<100):Gives cx.P 269 [.int .i64 i] C (ai (bl i)):=by
 have h1:=Gives.ofCalls (f:=269) (args:=[.int .i64 i]) (P:=cx.P) kr_ (fun w=>Any.internal_strconv_small Tryz.small10 i h w) C;rw [dN] at h1;exact h1
theorem BG (u:Nat):Lib.nDigits u=(bl u).length:=by rw [<- dN,Lib.decDigits_length]
theorem DR (C:Mem)(l:Tabs C)(u:Nat)(s:u<9223372036854775808):Gives cx.P 286 [.int .u64 u,.int .i64 10] C (ai (bl u)):=by
 refine Uv func286 32 U3 fun w0=>Um 1 [0,1] Z<|Um 2 [0,1,10] Z<|Up (fun g=>?_) fun g=>?_
 ·refine Um 2 [0,12] Z<|Up (fun e=>?_) fun e=>?_
  ·have h:u<100:=by
    have:(u:Int)<100:=by simpa using e
    omega
   exact Un 1 Z fun R a=>Vc (c:=(u:Int)) U8 (by rw [IntKind.wrap_i64];omega) fl_<|Uz (Da _ u h) U7<|C4 1 [4] a Z<|Uu U2<|⟨Z,Z⟩
  have h:100<=u:=by
   have:¬ (u:Int)<100:=by simpa using e
   omega
  have t:Lib.nDigits u<=19:=by
   rw [BG];exact eI om_ om_
  refine Ur fun R a=>UI U5 fun i=>Ut [0,5] a Z<|Un 1 Z fun R a=>UC (wM Tryz.nDig u om_ om_ _ l.pow.m_ kr_) U7 fl_<|C4 1 [0,5,6] a Z<|UO [(3,3)] Z fun R a=>Uq U6<|V8 0 (Lib.nDigits u) 24 U12 (fun _=>⟨.inl ⟨Z,Z⟩,.inr ⟨_,Z⟩,.inl ⟨Z,Z⟩,by omega,by omega,by decide⟩) U2<|Uq U6<|D.call (yS Tryz.fmt10 i 24 u 372 (List.replicate 24 (Value.int .u8 0)) om_ (fun j d=>(by rw [Sx,aJ om_])) om_ _ kr_) Z (.inr dc_) U6 (QL _) fl_ fun w _ z _ m=>Ut [5,6] a Z ?_;obtain ⟨_,rfl,cs,rfl,A,n⟩:=m;refine G.freeze 0 Z (fun o _ p=>?_);have q:(bl u).length=Lib.nDigits u:=(BG u).symm;have k:Sl o 1 (.slice (some ⟨i,0,none⟩) ((bl u).map fun b=>[Value.int .u8 b.toNat]).length 24) ((bl u).map fun b=>[Value.int .u8 b.toNat]) :=
   Sl.ofBlock p (by intro r hr;obtain ⟨y,_,rfl⟩:=QM.1 hr;rfl) (fun j v d=>by
    rw [gi,QI] at d;cases f:(bl u)[j]? with
    | none=>rw [f] at d;cases d
    | some x=>rw [f] at d;cases d;simpa using n j x f) ap (by simp [maxLen])
  rw [ax,q] at k;exact Un 1 Z fun R a=>V8 0 (Lib.nDigits u) 24 U12 (fun _=>⟨.inl ⟨Z,Z⟩,.inr ⟨_,Z⟩,.inl ⟨Z,Z⟩,by omega,by omega,by decide⟩) U2<|VQ k.m_ U11 fl_<|C4 1 [4] a Z<|Uu U2<|⟨Z,Z⟩
 exact absurd g dc_
theorem DS (C:Mem)(a:Tabs C)(u:Nat)(b:u<9223372036854775808):Gives cx.P 255 [.int .u64 u,.int .i64 10] C (ai (bl u)):=by
 exact Uv func255 8 U3 fun w0=>Um 1 [0,1] Z<|Un 2 Z fun R c=>Uz (DR _ a.m_ u b) U7<|C4 1 [4] c Z<|Uu U2<|⟨Z,Z⟩
theorem jL (C:Mem)(z:Int)(m:Nat)(d:m<=18):Gives cx.P 213 [ai (txt z),.int .i64 m] C (.tuple #[.int .i64 (if (txt z).length<=m then z else 0),.bool (decide ((txt z).length<=m))]):=by
 refine Uv func213 20 U3 fun w0=>Um 2 [0,1] Z<|Um 4 [0,11] Z<|Up (fun b=>?_) fun b=>?_
 ·have a:¬ (txt z).length<=m:=by
   have:(m:Int)<((txt z).length:Int):=by simpa using b
   omega
  refine Um 2 [4,5] Z<|UA (G.dropAll (UP U3 ?_));exact ⟨by rw [aB a,Q6 a],Z⟩
 have a:(txt z).length<=m:=by
  have:¬ (m:Int)<((txt z).length:Int):=by simpa using b
  omega
 refine Un 1 Z fun R c=>UC (zE Tryz.atoi z om_ _ kr_) U7 fl_<|C4 5 [6,7] c Z<|UK [0,1,2,3,4] [] Z kr_ fun R e c=>Us 2 Z<|Wg true Z Z Z Z Z (.inl ⟨Z,Z⟩) kr_ Z Z<|C4 2 [4,5] c Z<|UA (G.dropAll (UP U3 ?_));exact ⟨by rw [aJ a,Q0 a],Z⟩
theorem ji (C:Mem)(z:Int)(t:(bl z.natAbs).length<=1000000):Pur cx.P 214 [ai (txt z)] C fun u D=>∃ p,u=.agg ⟨[.bool (decide (z<0)),p]⟩/\NineC D p z.natAbs:=by
 obtain ⟨S,hS⟩:∃ S,bl z.natAbs=S:=⟨_,rfl⟩;have b:=(bH z.natAbs).1;have i:=(bH z.natAbs).2;rw [hS] at t b i;refine Uv func214 44 U3 fun w0=>Ur fun R a=>UI U5 fun d=>Ut [0,2] a Z<|Un 1 Z fun R a=>Uz (Hy _ (txt z) 45) U7 ?_;rw [dE,hS];refine C4 5 [2,3,4] a Z<|Un 2 Z fun R a=>Vu (S.length) (9) U6 om_ (.inl ⟨Z,by omega⟩) U2<|UY (((S.length / 9+1:Nat):Int)) U4 om_ om_ om_ U2<|Vq U9 (QK _) (by show 8*(S.length / 9+1)<=281474976710656;omega) (by simp only [maxLen];omega) fl_ fun L=>C4 1 [2,3,4,5] a Z ?_;rw [show (ai S:Value)=ai (S.take S.length) by rw [QV]];refine G.loop (fun fr C' k v=>∃ (q j:Nat)(out:List Nat)(w:Value),(q<=S.length/\(q=0∨q+9*j=S.length)/\out.length=j/\j<=S.length/\(q=0∨j<S.length)/\Dig9 out/\bB out=bW (S.drop q))/\fr=[(2,[],.pointer (some ⟨d,0,none⟩)),(3,[],ai (S.take q)),(4,[],.bool (decide (z<0))),(5,[],w)]/\k=[.arr w 160 1 j (out.map cj).flatten,.obj d (.cells ⟨[.bool false,.slice none 0 0]⟩ 307 (0,0))]/\v=q+1) (hn_ [2,3,4,5] Z) ⟨S.length,0,[],_,⟨QG _,by omega,Z,QK _,by have:=Ru.2 b.2.1;omega,(fun x y=>(by cases y)),by rw [RW];rfl⟩,Z,Z,Z⟩ (fun fr M N m _ A=>?_);obtain ⟨q,j,out,w,⟨O,Q,e,T,U,l,f⟩,rfl,rfl,rfl⟩:=A;refine Um 3 [2,3,4,5,21] Z<|Up (fun g=>?_) fun g=>?_
 ·have B:(⟨(S.take q).toArray⟩:ByteArray).data.toList.length=q:=by
   show (S.take q).length=q;rw [QX];omega
  have E:(S.take q).length=q:=B;have o:0<q:=by
   have h:(0:Int)<(((⟨(S.take q).toArray⟩:ByteArray).data.toList.length:Nat):Int):=by simpa using g
   omega
  have F:(gN S (q-9) q).length<=9/\0<(gN S (q-9) q).length:=by
   unfold gN;rw [SS,QX];omega
  have H:∀ c∈gN S (q-9) q,eM c=true:=fun c I=>b.1 c (RZ (Tz I));refine Un 2 Z fun R a=>UY (((q:Int)-9)) U4 om_ om_ om_ U2<|D.max (((q-9:Nat):Int)) U6 om_ U2<|C4 1 [2,3,4,5,6] a Z<|Un 2 Z fun R a=>Vo (q-9) (S.take q).length U9 (fun _=>⟨.inr ⟨_,Z⟩,.inl ⟨Z,Z⟩,.inl ⟨Z,Z⟩,by omega,QG _,QG _⟩) U2 ?_;rw [show (((S.take q).take (S.take q).length).drop (q-9))=gN S (q-9) q from by rw [QV];rfl];refine UC (F2 _ (gN S (q-9) q) H (Ru.1 F.2) om_) U7 fl_<|C4 5 [2,3,4,5,6,7] a Z<|UK [0,1,4,5,6,2,3,7,8] [] Z kr_ fun R V a=>Us 4 Z<|Vo 0 (q-9) U9 (fun _=>⟨.inl ⟨Z,Z⟩,.inr ⟨_,Z⟩,.inl ⟨Z,Z⟩,by omega,by omega,QG _⟩) U2<|UJ [cj (bW (gN S (q-9) q))] U12 fun W _ _ J=>D.append (j:=0) U11 J Z aw (by show (j+1)*8<=_;omega) fl_ fun r=>C4 2 [2,3,4,5] a Z ?_;rw [show ((S.take q).take (q-9)).drop 0=S.take (q-9) from by rw [RQ,TO,R9 om_]];refine UF (L':=[.arr r 160 1 (j+1) ((out++[bW (gN S (q-9) q)]).map cj).flatten,.obj d (.cells ⟨[.bool false,.slice none 0 0]⟩ 307 (0,0))]) (by simp [cj])<|UB (m':=q-9+1) om_ mup (hn_ [2,3,4,5] Z) ⟨q-9,j+1,out++[bW (gN S (q-9) q)],r,⟨by omega,by omega,by simp [e],by omega,by omega,l.snoc (Kx b.1 om_),CS om_ e om_ f⟩,Z,Z,Z⟩
 have o:q=0:=by
  have E:(S.take q).length=q:=by rw [QX];omega
  have h:¬ (0:Int)<(((S.take q).length:Nat):Int):=by simpa using g
  omega
 subst o;rw [RQ,i] at f;refine UO [(2,3)] Z fun R a=>Us 2 Z<|D.call (gu _ _ out (n:=j) e) Z (.inr dc_) U6 (QL _) fl_ (fun X _ Y _ K=>?_);obtain ⟨rfl,s⟩:=K;obtain ⟨Au,cu,rfl,_⟩:=id s;refine UH [.bool (decide (z<0)),_] U8<|Uy (j:=0) U12<|Ut [2] a Z<|UA (Vj af U4 ?_);exact ⟨Z,_,Z,EG out,iv l,by rw [iu,f],s⟩
theorem D5 (k:Nat)(s:Str):bW (List.replicate k 48++s)=bW s:=by
 induction k with
 | zero=>rfl
 | succ k a=>rw [RP,Sd,dF,a];simp
theorem M4 (h:x<1000000000):mD 9 x=List.replicate (9-(bl x).length) 48++bl x:=by
 obtain ⟨h1,h2,h3⟩:=kP 9 x h;obtain ⟨h4,h5⟩:=bH x;have b:(bl x).length<=9:=eI om_ om_;refine zj h2 (fun c a=>?_) (by rw [h1];simp;omega) (by rw [h3,D5,h5]);rcases QW.1 a with a | a
 ·rw [Ss a];rfl
 exact h4.1 c a
def K0 (l:List Nat)(j:Nat)(s:Str):Prop:=(j=0/\s=[])∨(0<j/\vz s/\bW s=bB (l.drop (l.length-j))/\0<bW s)
theorem DE (b:yf l)(d:j<l.length)(h:K0 l j s):K0 l (j+1) (s++if j=0 then bl (g9 l (l.length-1-j)) else mD 9 (g9 l (l.length-1-j))):=by
 have a:l[l.length-1-j]?=some (g9 l (l.length-1-j)):=xh om_;refine .inr ⟨by omega, ?_⟩;rw [show l.length-(j+1)=l.length-1-j by omega];rcases h with ⟨rfl,rfl⟩ | ⟨h0,h1,h2,h3⟩
 ·rw [aJ rfl,SB];obtain ⟨h4,h5⟩:=bH (g9 l (l.length-1-0));have c:bB (l.drop (l.length-1-0))=g9 l (l.length-1-0):=by
   rw [Re om_,show l.length-1-0+1=l.length by omega,RW];rw [aj om_] at a;rw [Sc a];show _+B9*0=_;omega
  refine ⟨h4,by rw [h5,c], ?_⟩;rw [h5];rcases Sb (g9 l (l.length-1-0)) with h | h
  ·rw [h] at a;exact absurd (by rw [SE];exact a) b.2
  exact h
 rw [aB om_];rw [show l.length-j=l.length-1-j+1 by omega] at h2;exact DP b.1 a h1 h2 h3
theorem kc (C:Mem)(W:Tabs C)(m:Bool)(v:Value)(n:Nat)(X:NineC C v n)(Y:n<B9 ^ 100000):Gives cx.P 216 [.agg ⟨[.bool m,v]⟩] C (ai (txt (sgZ m n))):=by
 obtain ⟨ls,K,L,ak,hs⟩:=X.get Y;obtain ⟨A,c,rfl,_⟩:=id hs;simp only [ax] at hs ⊢;refine VM kr_ func216 Z 34 Z Z fun w0=>Ur fun R a=>UG U6 fun M=>C4 1 [1] a Z<|G.freeze 0 Z fun _ _ o=>Un 1 Z fun R a=>Uo (PtrTo.block (Mem.get o mup) _) U8<|C4 2 [1,10] a Z<|Up (fun y=>?_) fun y=>?_
 ·have N:ls=[]:=by
   have:(ls.length:Int)=0:=by simpa using y
   exact Rq om_
  refine Um 1 [2] Z<|UA (VT (Lm Z Z) ?_ Km);subst N;refine ⟨?_,Z⟩;rw [<- L,(AD (sgZ m (bB []))).2 (by cases m <;> rfl)];rfl
 have N:0<ls.length:=by
  have:¬ (ls.length:Int)=0:=by simpa using y
  omega
 obtain ⟨d,g⟩:∃ d:Str,(if m then [45] else [])=d:=⟨_,rfl⟩;have al:d.length<=1:=by rw [<- g];split <;> simp
 refine Ur fun R a=>UI U5 fun b=>Ut [1,3] a Z<|G.nilArr 5 1<|G.perm (L':=[.obj b (.cells ⟨[.pointer none,.slice none 0 0]⟩ 354 (0,0)),.arr (.slice none 0 0) 5 1 0 []]) (List.Perm.swap _ _ _)<|Un 1 Z fun R a=>Uo (PtrTo.block (Mem.get o mup) _) U8<|Ut [1,3,12] a Z<|G.cut (fun fr C' e z=>∃ (q:Option Addr)(w:Value),(q=none∨q=some ⟨b,0,none⟩)/\fr=[(1,[],.pointer (some ⟨M,0,none⟩)),(3,[],.pointer (some ⟨b,0,none⟩))]/\e=[.obj b (.cells ⟨[.pointer q,w]⟩ 354 (0,0)),.arr w 5 1 d.length (u8s d)]) ?_ (fun fr _ an z _ f=>?_)
 ·refine Up (fun B=>?_) fun B=>?_
  ·rw [aJ B] at g;subst g;refine UO [(0,3)] Z fun R a=>D.call (vA _ b none (.slice none 0 0) [] 45 (.inl Z) am) Z (.inr dc_) U6 (QL _) fl_ fun ao _ aq _ aa=>Ut [1,3] a Z ?_;obtain ⟨E,rfl⟩:=aa;refine UD 0 mup (hn_ [1,3] Z) ⟨some ⟨b,0,none⟩,E,.inr Z,Z,Z⟩
  rw [aB (by rw [B];decide)] at g;subst g;refine UD 0 mup (hn_ [1,3] Z) ⟨none,.slice none 0 0,.inl Z,Z,Z⟩
 obtain ⟨q ,w,hq,rfl,rfl⟩:=f;refine Un 1 Z fun R a=>Uo (PtrTo.block (Mem.get o mup) _) U8<|UW (CD _ A ls.length c) U7 fun ar _ _ ab=>Ut [1,3,16] a Z ?_;obtain ⟨bb,rfl,ac⟩:=ab;refine UF (L':=[.obj b (.cells ⟨[.pointer q,w]⟩ 354 (0,0)),.arr w 5 1 (d++[]).length (u8s (d++[]))]) (by rw [Q8])<|G.rangeFunc Z Z Z kr_ (tj _ bb _ _ ls ac hs.m_ om_) (fun j e=>∃ (q:Option Addr)(w:Value)(s:Str),((q=none∨q=some ⟨b,0,none⟩)/\K0 ls j s/\s.length<=9*j)/\e=[.obj b (.cells ⟨[.pointer q,w]⟩ 354 (0,0)),.arr w 5 1 (d++s).length (u8s (d++s))]) ⟨q,w,[],⟨hq,.inl ⟨Z,Z⟩,by simp⟩,Z⟩ Z (fun _ _=>rfl) (fun u v=>[(1,[],.pointer (some ⟨M,0,none⟩)),(3,[],.pointer (some ⟨b,0,none⟩)),(4,[],u),(5,[],v)]) (fun l u v W1 e=>?_) (fun l j u v e W1 f F=>?_) (fun bD e f=>?_)
 ·exact Um 1 [1,3,4,18] Z<|Um 1 [1,3,4,5] Z<|Wv ⟨Z,Z,Z,Z,trivial⟩
 ·obtain ⟨q,w,s,⟨H,p,O⟩,rfl⟩:=f;have Q:j<ls.length:=by have:=(aE.1 F).1;rwa [fM] at this
  rw [ve Q] at F;cases F
  have S:=DE K Q p;obtain ⟨x,I⟩:∃ x,g9 ls (ls.length-1-j)=x:=⟨_,rfl⟩;have i:x<B9:=by rw [<- I];exact kT K.1 _
  rw [show ls.getD (ls.length-1-j) 0=x from I];rw [I] at S;have au:(bl x).length<=9:=eI (by rw [B9v] at i;omega) om_;have ad:=M4 (x:=x) (by rw [B9v] at i;exact i);have av:(mD 9 x).length=9:=(kP 9 x (by rw [B9v] at i;omega)).1;refine Un 1 Z fun R a=>UC (DS _ W.m_ x (by rw [B9v] at i;omega)) U7 fl_<|C4 1 [1,3,4,6] a Z<|Un 2 Z fun R a=>Uo (PtrTo.block (Mem.get o mup) _) U8<|Uq U6<|Ux _ U7<|C4 1 [3,6,26] a Z<|G.cut (fun fr C' e z=>∃ (k:Option Addr)(r:Value)(t:Str),((k=none∨k=some ⟨b,0,none⟩)/\t++bl x=d++(s++if j=0 then bl x else mD 9 x)/\t.length<=9*j+10)/\fr=[(3,[],.pointer (some ⟨b,0,none⟩)),(6,[],ai (bl x))]/\e=[.obj b (.cells ⟨[.pointer k,r]⟩ 354 (0,0)),.arr r 5 1 t.length (u8s t)]) ?_ (fun fr _ aw z _ f=>?_)
  ·refine Up (fun J=>?_) fun J=>?_
   ·have T:0<j:=by
     have:((ls.length-1-j:Nat):Int)<(ls.length:Int)-1:=by simpa using J
     omega
    refine UO [(3,3)] Z fun R a=>Us 2 Z<|Vo (bl x).length 9 U9 (fun _=>⟨.inr ⟨_,Z⟩,.inl ⟨Z,Z⟩,.inl ⟨Z,Z⟩,by omega,QG _,QG _⟩) U2 ?_;rw [show ((([48,48,48,48,48,48,48,48,48]:Str).take 9).drop (bl x).length)=List.replicate (9-(bl x).length) 48 from by rw [show (([48,48,48,48,48,48,48,48,48]:Str).take 9)=List.replicate 9 48 from rfl,List.drop_replicate]];refine D.call (kz _ b q w (d++s) (List.replicate (9-(bl x).length) 48) H ap) Z (.inr dc_) U6 (QL _) fl_ fun ay _ az _ ae=>Ut [3,6] a Z ?_;obtain ⟨E,rfl⟩:=ae;refine UD 0 mup (hn_ [3,6] Z) ⟨some ⟨b,0,none⟩,E,_,⟨.inr Z,by rw [aB om_,ad];simp [],by simp;omega⟩,Z,Z⟩
   have T:j=0:=by
    have:¬ ((ls.length-1-j:Nat):Int)<(ls.length:Int)-1:=by simpa using J
    omega
   refine UD 0 mup (hn_ [3,6] Z) ⟨q,w,d++s,⟨H,by rw [aJ T,Ra],by simp;omega⟩,Z,Z⟩
  obtain ⟨k ,r ,t,⟨af,ag,aA⟩,rfl,rfl⟩:=f;refine UO [(1,3)] Z fun R a=>Uq U6<|D.call (kz _ b k r t (bl x) af om_) Z (.inr dc_) U6 (QL _) fl_ fun aC _ aD _ ah=>Vv [] trivial (a _ _ _ Z ?_);obtain ⟨w4,rfl⟩:=ah;rw [ag];exact V4 (R:=fun e=>∃ (q:Option Addr)(w:Value)(s:Str),((q=none∨q=some ⟨b,0,none⟩)/\K0 ls (j+1) s/\s.length<=9*(j+1))/\e=[.obj b (.cells ⟨[.pointer q,w]⟩ 354 (0,0)),.arr w 5 1 (d++s).length (u8s (d++s))]) (QL _) ⟨some ⟨b,0,none⟩,w4,_,⟨.inr Z,S,by rw [QO];split <;> omega⟩,Z⟩
 obtain ⟨q,w,s,⟨H,p,O⟩,rfl⟩:=f;rw [fM] at p;obtain ⟨aF,U,V,aG⟩:0<ls.length/\vz s/\bW s=bB (ls.drop (ls.length-ls.length))/\0<bW s:=p.elim (fun h=>by omega) id;rw [Td,RQ,L] at V;refine G.perm (L':=[.obj b (.cells ⟨[.pointer q,w]⟩ 354 (0,0)),.arr w 5 1 (d++s).length (u8s (d++s)),.obj bD (.deferred (some []))]) (pkL [1,1,0] Z)<|UO [(0,3)] Z fun R a=>D.call (Ed _ b q w (d++s) (fun h=>U.2.1 (TT.1 h).2) (by simp;rw [fM] at O;omega)) Z (.inr dc_) U6 (QL _) fl_ fun aH _ aI _ aj=>C4 1 [2] a Z ?_;obtain ⟨rfl,rfl⟩:=aj;refine UA (Wu (Lm Z Z) ?_);refine ⟨?_,Z⟩;have es:s=bl n:=by rw [<- V];exact ot U
 rw [AE m n (fun _=>by omega),es,<- g];cases m <;> rfl
theorem sN (a:0<Q):(x+B9*t) / Q=B9*(t / Q)+(x+B9*(t % Q)) / Q/\(x+B9*t) % Q=(x+B9*(t % Q)) % Q:=by
 have h:x+B9*t=(x+B9*(t % Q))+Q*(B9*(t / Q)):=by
  have h1:=TH t Q;have h2:B9*t=B9*(t % Q)+B9*(Q*(t / Q)):=by rw [<- R3,h1]
  rw [h2,Ui];omega
 rw [h,TA _ _ a,Nat.add_mul_mod_self_left];exact ⟨by omega,Z⟩
theorem mb (a:0<Q)(b:x<B9):(x+B9*(t % Q)) / Q<B9:=by
 rw [SM a];have h1:=Rs t a;have h2:B9*(t % Q+1)<=B9*Q:=R6 _ h1;rw [R3] at h2;omega
theorem fp (h:j<l.length):bB (l.drop j)=g9 l j+B9*bB (l.drop (j+1)):=by
 rw [Re h,bB,yQ (aj h)]
theorem lm (h:j<l.length):bB ((l.set j x).drop j)=x+B9*bB (l.drop (j+1)):=by
 rw [Re (by simpa using h),bB,List.getElem_set_self,List.drop_set_of_lt om_]
theorem sM (C:Mem)(Y M:Value)(m d:Nat)(ha:NineC C Y m)(hm:m<B9 ^ 200000)(F:Sl C 1 M ([d].map cj))(H:0<d)(hd:d<B9) :
  Pur cx.P 248 [Y,M] C fun u D=>∃ q r,u=.tuple #[q,r]/\NineC D q (m / d)/\NineC D r (m % d):=by
 have aa:NineC C M d:=⟨[d],⟨fun x o=>(by rw [Q4.1 o];exact hd),by simp;omega⟩,by show d+B9*0=d;omega,F⟩;have N:=ha;obtain ⟨a,an,ab,aG,O⟩:=ha.get hm;obtain ⟨A0,c0,rfl,_⟩:=id O;obtain ⟨B0,d0,rfl,aH⟩:=id F;simp only [ax,aU] at F aa O N ⊢;have p:=B9v;refine VM kr_ func248 Z 146 Z Z fun w0=>Ur fun R b=>UG U6 fun b3=>UI U5 fun g=>C4 1 [0,3,4,5] b Z<|G.freeze 1 Z fun _ _ K=>Un 1 Z fun R b=>Uo (PtrTo.block (Mem.get K mup) _) U8<|Uz (pE _ N.m_ aa.m_) U7<|C4 1 [0,3,4,5,17] b Z<|Up (fun Q=>?_) fun Q=>?_
 ·have S:m<d:=by
   have:jN m d<0:=by simpa using Q
   exact jh.1 this
  refine Un 1 Z fun R b=>Uy (j:=0) U12<|C4 1 [4,5] b Z<|UA (VT (Ba af Z Z Z Z Z) ?_ Km);refine ⟨Z,_,_,Z, ?_, ?_⟩
  ·rw [S8 S];exact NineC.zero _
  rw [S7 S];exact N.mono mup
 have S:d<=m:=by
  have h:¬ jN m d<0:=by simpa using Q
  rw [jh] at h;omega
 obtain ⟨n,hn⟩:∃ n,a.length=n:=⟨_,rfl⟩;refine Ur fun R b=>Uo (PtrTo.block (Mem.get K mup) _) U8<|C4 2 [0,3,4,5,21] b Z<|Up (fun ad=>?_) fun ad=>?_
 ·refine Un 2 Z fun R b=>Vq U9 (QG _) (by show 8*a.length<=281474976710656;omega) (by simp only [maxLen];omega) fl_ fun f=>Uy (j:=1) U12<|Ut [0,3,4] b Z<|Ur fun R b=>UI U5 fun k=>Uy (j:=0) U12<|Ut [0,3,4,6] b Z<|Un 1 Z fun R b=>UW (CD _ A0 a.length c0) U7 fun aI _ _ ao=>Ut [3,4,6,26] b Z ?_;obtain ⟨bb,rfl,ap⟩:=ao;refine UF (L':=[.obj k (.cells ⟨[.int .u64 ((bB (a.drop (a.length-0)) % d:Nat):Int)]⟩ 160 (0,0)),.obj g (.cells ⟨[qU f a.length a.length]⟩ 305 (0,0)),.arr (qU f a.length a.length) 160 1 a.length ((List.replicate a.length 0).map cj).flatten]) (by rw [<- EI,Tw,RW,show bB []=0 from Z,Nat.zero_mod];rfl)<|G.rangeFunc Z Z Z kr_ (tj _ bb _ _ a ap O.m_ om_) (fun j e=>∃ (c:List Nat),(c.length=a.length/\Dig9 c/\bB (c.drop (a.length-j))=bB (a.drop (a.length-j)) / d)/\e=[.obj k (.cells ⟨[.int .u64 ((bB (a.drop (a.length-j)) % d:Nat):Int)]⟩ 160 (0,0)),.obj g (.cells ⟨[qU f a.length a.length]⟩ 305 (0,0)),.arr (qU f a.length a.length) 160 1 a.length (c.map cj).flatten]) ⟨List.replicate a.length 0,⟨Sv,(fun x o=>by rw [Ss o];decide),by rw [Tw,RW,Tu am];simp [bB]⟩,Z⟩ Z (fun _ _=>rfl) (fun u v=>[(3,[],.pointer (some ⟨b3,0,none⟩)),(4,[],.pointer (some ⟨g,0,none⟩)),(6,[],.pointer (some ⟨k,0,none⟩)),(7,[],u),(8,[],v)]) (fun l u v W1 e=>?_) (fun l j u v e W1 s U=>?_) (fun bD e s=>?_)
  ·exact Um 1 [3,4,6,7,28] Z<|Um 1 [3,4,6,7,8] Z<|Wv ⟨Z,Z,Z,Z,Z,trivial⟩
  ·obtain ⟨c,⟨I,L,B⟩,rfl⟩:=s;have aq:j<a.length:=by have:=(aE.1 U).1;rwa [fM] at this
   rw [ve aq] at U;cases U
   obtain ⟨i,hi⟩:∃ i,a.length-1-j=i:=⟨_,rfl⟩;have ag:a.length-j=i+1:=by omega
   obtain ⟨T,hT⟩:∃ T,bB (a.drop (i+1))=T:=⟨_,rfl⟩;have ar:=kT an.1 i;have aJ:=Rs T H;have hX:T % d*B9+g9 a i<18446744073709551616:=by
    have:=Rz B9 (show T % d<=999999999 by omega);rw [p] at this ⊢;omega
   rw [hi,ag,hT,show a.getD i 0=g9 a i from rfl];rw [ag,hT] at B;have au:T % d*B9+g9 a i=g9 a i+B9*(T % d):=by rw [Rw,Tc]
   have V:=sN (t:=T) (x:=g9 a i) H;have ai:=mb (t:=T) H ar;rw [<- au] at V ai;refine Ur fun R b=>Uw af U9<|D.int (((T % d*B9:Nat):Int)) U4 (by rw [show (1000000000:Int)=((B9:Nat):Int) from Z,<- RH,IntKind.wrap_u64];omega) U2<|Uq U6<|D.int (((T % d*B9+g9 a i:Nat):Int)) U4 (by rw [IntKind.wrap_u64];omega) U2<|Uy (j:=0) U12<|Ut [3,4,6,7] b Z<|G.cut (fun fr C' e W=>(True)/\fr=[]/\e=[.obj k (.cells ⟨[.int .u64 (((T % d*B9+g9 a i) % d:Nat):Int)]⟩ 160 (0,0)),.arr (qU f a.length a.length) 160 1 a.length (az (c.map cj).flatten [Value.int .u64 (((T % d*B9+g9 a i) / d:Nat):Int)] (i*1)),.obj g (.cells ⟨[qU f a.length a.length]⟩ 305 (0,0))]) ?_ (fun fr aK aL W aM s=>?_)
   ·refine Vh (.cut [0,1,2,3,4,5,6,8,9,10,12] (.alt 7 (.fin [11,13,14]) (.alt 13 (.fin [7,11,14]) .stop))) [] Z Z kr_ fun R p b w=>Uw ae U9<|Uq U6<|Uw af U9<|Uo (PtrTo.block (Mem.get K mup) _) U8<|UE F.m_ U10 om_ (rfl:([d].map cj)[(0:Int).toNat]?=some (cj d)) fl_ fun aN av=>Uo av U8<|Vu (T % d*B9+g9 a i) (d) U6 om_ (.inr ⟨Z,by omega⟩) U2<|Uo (PtrTo.block (Mem.get K mup) _) U8<|UE F.m_ U10 om_ (rfl:([d].map cj)[(0:Int).toNat]?=some (cj d)) fl_ fun aO aw=>Uo aw U8<|UT (i*1) U10 ah U2<|UZ w Z ⟨?_, ?_,trivial⟩
    ·first | refine VK af U9 ?_ | refine VK ae U9 ?_
     refine Vl (T % d*B9+g9 a i) (d) U6 om_ U2<|UX (j:=2) U11 (by show i*1+1<=_;rw [bQ eH,I];omega)<|Uy (j:=1) U12<|Vv [] trivial (b _ _ _ Z ?_);clear b p w R;exact UD 0 (Mem.le.refl _) (fr':=[]) trivial ⟨trivial,Z,Z⟩
    refine UX (j:=2) U11 (by show i*1+1<=_;rw [bQ eH,I];omega) ?_
    first | refine VK af U9 ?_ | refine VK ae U9 ?_
    refine Vl (T % d*B9+g9 a i) (d) U6 om_ U2<|Uy (j:=1) U12<|Vv [] trivial (b _ _ _ Z ?_);clear b p w R;exact UD 0 (Mem.le.refl _) (fr':=[]) trivial ⟨trivial,Z,Z⟩
   obtain ⟨_,rfl,rfl⟩:=s;refine G.perm (L':=[.obj k (.cells ⟨[.int .u64 (((T % d*B9+g9 a i) % d:Nat):Int)]⟩ 160 (0,0)),.obj g (.cells ⟨[qU f a.length a.length]⟩ 305 (0,0)),.arr (qU f a.length a.length) 160 1 a.length (az (c.map cj).flatten [Value.int .u64 (((T % d*B9+g9 a i) / d:Nat):Int)] (i*1))]) (pkL [0,1,0] Z) ?_;have aj:bB (a.drop i)=g9 a i+B9*T:=by rw [fp om_,hT]
   have ay:bB (a.drop (a.length-(j+1))) % d=(T % d*B9+g9 a i) % d:=by rw [show a.length-(j+1)=i by omega,aj,V.2]
   exact UF (L':=[.obj k (.cells ⟨[.int .u64 ((bB (a.drop (a.length-(j+1))) % d:Nat):Int)]⟩ 160 (0,0)),.obj g (.cells ⟨[qU f a.length a.length]⟩ 305 (0,0)),.arr (qU f a.length a.length) 160 1 a.length ((c.set i ((T % d*B9+g9 a i) / d)).map cj).flatten]) (by rw [ay,<- bM eH _ (by omega:i<c.length)];rfl)<|V4 (R:=fun e=>∃ (c:List Nat),(c.length=a.length/\Dig9 c/\bB (c.drop (a.length-(j+1)))=bB (a.drop (a.length-(j+1))) / d)/\e=[.obj k (.cells ⟨[.int .u64 ((bB (a.drop (a.length-(j+1))) % d:Nat):Int)]⟩ 160 (0,0)),.obj g (.cells ⟨[qU f a.length a.length]⟩ 305 (0,0)),.arr (qU f a.length a.length) 160 1 a.length (c.map cj).flatten]) (QL _) ⟨c.set i ((T % d*B9+g9 a i) / d),⟨by simp [I],L.set ai,by rw [show a.length-(j+1)=i by omega,aj,lm om_,B,V.1];omega⟩,Z⟩
  obtain ⟨c,⟨I,L,B⟩,rfl⟩:=s;rw [fM,Td,RQ,RQ,ab] at B;rw [fM,Td,RQ,ab];refine G.freezeArr 3 (c.map cj) rfl rfl (by intro r hr;obtain ⟨y,_,rfl⟩:=QM.1 hr;rfl) (by rw [ax,I]) fun Cq aP ak=>G.cut (fun fr C' e W=>∃ (E z:Value),(NineC C' E (m / d)/\NineC C' z (m % d))/\fr=[(4,[],.pointer (some ⟨g,0,none⟩)),(5,[],z)]/\e=[.obj g (.cells ⟨[E]⟩ 305 (0,0)),.obj bD (.deferred (some [])),.obj k (.cells ⟨[.int .u64 ((m % d:Nat):Int)]⟩ 160 (0,0))]) ?_ (fun fr aQ aR W aS s=>?_)
  ·refine Vh (.cut [0,2] (.alt 1 (.fin [3,4,5,6]) (.alt 3 (.fin [1,4,5,6]) .stop))) [] Z Z kr_ fun R p b w=>Uw ac U9<|Uw ae U9<|UZ w Z ⟨?_, ?_,trivial⟩
   ·refine UW (vL _ L ak.m_) U7 fun E aA _ A=>UJ [cj (m % d)] U12 fun aB aC _ X=>US (vL _ (l:=[m % d]) (fun x o=>by rw [Q4.1 o];have:=Rs m H;omega) X.m_) U7 fl_ (fun z aD _ J=>?_);obtain ⟨A7,m7,c7,rfl⟩:=A.form;refine Uy (j:=2) U12<|Uq U6<|Ut [4,5] b Z ?_;clear b p w R;rw [show bB [m % d]=m % d from (by show m % d+B9*0=m % d;omega)] at J;rw [B] at A;exact UD 0 mup (hn_ [4,5] Z) ⟨_,z,⟨A.mono mup,J.mono mup⟩,Z,Z⟩
   refine UJ [cj (m % d)] U12 fun aB aC _ X=>UW (vL _ L ak.m_) U7 fun E aA _ A=>US (vL _ (l:=[m % d]) (fun x o=>by rw [Q4.1 o];have:=Rs m H;omega) X.m_) U7 fl_ (fun z aD _ J=>?_);obtain ⟨A7,m7,c7,rfl⟩:=A.form;refine Uy (j:=2) U12<|Uq U6<|Ut [4,5] b Z ?_;clear b p w R;rw [show bB [m % d]=m % d from (by show m % d+B9*0=m % d;omega)] at J;rw [B] at A;exact UD 0 mup (hn_ [4,5] Z) ⟨_,z,⟨A.mono mup,J.mono mup⟩,Z,Z⟩
  obtain ⟨E,z,⟨al,aF⟩,rfl,rfl⟩:=s;refine G.perm (L':=[.obj bD (.deferred (some [])),.obj g (.cells ⟨[E]⟩ 305 (0,0)),.obj k (.cells ⟨[.int .u64 ((m % d:Nat):Int)]⟩ 160 (0,0))]) (pkL [1,0,0] Z) ?_;obtain ⟨A7,m7,c7,rfl⟩:=al.form;refine UA (Wu (Ba af Z Z Z Z Z) ?_);exact ⟨Z,_,_,Z,al,aF⟩
 exact absurd ad dc_
theorem vH (h:Dig9 l)(a:k<=l.length):bB l / B9 ^ k=bB (l.drop k):=by
 have e:bB l=bB (l.take k)+B9 ^ k*bB (l.drop k):=by
  conv=>lhs;rw [<- RN k l]
  rw [fw,QX,R9 a]
 have h1:=iU (h.take k);rw [QX,R9 a] at h1;rw [e,TA _ _ (Tb dc_),S8 h1,RR]
theorem uA {b a:List Nat}(f:yf b)(c:yf a)(j:0<a.length)(m:a.length<=b.length):bB b / bB a<=bB (b.drop (a.length-1)) / g9 a (a.length-1)/\0<g9 a (a.length-1):=by
 have d:bB (a.drop (a.length-1))=g9 a (a.length-1):=by
  rw [fp om_,show a.length-1+1=a.length by omega,RW];show _+B9*0=_;omega
 have h1:=vH c.1 (k:=a.length-1) om_;have h2:=vH f.1 (k:=a.length-1) om_;have e:0<g9 a (a.length-1):=by
  rcases Sb (g9 a (a.length-1)) with h | h
  ·have h3:=xh (l:=a) (i:=a.length-1) om_;rw [h] at h3;exact absurd (by rw [SE];exact h3) c.2
  exact h
 refine ⟨?_,e⟩;rw [<- h2,<- d,<- h1,Nat.div_div_eq_div_mul];have g:0<B9 ^ (a.length-1):=Tb dc_;rw [d] at h1;refine Nat.div_le_div_left (Nat.mul_div_le _ _) ?_;rw [h1];exact Tk g e
theorem BO (h:l.length=k+1):bB (l.drop k)=g9 l k:=by
 rw [fp om_,show k+1=l.length by omega,RW];show _+B9*0=_;omega
theorem JZ (h:l.length=k+2):bB (l.drop k)=g9 l (k+1)*B9+g9 l k:=by
 rw [fp om_,BO (k:=k+1) om_,Rw];omega
theorem zA (c:yf a)(d:yf b)(h:bB b<=bB a):b.length<=a.length:=by
 rcases Rh a.length b.length with h1 | h1
 ·have:=ur c.1 d h1;omega
 exact h1
theorem xI (c:yf a)(d:yf b)(h:bB a<B9*bB b):a.length<=b.length+1:=by
 have h2:=iU d.1;refine ta c (R4 h ?_);rw [RY,Rw];exact Rz _ (Nat.le_of_lt h2)
theorem jH {f:Nat}(a:m<B9 ^ k)(b:f<B9):m*f<B9 ^ (k+1):=by
 rw [RY];exact Si a b
theorem PB {a:Nat}(h:x<B9*a)(b:a<B9 ^ k):x<B9 ^ (k+1):=by
 rw [RY,Rw _ B9];exact SZ h (Nat.mul_lt_mul_of_pos_left b dc_)
theorem KZ (l:List Nat):(l.map cj).all (fun r=>r.all nK)=true:=by
 rw [List.all_map,Q3];intro x _;rfl
theorem D4 (C:Mem)(va vb:Value)(m n:Nat)(ha:NineC C va m)(hb:NineC C vb n)(hm:m<B9 ^ 100000)(aF:B9<=n) :
  Pur cx.P 248 [va,vb] C fun u D=>∃ q r,u=.tuple #[q,r]/\NineC D q (m / n)/\NineC D r (m % n):=by
 have aG:0<n:=R4 dc_ aF;have ac:=ha;have ad:=hb;obtain ⟨B,Q,bE,ag⟩:=hb;obtain ⟨A0,a0,c0,rfl⟩:=ha.form;obtain ⟨B0,d0,rfl,a2,bF,_⟩:=id ag;simp only [ax] at ag ad a2 ⊢;have bG:maxLen<=9223372036854775807:=by simp [maxLen]
 have S:=B9v;have bH:2<=B.length:=by
  rcases Rh B.length 2 with h | h
  ·have h2:=iU Q.1;have h3:B9 ^ B.length<=B9 ^ 1:=Q7 dc_ om_;rw [Nat.pow_one] at h3;omega
  exact h
 refine VM kr_ func248 Z 146 Z Z (fun w0=>?_);refine Ur fun R a=>?_;refine UG U6 (fun b3=>?_);refine UI U5 (fun e=>?_);refine C4 1 [0,3,4,5] a Z ?_;clear a R;refine Un 1 Z fun R a=>?_
 skip
 refine Uw ae U9 ?_;refine Uz (pE _ ac.m_ ad.m_) U7 ?_;refine C4 1 [0,3,4,5,17] a Z ?_;clear a R;refine Up (fun ah=>?_) fun ah=>?_
 ·have U:m<n:=by
   have:jN m n<0:=by simpa using ah
   exact jh.1 this
  refine Un 1 Z fun R a=>?_;refine Uy (j:=0) U12 ?_;refine C4 1 [4,5] a Z ?_;clear a R;refine UA (VT (Ba af Z Z Z Z Z) ?_ Km);refine ⟨Z,_,_,Z, ?_, ?_⟩
  ·rw [S8 U];exact NineC.zero _
  rw [S7 U];exact ac.mono mup
 have U:n<=m:=by
  have h:¬ jN m n<0:=by simpa using ah
  rw [jh] at h;omega
 refine Ur fun R a=>?_;refine Uw ae U9 ?_;refine C4 2 [0,3,4,5,21] a Z ?_;clear a R;refine Up (fun aH=>?_) fun aH=>?_
 ·exact absurd aH ap
 have bI:=kT Q.1 (B.length-1);have a3:(B.map cj)[((B.length:Int)-1).toNat]?=some (cj (g9 B (B.length-1))):=by
  rw [show ((B.length:Int)-1).toNat=B.length-1 by omega];exact js om_
 obtain ⟨f,hf⟩:∃ f,B9 / (g9 B (B.length-1)+1)=f:=⟨_,rfl⟩;refine Ur fun R a=>?_;refine Uw ae U9 ?_;refine Uw ae U9 ?_;refine Uq U6 ?_;refine Ux _ U7 ?_;refine UE ag.m_ U10 om_ a3 fl_ (fun bJ a4=>?_);refine Uo a4 U8 ?_;refine D.int (((g9 B (B.length-1)+1:Nat):Int)) U4 (by rw [IntKind.wrap_u64];omega) U2 ?_;refine Vu (B9) (g9 B (B.length-1)+1) U6 om_ (.inr ⟨Z,by omega⟩) U2 ?_;refine C4 1 [0,3,4,5,9] a Z ?_;clear a R;rw [hf];have w:0<f:=by rw [<- hf];exact Nat.div_pos om_ om_
 have o:f<B9:=by
  rw [<- hf];have h1:=(uA Q Q om_ (QG _)).2;exact Nat.div_lt_self dc_ om_
 have y:n<B9 ^ 100000:=RD U hm;refine UK [0,1,3,4,2,5,6,7] [] Z kr_ (fun R S a=>?_);refine Us 2 Z ?_;refine Uw ae U9 ?_;refine Uq U6 ?_;refine US (yn (k:=100000) _ ac.m_ hm o om_) U7 fl_ (fun bK _ _ a5=>?_);refine US (yn (k:=100000) _ ad.m_ y o om_) U7 fl_ (fun bL _ a6 aI=>?_);refine Uq U6 ?_;obtain ⟨a7,bN,a8,rfl⟩:=aI.form;refine Uy (j:=1) U12 ?_;refine Ut [0,3,4,5,9] a Z ?_;clear a S R;have aJ:=a5.mono a6;have aK:=aI;refine G.freeze 0 Z (fun C3 aL v=>?_);obtain ⟨P,a9,ai,bO,aj⟩:=(aJ.mono aL).get (jH hm o);obtain ⟨W,p,z,bP,V⟩:=(aK.mono aL).get (jH y o);obtain ⟨PA,pc,rfl,_⟩:=id aj;obtain ⟨bR,bS,ba,_⟩:=id V;cases ba
 simp only [ax] at aj V v aJ aK ⊢;have ak:NineC C3 (.slice a7 W.length a8) (n*f):=⟨W,p,z,V⟩;have A:0<n*f:=Tk aG w;have al:n*f<B9 ^ 100001:=dB (k:=100001) (n:=100000+1) (jH (k:=100000) y o) (QG _);have bT:2<=W.length:=by
  have h1:B9<=bB W:=by rw [z];exact Q1 aF (SN _ w)
  rcases Rh W.length 2 with h | h
  ·have h2:=iU p.1;have h3:B9 ^ W.length<=B9 ^ 1:=Q7 dc_ om_;rw [Nat.pow_one] at h3;omega
  exact h
 have bU:1<=P.length:=by
  rcases Sb P.length with h | h
  ·have:P=[]:=Rq h;subst this;have h1:m*f=0:=by rw [<- ai];rfl
   have h2:0<m*f:=Tk om_ w;omega
  exact h
 have bb:=(uA p p om_ (QG _)).2;have bV:=kT p.1 (W.length-1);refine Un 2 Z fun R a=>?_;refine Vq U9 (QG _) (by show 8*P.length<=281474976710656;omega) (by simp only [maxLen];omega) fl_ (fun d=>?_);refine Uy (j:=1) U12 ?_;refine Ut [0,3,4,5,9] a Z ?_;clear a R;refine Ur fun R a=>?_;refine Uo (PtrTo.block (Mem.get v mup) _) U8 ?_;refine Uo (PtrTo.block (Mem.get v mup) _) U8 ?_;refine Uq U6 ?_;refine Ux _ U7 ?_;refine UE V.m_ U10 om_ (by rw [show ((W.length:Int)-1).toNat=W.length-1 by omega];exact js om_:(W.map cj)[((W.length:Int)-1).toNat]?=some (cj (g9 W (W.length-1)))) fl_ (fun bW bc=>?_);refine Uo bc U8 ?_;refine C4 1 [0,3,4,5,9,10] a Z ?_;clear a R;refine Un 2 Z fun R a=>?_;refine Ux _ U7 ?_;refine C4 1 [0,3,4,5,9,10,11] a Z ?_;clear a R;refine UF (L':=[.obj e (.cells ⟨[qU d P.length P.length]⟩ 305 (0,0)),.arr (qU d P.length P.length) 160 1 P.length ((List.replicate P.length 0).map cj).flatten]) (by rw [<- EI];rfl) ?_;refine G.loop (fun fr C' g E=>∃ (i:Nat)(c:List Nat)(v5:Value),(i<=P.length/\c.length=P.length/\Dig9 c/\bB (c.drop i)=bB (P.drop i) / (n*f)/\NineC C' v5 (bB (P.drop i) % (n*f))/\∀ j,j<i->g9 c j=0)/\fr=[(0,[],.slice PA P.length pc),(3,[],.pointer (some ⟨b3,0,none⟩)),(4,[],.pointer (some ⟨e,0,none⟩)),(5,[],v5),(9,[],.int .u64 f),(10,[],.int .u64 (g9 W (W.length-1))),(11,[],.int .i64 ((i:Int)-1))]/\g=[.obj e (.cells ⟨[qU d P.length P.length]⟩ 305 (0,0)),.arr (qU d P.length P.length) 160 1 P.length (c.map cj).flatten]/\E=i+1) (hn_ [0,3,4,5,9,10,11] Z) ⟨P.length,List.replicate P.length 0,_,⟨QG _,Sv,(fun x hx=>by rw [Ss hx];decide),by rw [RW,Tu am];simp [bB],by rw [RW,show bB []=0 from Z,Nat.zero_mod];exact NineC.zero _,fun j _=>BX _ j⟩,Z,Z,Z⟩ (fun fr bX bY m _ F=>?_);obtain ⟨i,c,v5,⟨hi,Y,an,H,aa,ao⟩,rfl,rfl,rfl⟩:=F;refine Um 2 [0,3,4,5,9,10,11,78] Z ?_;refine Up (fun aq=>?_) fun aq=>?_
 ·have aM:0<i:=by
   have:(0:Int)<=(i:Int)-1:=by simpa using aq
   omega
  obtain ⟨j,rfl⟩:∃ j,i=j+1:=⟨i-1,by omega⟩;obtain ⟨T,hT⟩:∃ T,bB (P.drop (j+1))=T:=⟨_,rfl⟩;rw [hT] at H aa;have aN:=Rs T A;obtain ⟨I,bd,be,bZ,aO⟩:=aa.get (m:=100001) (SZ aN (dB (k:=100001) (n:=100000+1) (jH (k:=100000) y o) (QG _)));obtain ⟨RA,rc,aP,_⟩:=id aO;rw [ax] at aP;subst aP;obtain ⟨X,hX⟩:∃ X,g9 P j+B9*(T % (n*f))=X:=⟨_,rfl⟩;have aQ:=kT a9.1 j;have bf:bB (g9 P j::I)=X:=by rw [bB,be,hX]
  have J:=sN (t:=T) (x:=g9 P j) A;have bg:=mb (t:=T) A aQ;rw [hX] at J bg;have ab:bB (P.drop j)=g9 P j+B9*T:=by rw [fp om_,hT]
  refine UO [(7,3)] Z (fun R a=>?_);refine Us 2 Z ?_;refine UE aj.m_ U10 om_ (by rw [show ((((j+1:Nat):Int)-1)).toNat=j by omega];exact js om_:(P.map cj)[((((j+1:Nat):Int)-1)).toNat]?=some (cj (g9 P j))) fl_ (fun b0 bh=>?_);refine Uo bh U8 ?_;refine Vz [cj (g9 P j)] U12 fl_ (fun b1=>?_);refine Uq U6 ?_;refine D.append (j:=0) U11 aO.m_ (KZ I) (by simp only [ax,aU,maxLen];omega) (by simp only [ax,aU];omega) fl_ (fun b2=>?_);refine D.call (gu _ _ (g9 P j::I) (n:=1+(I.map cj).length) (by rw [ax];simp;omega)) Z (.inr dc_) U6 (QL _) fl_ (fun bi bj b5 _ bk=>?_);refine C4 1 [0,3,4,5,9,10,11] a Z ?_;clear a R;obtain ⟨rfl,hu⟩:=bk;have K:NineC bj bi X:=⟨EG (g9 P j::I),iv (fun x hx=>(QT.1 hx).elim (fun h=>by rw [h];exact aQ) (bd.1 x)),by rw [iu,bf],hu⟩;have aR:X<B9*(n*f):=by
   have h1:B9*(T % (n*f)+1)<=B9*(n*f):=R6 _ aN;rw [R3] at h1;omega
  have aS:X<B9 ^ 100002:=dB (k:=100002) (n:=100001+1) (PB (k:=100001) aR al) (QG _);obtain ⟨b,L,ar,b6,au⟩:=K.get aS;obtain ⟨XA,xc,aT,_⟩:=id au;rw [ax] at aT;subst aT;refine Un 1 Z fun R a=>?_;refine Uo (PtrTo.block (Mem.get v mup) _) U8 ?_;refine Uz (pE _ K.m_ ak.m_) U7 ?_;refine C4 1 [0,3,4,5,9,10,11,92] a Z ?_;clear a R;refine Up (fun av=>?_) fun av=>?_
  ·have aV:X<n*f:=by
    have:jN X (n*f)<0:=by simpa using av
    exact jh.1 this
   refine Un 1 Z fun R a=>?_;refine Ux _ U7 ?_;refine C4 1 [0,3,4,5,9,10,11] a Z ?_;clear a R;rw [show ((j+1:Nat):Int)-1-1=(j:Int)-1 by omega];refine UB (m':=j+1) om_ mup (hn_ [0,3,4,5,9,10,11] Z) ⟨j,c,_,⟨by omega,Y,an,by rw [fp (l:=c) om_,ao j om_,H,ab,J.1,S8 aV];omega,by rw [ab,J.2,S7 aV];exact K.mono mup,fun j' h=>ao j' om_⟩,Z,Z,Z⟩
  have bl:n*f<=X:=by
   have h:¬ jN X (n*f)<0:=by simpa using av
   rw [jh] at h;omega
  have bm:=zA L p (by rw [ar,z];exact bl);have b7:=xI L p (by rw [ar,z];exact aR);have aw:=(uA L p om_ bm).1;obtain ⟨s,ay⟩:∃ s,bB (b.drop (W.length-1))=s:=⟨_,rfl⟩;rw [ar,z,ay] at aw;have b8:=kT L.1 (b.length-1);have b9:=kT L.1 (b.length-2);refine Un 3 Z fun R a=>?_;refine Ux _ U7 ?_;refine UE au.m_ U10 om_ (by rw [show ((b.length:Int)-1).toNat=b.length-1 by omega];exact js om_:(b.map cj)[((b.length:Int)-1).toNat]?=some (cj (g9 b (b.length-1)))) fl_ (fun ca bn=>?_);refine Uo bn U8 ?_;refine C4 1 [0,3,4,5,9,10,11,12] a Z ?_;clear a R;refine Un 2 Z fun R a=>?_;refine Uo (PtrTo.block (Mem.get v mup) _) U8 ?_;refine C4 2 [0,3,4,5,9,10,11,12,103] a Z ?_;clear a R;refine G.cut (fun fr C' g E=>(s<1000000000000000000)/\fr=[(0,[],.slice PA P.length pc),(3,[],.pointer (some ⟨b3,0,none⟩)),(4,[],.pointer (some ⟨e,0,none⟩)),(5,[],.slice XA b.length xc),(9,[],.int .u64 f),(10,[],.int .u64 (g9 W (W.length-1))),(11,[],.int .i64 (((j+1:Nat):Int)-1)),(12,[],.int .u64 (s:Nat))]/\g=[.obj e (.cells ⟨[qU d P.length P.length]⟩ 305 (0,0)),.arr (qU d P.length P.length) 160 1 P.length (c.map cj).flatten]) ?_ (fun fr _ cb E _ F=>?_)
  ·refine Up (fun aA=>?_) fun aA=>?_
   ·have bo:b.length=W.length-1+2:=by
     have:(W.length:Int)<(b.length:Int):=by simpa using aA
     omega
    have M:=JZ bo;rw [ay,show W.length-1+1=b.length-1 by omega,show W.length-1=b.length-2 by omega] at M;have bp:g9 b (b.length-1)*B9<=999999999*B9:=Rz _ om_;rw [show 999999999*B9=999999999000000000 from rfl] at bp;refine Un 1 Z fun R a=>?_;refine D.int (((g9 b (b.length-1)*B9:Nat):Int)) U4 (by rw [show (1000000000:Int)=((B9:Nat):Int) from Z,<- RH,IntKind.wrap_u64];omega) U2 ?_;refine Us 3 Z ?_;refine Ux _ U7 ?_;refine UE au.m_ U10 om_ (by rw [show ((b.length:Int)-2).toNat=b.length-2 by omega];exact js om_:(b.map cj)[((b.length:Int)-2).toNat]?=some (cj (g9 b (b.length-2)))) fl_ (fun cc bq=>?_);refine Uo bq U8 ?_;refine D.int (((s:Nat):Int)) U4 (by rw [M,IntKind.wrap_u64];omega) U2 ?_;refine C4 1 [0,3,4,5,9,10,11,12] a Z ?_;clear a R;refine UD 0 mup (hn_ [0,3,4,5,9,10,11,12] Z) ⟨by omega,Z,Z⟩
   have br:b.length=W.length-1+1:=by
    have:¬ (W.length:Int)<(b.length:Int):=by simpa using aA
    omega
   have M:=BO br;rw [ay,show W.length-1=b.length-1 by omega] at M;rw [<- M];refine UD 0 mup (hn_ [0,3,4,5,9,10,11,12] Z) ⟨by omega,Z,Z⟩
  obtain ⟨cd,rfl,rfl⟩:=F;obtain ⟨N,aB⟩:∃ N,s / g9 W (W.length-1)=N:=⟨_,rfl⟩;rw [aB] at aw;have ce:N<=s:=by rw [<- aB];exact RM _ _
  refine Un 2 Z fun R a=>?_;refine Vu (s) (g9 W (W.length-1)) U6 bb (.inr ⟨Z,by omega⟩) U2 ?_;rw [aB];refine D.min (((min N 999999999:Nat):Int)) Z Z Z Z Z Z om_ Z Z ?_;refine C4 1 [0,3,4,5,9,10,11,12] a Z ?_;clear a R;refine Ur fun R a=>?_;refine Uo (PtrTo.block (Mem.get v mup) _) U8 ?_;refine Uq U6 ?_;refine US (yn (k:=100001) _ ak.m_ al om_ om_) U7 fl_ (fun bs _ _ bt=>?_);refine C4 1 [0,3,4,5,9,10,11,12,13] a Z ?_;clear a R;refine G.loop (fun fr C' g E=>∃ (dd:Nat)(aC:Value),(X / (n*f)<=dd/\dd<B9/\NineC C' aC (n*f*dd))/\fr=[(0,[],.slice PA P.length pc),(3,[],.pointer (some ⟨b3,0,none⟩)),(4,[],.pointer (some ⟨e,0,none⟩)),(5,[],.slice XA b.length xc),(9,[],.int .u64 f),(10,[],.int .u64 (g9 W (W.length-1))),(11,[],.int .i64 (((j+1:Nat):Int)-1)),(12,[],.int .u64 (dd:Nat)),(13,[],aC)]/\g=[.obj e (.cells ⟨[qU d P.length P.length]⟩ 305 (0,0)),.arr (qU d P.length P.length) 160 1 P.length (c.map cj).flatten]/\E=dd+1) (hn_ [0,3,4,5,9,10,11,12,13] Z) ⟨min N 999999999,bs,⟨by have h:=Nat.le_min.2 ⟨aw,(by omega:X / (n*f)<=999999999)⟩;exact h,by omega,bt.mono mup⟩,Z,Z,Z⟩ (fun fr cf cg m _ F=>?_);obtain ⟨dd,aC,⟨bu,aW,aD⟩,rfl,rfl,rfl⟩:=F;refine Un 2 Z fun R a=>?_;refine Uz (pE _ aD.m_ K.m_) U7 ?_;refine C4 1 [0,3,4,5,9,10,11,12,13,123] a Z ?_;clear a R;refine Up (fun aE=>?_) fun aE=>?_
  ·have O:X<n*f*dd:=by
    have:0<jN (n*f*dd) X:=by simpa using aE
    exact F8.1 this
   have bv:1<=dd:=by
    rcases Sb dd with h | h
    ·rw [h] at O;omega
    exact h
   refine Un 1 Z fun R a=>?_;refine Uo (PtrTo.block (Mem.get v mup) _) U8 ?_;refine US (uo (k:=100002) _ aD.m_ ak.m_ (dB (k:=100002) (n:=100001+1) (jH (k:=100001) al aW) (QG _)) (SN _ bv) om_) U7 fl_ (fun bw _ _ aX=>?_);refine C4 1 [0,3,4,5,9,10,11,12,13] a Z ?_;clear a R;refine Un 1 Z fun R a=>?_;refine D.int (((dd-1:Nat):Int)) U4 (by rw [IntKind.wrap_u64];omega) U2 ?_;refine C4 1 [0,3,4,5,9,10,11,12,13] a Z ?_;clear a R;rw [show n*f*dd-n*f=n*f*(dd-1) from by rw [Nat.mul_sub,SL]] at aX;refine UB (m':=dd-1+1) om_ mup (hn_ [0,3,4,5,9,10,11,12,13] Z) ⟨dd-1,bw,⟨by have h:=(SM A).2 (by rw [Rw];exact O);omega,by omega,aX.mono mup⟩,Z,Z,Z⟩
  have O:n*f*dd<=X:=by
   have h:¬ 0<jN (n*f*dd) X:=by simpa using aE
   rw [F8] at h;omega
  have aY:dd=X / (n*f):=Nat.le_antisymm ((Nat.le_div_iff_mul_le A).2 (by rw [Rw];exact O)) bu;have bx:X-n*f*dd=X % (n*f):=by rw [aY];have:=TH X (n*f);omega
  refine UK [0,1,2,3,4,5,6,7,8] [] Z kr_ (fun R S a=>?_);refine Uw af U9 ?_;refine Us 4 Z ?_;refine US (uo (k:=100002) _ K.m_ aD.m_ aS O om_) U7 fl_ (fun bz _ _ aZ=>?_);refine UT (j*1) U10 (fun _=>⟨by omega,by omega,(by rw [show (((j+1:Nat):Int)-1).toNat=j by omega])⟩) U2 ?_;refine UX (j:=1) U11 (by show j*1+1<=_;rw [bQ eH,Y];omega) ?_;refine Uq U6 ?_;refine Ut [0,3,4,5,9,10,11] a Z ?_;clear a S R;refine Un 1 Z fun R a=>?_;refine Ux _ U7 ?_;refine C4 1 [0,3,4,5,9,10,11] a Z ?_;clear a R;rw [show ((j+1:Nat):Int)-1-1=(j:Int)-1 by omega];refine G.perm (L':=[.obj e (.cells ⟨[qU d P.length P.length]⟩ 305 (0,0)),.arr (qU d P.length P.length) 160 1 P.length (az (c.map cj).flatten (cj dd) (j*1))]) (List.Perm.swap _ _ _) ?_;refine UF (L':=[.obj e (.cells ⟨[qU d P.length P.length]⟩ 305 (0,0)),.arr (qU d P.length P.length) 160 1 P.length ((c.set j dd).map cj).flatten]) (by rw [<- bM eH _ (by omega:j<c.length)]) ?_;rw [bx] at aZ;refine UB (m':=j+1) om_ mup (hn_ [0,3,4,5,9,10,11] Z) ⟨j,c.set j dd,bz,⟨by omega,by simp [Y],an.set aW,by rw [lm om_,H,ab,J.1,aY];omega,by rw [ab,J.2];exact aZ.mono mup,fun j' h=>by rw [qi om_];exact ao j' om_⟩,Z,Z,Z⟩
 have aM:i=0:=by
  have:¬ (0:Int)<=(i:Int)-1:=by simpa using aq
  omega
 subst aM;rw [RQ,RQ,ai,Nat.mul_div_mul_right _ _ w] at H;rw [RQ,ai,Nat.mul_mod_mul_right] at aa;refine Un 2 Z fun R a=>?_;refine UJ [cj f] U12 (fun ch _ _ bA=>?_);refine US (sM _ _ _ (m % n*f) f aa.m_ (by
  have h1:=jH (k:=100000) (SZ (Rs m aG) y) o;exact dB (k:=200000) (n:=100000+1) h1 dc_) bA.m_ w o) U7 fl_ (fun ci _ _ bC=>?_)
 obtain ⟨q2,r2,rfl,a1,ck⟩:=bC;rw [Nat.mul_div_cancel _ w] at a1;refine C4 4 [4,5] a Z ?_;clear a R;refine G.perm (L':=[.arr (qU d P.length P.length) 160 1 P.length (c.map cj).flatten,.obj e (.cells ⟨[qU d P.length P.length]⟩ 305 (0,0))]) (List.Perm.swap _ _ _) ?_;refine UO [(1,3)] Z (fun R a=>?_);refine Uw ae U9 ?_;refine D.call (gu _ _ c Y) Z (.inr dc_) U6 (QL _) fl_ (fun cl _ cm _ bD=>?_);refine Uq U6 ?_;obtain ⟨rfl,hu⟩:=bD;obtain ⟨Au,cu,rfl,_⟩:=id hu;refine Uy (j:=0) U12 ?_;refine C4 1 [4,5] a Z ?_;clear a R;refine UA (VT (Ba af Z Z Z Z Z) ?_ Km);exact ⟨Z,_,_,Z,⟨EG c,iv an,by rw [iu,H],hu⟩,a1.mono mup⟩
theorem xo (C:Mem)(a b:Value)(m n:Nat)(g:NineC C a m)(h:NineC C b n)(i:m<B9 ^ 100000)(f:0<n) :
  Pur cx.P 248 [a,b] C fun u D=>∃ q r,u=.tuple #[q,r]/\NineC D q (m / n)/\NineC D r (m % n):=by
 rcases Rh n B9 with c | c
 ·obtain ⟨l,h1,h2,h3,h4⟩:=h.get (m:=1) (by rw [Nat.pow_one];exact c);have j:l≠[]:=fun e=>by rw [e] at h2;rw [<- h2] at f;exact absurd f dc_
  obtain ⟨d,rfl⟩:∃ d,l=[d]:=by
   cases l with
   | nil=>exact absurd rfl j
   | cons d l=>cases l with
    | nil=>exact ⟨d,rfl⟩
    | cons e l=>simp at h3
  have o:d=n:=by rw [<- h2];show d=d+B9*0;omega
  subst o;exact sM C a b m d g (dB (k:=200000) (n:=100000) i dc_) h4 f c
 exact D4 C a b m n g h i c
theorem J9 (C:Mem)(s:Str)(c:UInt8):Gives cx.P 249 [ai s,ai [c]] C (.bool (cJ c s).2):=by
 exact Uv func249 8 U3 fun w0=>Um 1 [0,1] Z<|Un 2 Z fun R a=>Uz (yO _ s c) U7<|C4 1 [4] a Z<|Uu U2<|⟨Z,Z⟩
theorem EY (C:Mem)(s:Str)(c:UInt8):Gives cx.P 266 [ai s,ai [c]] C (ai (cJ c s).1):=by
 refine Uv func266 13 U3 fun w0=>Um 1 [0,1] Z<|Un 2 Z fun R d=>Uz (yO _ s c) U7<|Ut [0,1,7] d Z<|Up (fun a=>?_) fun a=>?_
 ·have h:s.head?=some c:=Ro fun h=>by unfold cJ at a;rw [aB h] at a;cases a
  have e:1<=s.length:=by cases s with
   | nil=>cases h
   | cons b s=>simp
  refine Un 3 Z fun R d=>Vo 1 s.length U9 (fun _=>⟨.inr ⟨_,Z⟩,.inl ⟨Z,Z⟩,.inl ⟨Z,Z⟩,by omega,QG _,QG _⟩) U2<|C4 1 [4] d Z<|Uu U2 ?_;unfold cJ;rw [aJ h];refine ⟨?_,Z⟩;rw [QV,List.drop_one];rfl
 have h:¬ s.head?=some c:=fun h=>by unfold cJ at a;rw [aJ h] at a;cases a
 refine Um 2 [4] Z<|Uu U2 ?_;unfold cJ;rw [aB h];exact ⟨Z,Z⟩
theorem AF (C:Mem)(s:Str)(c:UInt8):Gives cx.P 232 [ai s,ai [c]] C (ai (cJ c s).1):=by
 exact Uv func232 8 U3 fun w0=>Um 1 [0,1] Z<|Un 2 Z fun R a=>Uz (EY _ s c) U7<|C4 1 [4] a Z<|Uu U2<|⟨Z,Z⟩
def eU (z:Int):Int:=if z<0 then -1 else if z=0 then 0 else 1
theorem lR (C:Mem)(z:Int):Gives cx.P 209 [ai (txt z)] C (.int .i64 (eU z)):=by
 refine Uv func209 9 U3 fun w0=>Um 1 [0] Z ?_
 skip
 refine Um 3 [0,3] Z<|Up (fun h3=>?_) fun h3=>?_
 ·have b:z=0:=by
   have h:=lu z;rw [h] at h3;exact QF h3
  exact Um 1 [2] Z<|Uu U2<|⟨by rw [b];rfl,Z⟩
 have b:z≠0:=by
  have h:=lu z;rw [h] at h3;exact QJ h3
 refine Un 1 Z fun R d=>Uz (J9 _ (txt z) 45) U7<|C4 1 [6] d Z<|Up (fun a=>?_) fun a=>?_
 ·have c:z<0:=by
   rw [dE] at a;exact QF a
  exact Um 1 [2] Z<|Uu U2<|⟨by rw [eU,aJ c],Z⟩
 have c:¬ z<0:=by
  rw [dE] at a;exact QJ a
 exact Um 1 [2] Z<|Uu U2<|⟨by rw [eU,aB c,aB b],Z⟩
theorem sx (C:Mem)(a:Tabs C)(z:Int)(b:-9223372036854775808<=z)(c:z<=9223372036854775807):Gives cx.P 79 [.int .i64 z] C (ai (txt z)):=by
 exact Uv func79 5 U3 fun w0=>Um 1 [0] Z<|Un 1 Z fun R d=>Uz (jq _ a.m_ z b c) U7<|C4 1 [2] d Z<|Uu U2<|⟨Z,Z⟩
theorem mI (z:Int):(txt z).length<=(bl z.natAbs).length+1:=by unfold txt;split <;> simp
theorem uw (C:Mem)(z:Int)(e:(bl z.natAbs).length<=1000000):Gives cx.P 210 [ai (txt z)] C (ai (txt (-z))):=by
 have f:=mI z;refine Uv func210 14 U3 fun w0=>Um 1 [0] Z<|Un 1 Z fun R a=>Uz (lR _ z) U7<|Ut [0,4] a Z<|Um 2 [0,4,5] Z<|Up (fun h5=>?_) fun h5=>?_
 ·have d:0<z:=by
   have h:eU z=1:=by simpa using h5
   unfold eU at h;split at h
   ·cases h
   split at h
   ·cases h
   omega
  refine Un 1 Z fun R a=>Vn U6 (fun _=>(by simp only [QY,Rp];omega)) U2<|C4 1 [2] a Z<|Uu U2<|⟨?_,Z⟩;unfold txt;rw [aB om_,aJ om_,TP];rfl
 have d:¬ 0<z:=fun h=>by
  have h2:eU z=1:=by unfold eU;rw [aB om_,aB om_]
  rw [h2] at h5;cases h5
 refine Um 2 [0,9] Z<|Up (fun b=>?_) fun b=>?_
 ·have c:z<0:=by
   have h:eU z=-1:=by simpa using b
   unfold eU at h;split at h
   ·assumption
   split at h <;> cases h
  refine Un 1 Z fun R a=>Vo 1 (txt z).length U9 (fun _=>⟨.inr ⟨_,Z⟩,.inl ⟨Z,Z⟩,.inl ⟨Z,Z⟩,(by unfold txt;rw [aJ c];simp),QG _,QG _⟩) U2<|C4 1 [2] a Z<|Uu U2<|⟨?_,Z⟩;rw [QV];unfold txt;rw [aJ c,aB om_,TP];rfl
 have c:¬ z<0:=fun h=>by
  have h2:eU z=-1:=by unfold eU;rw [aJ h]
  rw [h2] at b;cases b
 refine Um 2 [2] Z<|Uu U2<|⟨?_,Z⟩;rw [show z=0 by omega];rfl
theorem HE:∀ {s t:Str},(∀ c∈s,eM c=true)->(∀ c∈t,eM c=true)->s.length=t.length->Lib.compareBytes s t=jN (bW s) (bW t)
 | [],[],_,_,_=>rfl
 | [],_::_,_,_,h=>by simp at h
 | _::_,[],_,_,h=>by simp at h
 | c::s,d::t,hs,g,k=>by
  have e:s.length=t.length:=by simpa using k
  have i:∀ x∈s,eM x=true:=fun x f=>hs x (by simp [f]);have j:∀ x∈t,eM x=true:=fun x f=>g x (by simp [f]);have l:=HE i j e;have h1:=dU i;have h2:=dU j;have m:=hs c am;have n:=g d am;simp only [eM,QR] at m n;rw [dF,dF,e];rw [e] at h1;simp only [Lib.compareBytes];obtain ⟨p,o⟩:∃ p,10 ^ t.length=p:=⟨_,rfl⟩;rw [o] at h1 h2 ⊢;by_cases a:c<d
  ·rw [aJ a];have r:c.toNat<d.toNat:=a;have h3:(c.toNat-48+1)*p<=(d.toNat-48)*p:=Rz _ om_;rw [R7] at h3;unfold jN;rw [aJ om_]
  rw [aB a];by_cases b:d<c
  ·rw [aJ b];have u:d.toNat<c.toNat:=b;have h3:(d.toNat-48+1)*p<=(c.toNat-48)*p:=Rz _ om_;rw [R7] at h3;unfold jN;rw [aB om_,aJ om_]
  rw [aB b,l];have q:c.toNat=d.toNat:=by
   have h3:¬ c.toNat<d.toNat:=a;have h4:¬ d.toNat<c.toNat:=b;omega
  rw [q];unfold jN;split <;> rename_i h5
  ·rw [aJ om_]
  split <;> rename_i v
  ·rw [aB om_,aJ om_]
  rw [aB om_,aB om_]
theorem qC {a b:Nat}(h:(bl a).length<(bl b).length):a<b:=by
 obtain ⟨h1,h2⟩:=bH a;obtain ⟨h3,h4⟩:=bH b;have c:=Ru.2 h1.2.1;have h5:=dU h1.1;have d:=oq h3 om_;have e:10 ^ (bl a).length<=10 ^ ((bl b).length-1):=Q7 dc_ om_;omega
theorem NV {a b:Nat}(h:(bl a).length=(bl b).length):Lib.compareBytes (bl a) (bl b)=jN a b:=by
 obtain ⟨h1,h2⟩:=bH a;obtain ⟨h3,h4⟩:=bH b;rw [HE h1.1 h3.1 h,h2,h4]
def vx (z w:Int):Int:=if z<w then -1 else if w<z then 1 else 0
theorem ep (z:Int):(z<0/\eU z=-1)∨(z=0/\eU z=0)∨(0<z/\eU z=1):=by
 unfold eU;split
 ·exact .inl ⟨by assumption,Z⟩
 split
 ·exact .inr (.inl ⟨by assumption,Z⟩)
 exact .inr (.inr ⟨by omega,Z⟩)
theorem zw (h:eU z=eU w):vx z w=eU z*jN z.natAbs w.natAbs:=by
 have a:=ep w;rw [<- h] at a;unfold vx jN;rcases ep z with ⟨h1,h2⟩ | ⟨h1,h2⟩ | ⟨h1,h2⟩ <;> rw [h2] at a ⊢
 ·have h3:w<0:=by omega
  split <;> split <;> (try split) <;> omega
 ·have h3:w=0:=by omega
  subst h1 h3;simp
 have h3:0<w:=by omega
 split <;> split <;> (try split) <;> omega
theorem I6 (z:Int):IntKind.i64.wrap (-(eU z))=-(eU z):=by
 rcases ep z with ⟨h1,h2⟩ | ⟨h1,h2⟩ | ⟨h1,h2⟩ <;> rw [h2] <;> rfl
theorem E9 (C:Mem)(a b:Str):Gives cx.P 233 [ai a,ai b] C (.int .i64 (Lib.compareBytes a b)):=yu Tryz.scmp a b C kr_
theorem pY (C:Mem)(z w:Int)(_m:(bl z.natAbs).length<=1000000)(_n:(bl w.natAbs).length<=1000000):Gives cx.P 161 [ai (txt z),ai (txt w)] C (.int .i64 (vx z w)):=by
 have ez:(cJ 45 (txt z)).1=bl z.natAbs:=by rw [dE]
 have j:(cJ 45 (txt w)).1=bl w.natAbs:=by rw [dE]
 refine Uv func161 41 U3 fun w0=>Um 1 [0,1] Z<|Un 1 Z fun R b=>Uz (lR _ z) U7<|Uq U6<|Uz (lR _ w) U7<|C4 2 [0,1,5,6] b Z<|Um 3 [0,1,5,6,15] Z<|Up (fun c=>?_) fun c=>?_
 ·have k:eU z≠eU w:=by simpa using c
  refine Um 3 [18] Z<|Up (fun d=>?_) fun d=>?_
  ·have a:eU z<eU w:=by simpa using d
   refine Um 1 [4] Z<|Uu U2<|⟨?_,Z⟩;rw [vx,aJ (by unfold eU at a;split at a <;> split at a <;> (try split at a) <;> omega)]
  have a:¬ eU z<eU w:=by simpa using d
  refine Um 1 [4] Z<|Uu U2<|⟨?_,Z⟩;have h:w<z:=by
   have h2:eU w<eU z:=by omega
   unfold eU at h2;split at h2 <;> split at h2 <;> (try split at h2) <;> omega
  rw [vx,aB om_,aJ h]
 have f:eU z=eU w:=by simpa using c
 refine Un 1 Z fun R b=>Uz (AF _ (txt z) 45) U7<|Uq U6<|Uz (AF _ (txt w) 45) U7 ?_;rw [ez,j];refine C4 2 [5,7,8] b Z<|Um 5 [5,7,8,27] Z<|Up (fun g=>?_) fun g=>?_
 ·have k:(bl z.natAbs).length≠(bl w.natAbs).length:=fun e=>by
   have h:(((bl z.natAbs).length:Nat):Int)≠(((bl w.natAbs).length:Nat):Int):=by simpa using g
   exact h (by rw [e])
  refine Um 5 [5,32] Z<|Up (fun i=>?_) fun i=>?_
  ·have a:z.natAbs<w.natAbs:=qC (by
    have h:(((bl z.natAbs).length:Nat):Int)<(((bl w.natAbs).length:Nat):Int):=by simpa using i
    omega)
   refine Um 3 [4] Z<|Uu U2<|⟨?_,Z⟩;rw [Int.zero_sub,I6,zw f,show jN z.natAbs w.natAbs=-1 from aJ a];congr 1;omega
  have a:w.natAbs<z.natAbs:=qC (by
   have h:¬ (((bl z.natAbs).length:Nat):Int)<(((bl w.natAbs).length:Nat):Int):=by simpa using i
   omega)
  refine Um 2 [4] Z<|Uu U2<|⟨?_,Z⟩;rw [zw f,show jN z.natAbs w.natAbs=1 from by unfold jN;rw [aB om_,aJ a]];congr 1;omega
 have l:(bl z.natAbs).length=(bl w.natAbs).length:=by
  have h:(((bl z.natAbs).length:Nat):Int)=(((bl w.natAbs).length:Nat):Int):=by simpa using g
  omega
 refine Un 3 Z fun R b=>Uz (E9 _ (bl z.natAbs) (bl w.natAbs)) U7 ?_;rw [NV l];refine UY ((vx z w)) U4 (by rw [zw f]) (by unfold vx;split <;> (try split) <;> omega) (by unfold vx;split <;> (try split) <;> omega) U2 ?_
 exact C4 1 [4] b Z<|Uu U2<|⟨Z,Z⟩
def qK (b:Bool):Int:=if b then 0 else 2
theorem xe (C:Mem)(s:Str):Gives cx.P 207 [ai s] C (.int .i64 (qK (cI s))):=by
 obtain ⟨t,neg,p⟩:∃ t b,cJ 45 s=(t,b):=⟨_,_,rfl⟩;have g:cI s=(t.all eM && !(t == []) && !(t.head? == some 48 && (neg || decide (1<t.length))) && decide (t.length<=200)):=by unfold cI xG;rw [p]
 refine Uv func207 47 U3 fun w0=>Um 1 [0] Z<|Un 1 Z fun R a=>UC (by have h:=Hy C s 45;rw [p] at h;exact h) U7 fl_<|C4 5 [3,4] a Z<|Un 6 Z fun R a=>UU U8<|Us 2 Z<|Vk (b:=t.headD 0) U8 (fun r=>⟨by omega,(by
  cases t with
  | nil=>exact Bool.noConfusion (show true=false from r.1)
  | cons b t=>rfl)⟩) U2 ?_
 refine Us 7 Z<|UU U8<|UM U8<|UU U8<|Ut [3,30] a Z<|Up (fun d=>?_) fun d=>?_
 ·have j:cI s=false:=by
   rw [g];cases t with
   | nil=>simp
   | cons b t =>
    simp at d;rcases d with h | ⟨h,h2⟩
    ·simp;intro _ _;omega
    have e:b=48:=T4.1 (by show b.toNat=48;omega);subst e;have u:(neg || decide (1<((48:UInt8)::t).length))=true:=by
     rcases h2 with h2 | h2
     ·rw [Q0 ap];simp
     rw [h2];rfl
    rw [u];simp
  exact Um 1 [2] Z<|Uu U2<|⟨by rw [j];rfl,Z⟩
 have v:t.length<=200:=by
  simp at d;omega
 refine Um 3 [3,32,33] Z<|G.loop (fun fr C' w y=>∃ (i:Nat),(i<=t.length/\∀ c∈t.take i,eM c=true)/\fr=[(3,[],ai t),(32,[],.int .i64 t.length),(33,[],.int .i64 i)]/\w=[]/\y=t.length-i) (hn_ [3,32,33] Z) ⟨0,⟨QK _,by simp⟩,Z,Z,Z⟩ (fun fr E F m _ z=>?_);obtain ⟨i,⟨H,k⟩,rfl,rfl,rfl⟩:=z;refine Um 1 [3,32,33,34] Z<|Up (fun l=>?_) fun l=>?_
 ·have n:i<t.length:=by simpa using l
  obtain ⟨c,f⟩:∃ c,t[i]?=some c:=⟨t[i],aj n⟩;refine Um 2 [3,5,32,33] Z<|Un 2 Z fun R a=>Vk U8 (fun _=>⟨by omega,f⟩) U2<|Us 4 Z<|Vk U8 (fun _=>⟨by omega,f⟩) U2<|Uq U6<|UU U8<|Ut [3,32,33,45] a Z<|Up (fun o=>?_) fun o=>?_
  ·have j:cI s=false:=by
    have h1:t.all eM=false:=by
     rw [Tv];refine ⟨c,PN f, ?_⟩;simp at o;unfold eM;simp;omega
    rw [g,h1];rfl
   exact Um 1 [2] Z<|Uu U2<|⟨by rw [j];rfl,Z⟩
  have A:eM c=true:=by
   simp at o;unfold eM;simp;omega
  refine Ur fun R a=>Ux _ U7<|C4 1 [3,32,33] a Z<|UB (m':=t.length-(i+1)) om_ mup (hn_ [3,32,33] Z) ⟨i+1,⟨by omega,fun x q=>by
   rw [Q5,f] at q;rcases QW.1 q with h | h
   ·exact k x h
   simp at h;subst h;exact A⟩,rfl,rfl,rfl⟩
 have n:t.length<=i:=by
  have:¬ i<t.length:=by simpa using l
  omega
 rw [Rr n] at k;have B:t.all eM=true:=Q3.2 k;have D:cI s=true:=by
  rw [g,B,Q0 v];cases t with
  | nil=>simp at d
  | cons b t =>
   simp at d;simp;by_cases e:b=48
   ·subst e;have h5:=d.2;simp at h5;exact .inr ⟨h5.2,Rq om_⟩
   exact .inl e
 exact Um 1 [2] Z<|Uu U2<|⟨by rw [D];rfl,Z⟩
end Go.Proofs.YthnpijdjlddpmaaGreatDoor
