/- Laws that the proofs of this seat share, part 6. -/
import Derived.Test.YthnpijdjlddpmaaGreatDoorG5
import Derived.Test.YthnpijdjlddpmaaGreatDoorShelf
set_option maxHeartbeats 4000000
namespace Go.Proofs.YthnpijdjlddpmaaGreatDoor
open Go.Proofs.Tryz
open Go Go.Jog
set_option maxRecDepth 100000
variable {Q:Nat}{a b:List Nat}{i j k:Nat}{l:List Nat}{m n:Nat}{o p:List Int}{q:List Nat}{s:Str}{t:Nat}{w:Int}{x:Nat}{z:Int}
theorem GR (C:Mem)(a:Tabs C)(n:Nat)(h:n<=1000000000000000000):Gives cx.P 123 [.int .i64 n] C (ai (bq n)):=by
 have h1:=LJ C a (n:Int) om_ om_
 rwa [J5] at h1
theorem jv (C:Mem)(a:Tabs C)(z:Int)(b:-9223372036854775808<=z)(c:z<=9223372036854775807):Gives cx.P 123 [.int .i64 z] C (ai (txt z)):=by
 have h:=LJ C a z b c
 rwa [J4] at h
theorem Nr (C:Mem)(a:Tabs C)(x:Nat)(b:x<10000):Gives cx.P 123 [.int .i64 (10000+x:Nat)] C (ai (49::mH 4 x)):=by
 have h:=GR C a (10000+x) om_
 rwa [tenK b] at h
theorem eI (h:n<10 ^ k)(a:0<k):(bq n).length<=k:=by
 apply Rp;intro b;have h1:=oy (bH n).1 om_;rw [(bH n).2] at h1;have h2:10 ^ k<=10 ^ ((bq n).length-1):=Q6 dc_ om_;omega
theorem uP (h:DigP l):(bq (bM l)).length<=4*l.length+1:=by
 refine eI ?_ om_;have h1:=mJ h;rw [<- Lu] at h1;have h2:10 ^ (4*l.length)<=10 ^ (4*l.length+1):=Q6 dc_ om_;omega
theorem qo (h:k<l.length):(l.map aL)[k]?=some (aL (gP l k))/\l[k]?=some (gP l k):=by
 have e:l[k]?=some (gP l k):=by
  unfold gP;rw [al,aj h];rfl
 exact ⟨by rw [QI,e];rfl,e⟩
theorem G3 (C:Mem)(f:Tabs C)(v:Value)(l:List Nat)(b:Sl C 1 v (l.map aL))(g:CO l)(N:l.length<=100000):Gives cx.P 291 [v] C (ai (bq (bM l))):=by
 obtain ⟨s,c0,rfl,_⟩:=id b;simp only [aw] at b ⊢;have c:=g.1;refine Uv func291 34 U3 fun w0=>Ul 1 [0] Z<|Ul 3 [0,8] Z<|Uo (fun d=>?_) fun d=>?_
 ·have h0:l=[]:=by
   have:(l.length:Int)=0:=by simpa using d
   exact Rn om_
  refine Ul 1 [2] Z<|Ut U2<|⟨?_,Z⟩;rw [h0,show bq (bM [])=[48] by rw [bq];rfl];rfl
 have h0:0<l.length:=by
  have:¬ (l.length:Int)=0:=by simpa using d
  omega
 have t:(l.map aL)[((l.length:Int)-1).toNat]?=some (aL (gP l (l.length-1))):=by rw [show ((l.length:Int)-1).toNat=l.length-1 by omega];exact (qo om_).1
 have u:gP l (l.length-1)<10000:=G5 c _;have w:bM (l.drop (l.length-1))=gP l (l.length-1):=by
  rw [Re om_,Tu om_];have h1:=(qo (l:=l) (k:=l.length-1) om_).2;rw [(aE.1 h1).2];simp [bM]
 have x:0<gP l (l.length-1):=by
  have h1:=(qo (l:=l) (k:=l.length-1) om_).2;have h2:=g.2;rw [SE,h1] at h2;rcases Sb (gP l (l.length-1)) with h | h
  ·rw [h] at h2;exact absurd rfl h2
  exact h
 refine Um 3 Z fun R a=>Uw _ U7<|UD b.m_ U10 om_ t fl_ fun O y=>Un y U8<|UC (GR _ f.m_ (gP l (l.length-1)) om_) U7 fl_<|C4 1 [0,3] a Z<|Um 2 Z fun R a=>Uw _ U7<|C4 1 [0,3,4] a Z ?_;rw [show (l.length:Int)-2=((l.length-1:Nat):Int)-1 by omega];refine G.loop (fun fr C' z A=>∃ (k:Nat)(o:Str),(k<l.length/\vA o/\bX o=bM (l.drop k)/\0<bX o/\o.length<=25+4*(l.length-k))/\fr=[(0,[],.slice s l.length c0),(3,[],ai o),(4,[],.int .i64 ((k:Int)-1))]/\z=[]/\A=k+1) (hn_ [0,3,4] Z) ⟨l.length-1,bq (gP l (l.length-1)),⟨by omega,(bH _).1,by rw [(bH _).2,w],by rw [(bH _).2];exact x,by
  have h2:=eI (k:=4) (n:=gP l (l.length-1)) u om_;omega⟩,rfl,rfl,rfl⟩ (fun fr Q S m _ B=>?_)
 obtain ⟨k,o,⟨T,i,p,D,U⟩,rfl,rfl,rfl⟩:=B;refine Ul 2 [0,3,4,20] Z<|Uo (fun e=>?_) fun e=>?_
 ·have q:0<k:=by
   have:(0:Int)<=(k:Int)-1:=by simpa using e
   omega
  obtain ⟨j,rfl⟩:∃ j,k=j+1:=⟨k-1,by omega⟩;rw [show ((j+1:Nat):Int)-1=(j:Int) by omega];obtain ⟨E,F⟩:=qo (l:=l) (k:=j) om_;have r:=G5 c j;have H:gP l j<10000:=r;have I:=(kU 4 (gP l j) r).1;refine Um 2 Z fun R a=>UD b.m_ U10 om_ E fl_ fun V J=>Un J U8<|UX (((10000+gP l j:Nat):Int)) U4 om_ om_ om_ U2<|Uy (Nr _ f.m_ _ H) U7<|C4 1 [0,3,4,5] a Z<|Um 2 Z fun R a=>Vn 1 (49::mH 4 (gP l j)).length U9 (fun _=>⟨.inr ⟨_,Z⟩,.inl ⟨Z,Z⟩,.inl ⟨Z,Z⟩,by simp,QG _,QG _⟩) U2<|Vm U6 (fun _=>(by simp only [SU,QW,QY];omega)) U2<|C4 1 [0,3,4] a Z<|Um 1 Z fun R a=>Uw _ U7<|C4 1 [0,3,4] a Z ?_;rw [QV,List.drop_one,List.tail_cons];obtain ⟨K,L,M⟩:=G2 c F i p D;refine UA (m':=j+1) om_ mup (hn_ [0,3,4] Z) ⟨j,o++mH 4 (gP l j),⟨by omega,K,L,M,by rw [QM,I];omega⟩,Z,Z,Z⟩
 have q:k=0:=by
  have:¬ (0:Int)<=(k:Int)-1:=by simpa using e
  omega
 subst q;refine Ul 2 [2] Z<|Ut U2<|⟨?_,Z⟩;rw [oz i,p,RQ]
def sgZ (m:Bool)(n:Nat):Int:=if m then -(n:Int) else n
theorem AG (m:Bool)(n:Nat)(h:m=true->0<n):txt (sgZ m n)=if m then 45::bq n else bq n:=by
 unfold txt sgZ;cases m with
 | false=>simp
 | true=>have:=h rfl;simp;omega
theorem Gx (C:Mem)(e:Tabs C)(m:Bool)(v:Value)(l:List Nat)(i:Sl C 1 v (l.map aL))(j:DigP l)(k:l.length<=100000):Gives cx.P 264 [.bool m,v] C (ai (txt (sgZ m (bM l)))):=by
 have c:=ml j;have f:(xv l).length<=100000:=by unfold xv;rw [QW];omega
 have g:(xv l).length=0 ↔ bM l=0:=by rw [<- iB,Cs c,TQ]
 refine Uv func264 18 U3 fun w0=>Ul 1 [0,1] Z<|Um 1 Z fun R a=>UV (Ch _ _ l i) U7 (fun n _ _ d=>?_);obtain ⟨o,p,rfl,_⟩:=id d;rw [aw] at d;rw [aw];refine C4 1 [0,1] a Z<|Um 5 Z fun R a=>UM U8<|Ur [1,12] a Z<|Uo (fun b=>?_) fun b=>?_
 ·have hm:m=true/\0<bM l:=by
   simp at b;refine ⟨b.1, ?_⟩;have h2:=b.2;rcases Sb (bM l) with h | h
   ·have:=g.2 h;omega
   exact h
  refine Um 1 Z fun R a=>Uy (G3 _ e.m_ _ (xv l) d.m_ c f) U7<|Vm U6 (fun _=>(by have:=uP c.1;simp only [QY,Rq];omega)) U2<|C4 1 [4] a Z<|Ut U2<|⟨?_,Z⟩;rw [AG m _ (fun _=>hm.2),aJ hm.1,iB];rfl
 have hm:m=true->bM l=0:=fun h=>by
  rcases Sb (xv l).length with h0 | h0
  ·exact g.1 h0
  exfalso;have h1:decide ((0:Int)<((xv l).length:Nat))=true:=QZ om_;rw [h,h1] at b;cases b
 refine Um 1 Z fun R a=>Uy (G3 _ e.m_ _ (xv l) d.m_ c f) U7<|C4 1 [4] a Z<|Ut U2<|⟨?_,Z⟩;rw [iB];congr 1;cases m with
 | false=>rw [AG false _ (fun h=>by cases h)];rfl
 | true=>rw [hm rfl];rfl
def gI (p:List Int)(i:Nat):Int:=p.getD i 0
theorem G7 (h:k<p.length):(p.map mf)[k]?=some (mf (gI p k))/\p[k]?=some (gI p k):=by
 have e:p[k]?=some (gI p k):=by
  unfold gI;rw [al,aj h];rfl
 exact ⟨by rw [QI,e];rfl,e⟩
theorem sH (h:p.length<=k):gI p k=0:=by
 unfold gI;rw [al,QS h];rfl
theorem Mg (p:List Int)(k:Nat):iW (p.take (k+1))=iW (p.take k)+(10000:Int) ^ k*gI p k:=by
 rcases Rh k p.length with h | h
 ·exact ER (G7 h).2
 rw [sH h,Rr h,Rr om_];simp
theorem FM (o:Int):(o-o % 10000).tdiv 10000=(o-o % 10000) / 10000:=Int.tdiv_eq_ediv_of_dvd (Int.dvd_of_emod_eq_zero om_)
theorem KN (C:Mem)(v:Value)(p:List Int)(g:Sl C 1 v (p.map mf))(F:0<=iW p)(H:∀ x∈p, -1000000000000<=x/\x<=1000000000000)(N:p.length<=100000):Pur cx.P 290 [v] C fun u D=>PieC D u (iW p).toNat:=by
 obtain ⟨k,c0,rfl,_⟩:=id g;simp only [aw] at g ⊢;refine Uv func290 43 U3 fun w0=>Ul 1 [0] Z<|Ul 1 [0,3] Z<|Ul 1 [0,3,4] Z<|Ul 1 [0,3,4,5] Z<|G.nilArr 3 1<|G.loop (fun fr C' b c=>∃ (i:Nat)(o:Int)(out:List Nat)(w:Value),(out.length=i/\DigP out/\-1000000000000<=o/\o<=1000000000000/\iW (p.take i)=(bM out:Nat)+(10000:Int) ^ i*o/\(p.length<=i->(i:Int)+o<=1000000100000))/\fr=[(0,[],.slice k p.length c0),(3,[],w),(4,[],.int .i64 o),(5,[],.int .i64 i)]/\b=[.arr w 3 1 i (out.map aL).flatten]/\c=(p.length-i)*4611686018427387904+o.natAbs) (hn_ [0,3,4,5] Z) ⟨0,0,[],_,⟨Z,(fun x I=>(by cases I)),by omega,by omega,by simp [iW,bM],fun h=>by omega⟩,Z,Z,Z⟩ (fun fr O Q m _ d=>?_);obtain ⟨i,o,out,w,⟨e,l,S,T,n,B⟩,rfl,rfl,rfl⟩:=d;have q:p.length<=i->0<=o:=fun h=>by
  refine JB e l (V:=iW p) F ?_;rw [<- n,Rr h]
 have U:(i:Int)<=1000000100000:=by
  rcases Rh i p.length with h | h
  ·omega
  have:=q h;have:=B h;omega
 refine Um 7 Z fun R a=>US U8<|Ur [0,3,4,5,14] a Z<|Uo (fun r=>?_) fun r=>?_
 ·have s:i<p.length∨o≠0:=by
   simp at r;omega
  have W:-1000000000000<=gI p i/\gI p i<=1000000000000:=by
   rcases Rh i p.length with h | h
   ·exact H _ (QF (G7 h).2)
   rw [sH h];omega
  refine Ul 4 [0,3,4,5,20] Z<|G.cut (fun fr C' b c=>(True)/\fr=[(0,[],.slice k p.length c0),(3,[],w),(4,[],.int .i64 (o+gI p i)),(5,[],.int .i64 i)]/\b=[.arr w 3 1 i (out.map aL).flatten]) ?_ (fun fr _ X c _ d=>?_)
  ·refine Uo (fun t=>?_) fun t=>?_
   ·have f:i<p.length:=by simpa using t
    refine Um 3 Z fun R a=>UD g.m_ U10 om_ (G7 f).1 fl_ fun Y J=>Un J U8<|Uw _ U7<|C4 1 [0,3,4,5] a Z<|UB 0 (Mem.le.refl _) (hn_ [0,3,4,5] Z) ⟨trivial,Z,Z⟩
   have f:p.length<=i:=by
    have:¬ i<p.length:=by simpa using t
    omega
   rw [show o=o+gI p i by rw [sH f,Int.add_zero]];refine UB 0 (Mem.le.refl _) (hn_ [0,3,4,5] Z) ⟨trivial,by rw [sH f];simp,Z⟩
  obtain ⟨_,rfl,rfl⟩:=d;refine Um 1 Z fun R a=>WN (Int.tmod (o+gI p i) 10000) Z Z Z Z Z Z om_ Z Z Z<|C4 1 [0,3,4,5,6] a Z ?_;have y:=Je (o+gI p i);have aa:-10000<=Int.tmod (o+gI p i) 10000/\Int.tmod (o+gI p i) 10000<10000:=by
   have:=T6 (o+gI p i) (show (10000:Int)≠0 by decide);have:=Int.emod_lt_of_pos (o+gI p i) (show (0:Int)<10000 by decide);split at y <;> omega
  refine Ul 2 [0,3,4,5,6,30] Z<|G.cut (fun fr C' b c=>(True)/\fr=[(0,[],.slice k p.length c0),(3,[],w),(4,[],.int .i64 (o+gI p i)),(5,[],.int .i64 i),(6,[],.int .i64 (((o+gI p i) % 10000).toNat:Nat))]/\b=[.arr w 3 1 i (out.map aL).flatten]) ?_ (fun fr _ ab c _ d=>?_)
  ·refine Uo (fun z=>?_) fun z=>?_
   ·have A:Int.tmod (o+gI p i) 10000<0:=by simpa using z
    rw [aJ A] at y;refine Um 1 Z fun R a=>UX (((((o+gI p i) % 10000).toNat:Nat):Int)) U4 om_ om_ om_ U2<|C4 1 [0,3,4,5,6] a Z<|UB 0 (Mem.le.refl _) (hn_ [0,3,4,5,6] Z) ⟨trivial,Z,Z⟩
   have A:¬ Int.tmod (o+gI p i) 10000<0:=by simpa using z
   rw [aB A] at y;rw [show Int.tmod (o+gI p i) 10000=((((o+gI p i) % 10000).toNat:Nat):Int) by omega];refine UB 0 (Mem.le.refl _) (hn_ [0,3,4,5,6] Z) ⟨trivial,Z,Z⟩
  obtain ⟨_,rfl,rfl⟩:=d;refine Um 2 Z fun R a=>UI [aL (((o+gI p i) % 10000).toNat)] U12 fun ac _ _ K=>D.append (j:=0) U11 K Z ax (by show (i+1)*8<=_;omega) fl_ fun E=>C4 1 [0,3,4,5,6] a Z<|Um 2 Z fun R a=>UX ((o+gI p i-(o+gI p i) % 10000)) U4 om_ om_ om_ U2<|VB ((o+gI p i-(o+gI p i) % 10000) / 10000) U6 om_ (FM _) (by rw [IntKind.wrap_i64];omega) U2<|C4 1 [0,3,4,5] a Z<|Um 1 Z fun R a=>Uw _ U7<|C4 1 [0,3,4,5] a Z ?_;have hm:(p.length-(i+1))*4611686018427387904+((o+gI p i-(o+gI p i) % 10000) / 10000).natAbs<(p.length-i)*4611686018427387904+o.natAbs:=by
   rcases Rh i p.length with h2 | h2
   ·omega
   have h3:=q h2;rw [sH h2];omega
  refine UE (L':=[.arr E 3 1 (i+1) ((out++[((o+gI p i) % 10000).toNat]).map aL).flatten]) (by simp [aL])<|UA (m':=(p.length-(i+1))*4611686018427387904+((o+gI p i-(o+gI p i) % 10000) / 10000).natAbs) om_ mup (hn_ [0,3,4,5] Z) ⟨i+1,(o+gI p i-(o+gI p i) % 10000) / 10000,out++[((o+gI p i) % 10000).toNat],E,⟨by simp [e],l.snoc (by show ((o+gI p i) % 10000).toNat<10000;omega),by omega,by omega,by
   refine HN e ?_;rw [Mg,n,TU];omega,fun h=>by
   rcases Rh i p.length with h2 | h2
   ·omega
   have h3:=q h2;have h4:=B h2;rw [sH h2] at *;omega⟩,rfl,rfl,rfl⟩
 have s:p.length<=i/\o=0:=by
  simp at r;omega
 refine UN [(1,3)] Z fun R a=>Up U6<|D.call (uQ _ _ out e) Z (.inr dc_) U6 (QL _) fl_ (fun ad _ ae _ L=>?_);obtain ⟨rfl,M⟩:=L;refine C4 1 [2] a Z<|Ut U2<|⟨Z,xv out,ml l, ?_,M⟩;rw [Rr s.1,s.2] at n;rw [iB];omega
theorem Ay:∀ (l:List Int)(i:Nat)(x:Int),i<l.length->iW (l.set i x)=iW l+(10000:Int) ^ i*(x-gI l i)
 | [],i,x,h=>by simp at h
 | a::l,0,x,_=>by
  show x+10000*iW l=a+10000*iW l+1*(x-a);omega
 | a::l,i+1,x,h=>by
  have b:=Ay l i x (by simpa using h);show a+10000*iW (l.set i x)=a+10000*iW l+(10000:Int) ^ (i+1)*(x-gI l i);rw [b,TU,<- Int.mul_assoc,Int.pow_succ,Int.mul_comm ((10000:Int) ^ i) 10000];omega
theorem EQ (l:List Int):iW (l++[0])=iW l:=by rw [vH];omega
structure Joins (p q:List Nat)(k:Int)(i:Nat)(o:List Int):Prop where
 len:o.length=max p.length i
 val:iW o=(bM p:Nat)+k*(bM (q.take i):Nat)
 rest:∀ j,i<=j->gI o j=(gP p j:Nat)
 lim:∀ x∈o, -100000000<=x/\x<=100000000
theorem Pn (p:List Nat)(j:Nat):gI (p.map fun x:Nat=>(x:Int)) j=(gP p j:Nat):=by
 unfold gI gP;rw [al,al,QI];cases p[j]? <;> rfl
theorem yN (p q:List Nat)(k:Int)(a:DigP p):Joins p q k 0 (p.map fun x:Nat=>(x:Int)):=by
 refine ⟨by simp,by rw [AA];simp [bM],fun j _=>Pn p j,fun x b=>?_⟩;obtain ⟨y,hy,rfl⟩:=QO.1 b;have:y<10000:=a y hy;omega
theorem Joins.zero {p:List Nat}{k:Int}(h:Joins p q k i o)(c:o.length<=i):iW (o++[0])=(bM p:Nat)+k*(bM (q.take i):Nat)/\(∀ j,i<=j->gI (o++[0]) j=(gP p j:Nat))/\(∀ x∈o++[0], -100000000<=x/\x<=100000000):=by
 refine ⟨by rw [EQ,h.val],fun j a=>?_,fun x b=>?_⟩
 ·have h1:=h.rest j a;have h2:gI o j=0:=by unfold gI;rw [al,QS om_];rfl
  rw [<- h1,h2];unfold gI;rw [al,Rf om_];cases j-o.length <;> rfl
 rcases QX.1 b with h1 | h1
 ·exact h.lim x h1
 simp at h1;subst h1;omega
theorem G6 {x:Int}(h:i≠j):gI (o.set i x) j=gI o j:=by
 unfold gI;rw [al,al,TC h]
theorem DH {p:List Nat}{k:Int}{y:Nat}(d:DigP p)(f:DigP q)(a:-9999<=k/\k<=9999)(b:q[i]?=some y)(g:o.length=max p.length (i+1))
  (h:iW o=(bM p:Nat)+k*(bM (q.take i):Nat)) (c:∀ j,i<=j->gI o j=(gP p j:Nat)) (l:∀ x∈o, -100000000<=x/\x<=100000000) :
  Joins p q k (i+1) (o.set i (gI o i+k*(y:Nat))):=by
 have n:y<10000:=f y (QF b);have r:gP p i<10000:=G5 d i;have s:-99980001<=k*(y:Int)/\k*(y:Int)<=99980001:=by
  have h0:(0:Int)<=y:=by omega
  have h1:k*(y:Int)<=9999*(y:Int):=S2 a.2 h0;have h2:(-9999:Int)*(y:Int)<=k*(y:Int):=S2 a.1 h0;omega
 refine ⟨by rw [RD];exact g, ?_,fun j t=>?_,fun x m=>?_⟩
 ·rw [Ay o i _ om_,h,iV b];have e:((bM (q.take i)+BP ^ i*y:Nat):Int)=(bM (q.take i):Nat)+(10000:Int) ^ i*(y:Int):=by
   rw [To,RG,Int.natCast_pow];rfl
  rw [e,TU,show gI o i+k*(y:Int)-gI o i=k*(y:Int) by omega,Int.mul_left_comm];omega
 ·rw [G6 om_];exact c j om_
 rcases SX m with h1 | h1
 ·exact l x h1
 subst h1;rw [c i (QG _)];omega
theorem BX (h:k<p.length):p[k]?=some (gI p k):=by
 unfold gI;rw [al,aj h];rfl
theorem nl (h:CO l)(a:bM l<BP ^ m):l.length<=m:=by
 apply Rp;intro b;have h1:=ve h om_;have h2:BP ^ m<=BP ^ (l.length-1):=Q6 dc_ om_;omega
theorem uK (x:Int):(mf x).length=1:=rfl
theorem fo (x:Nat):(aL x).length=1:=rfl
theorem HO (C:Mem)(v:Value)(p:List Int)(a:p.length=n)(b:0<=iW p)(c:∀ x∈p, -1000000000000<=x/\x<=1000000000000)(d:p.length<=100000):Jog.Fn cx.P 290 [v] C [.arr v 3 1 n (p.map mf).flatten] fun u C' e=>e=[]/\PieC C' u (iW p).toNat :=
 Jog.Fn.give (p.map mf) kr_ (by intro r hr;obtain ⟨y,_,rfl⟩:=QO.1 hr;rfl) (by rw [aw,a]) (fun C' _ hs=>KN C' v p hs b c d)
theorem xa (C:Mem)(I J:Value)(p q:List Nat)(k:Int)(V:Sl C 1 I (p.map aL))(d:Sl C 1 J (q.map aL))(K:DigP p)(L:DigP q)(f:-9999<=k/\k<=9999)(W:0<=(bM p:Int)+k*(bM q:Int))(ap:p.length<=50000)(aq:q.length<=50000) :
  Pur cx.P 263 [I,J,.int .i64 k,.int .i64 0] C fun u D=>PieC D u ((bM p:Int)+k*(bM q:Int)).toNat:=by
 obtain ⟨M,c0,rfl,_⟩:=id d;simp only [aw] at d ⊢;refine Uv func263 45 U3 fun w0=>Ul 1 [0,1,2,3] Z<|Uq fun R a=>Vy [] U12 fl_ fun ar=>Up U6<|D.append (j:=0) U11 V (by rw [Q4];intro r hr;obtain ⟨y,_,rfl⟩:=QO.1 hr;rfl) (by rw [aw];simp only [Rq,maxLen];omega) (by rw [aw];show (0+p.length)*8<=_;omega) fl_ fun X=>C4 1 [1,2,3,9] a Z<|Ul 1 [1,2,3,9,10] Z<|UE (L':=[.arr X 3 1 (p.map fun x:Nat=>(x:Int)).length (((p.map fun x:Nat=>(x:Int)).map mf).flatten)]) (by rw [Ry];simp;rfl)<|G.loop (fun fr C' c g=>∃ (i:Nat)(o:List Int)(w:Value),(i<=q.length/\Joins p q k i o)/\fr=[(1,[],.slice M q.length c0),(2,[],.int .i64 k),(3,[],.int .i64 0),(9,[],w),(10,[],.int .i64 i)]/\c=[.arr w 3 1 o.length (o.map mf).flatten]/\g=q.length-i) (hn_ [1,2,3,9,10] Z) ⟨0,_,_,⟨QK _,yN p q k K⟩,Z,Z,Z⟩ (fun fr au av m _ n=>?_);obtain ⟨i,o,w,⟨hi,b⟩,rfl,rfl,rfl⟩:=n;refine Ul 4 [1,2,3,9,10,17] Z<|Uo (fun z=>?_) fun z=>?_
 ·have A:i<q.length:=by simpa using z
  have ay:=b.len;refine G.loop (fun fr C' c g=>∃ (o2:List Int)(B:Value),((o2=o∨(o2=o++[0]/\o.length<=i)))/\fr=[(1,[],.slice M q.length c0),(2,[],.int .i64 k),(3,[],.int .i64 0),(9,[],B),(10,[],.int .i64 i)]/\c=[.arr B 3 1 o2.length (o2.map mf).flatten]/\g=i+1-o2.length) (hn_ [1,2,3,9,10] Z) ⟨o,w,.inl Z,Z,Z,Z⟩ (fun fr az aA m _ n=>?_);obtain ⟨o2,B,E,rfl,rfl,rfl⟩:=n;refine W8 0 Z (fun Y N he=>?_);subst he;have aB:o2.length<=50002:=by
   have h1:o2.length<=o.length+1:=by
    have h2:=E.imp (fun e=>congrArg List.length e) (fun e=>congrArg List.length e.1);rw [QM,aK] at h2;omega
   omega
  refine Um 4 Z fun R a=>UX (((i:Nat):Int)) U4 om_ om_ om_ U2<|C4 1 [1,2,3,9,10,25] a Z<|Uo (fun F=>?_) fun F=>?_
  ·have O:o2.length<=i:=by
    have:(o2.length:Int)<=i:=by simpa using F
    omega
   have aa:o2=o:=by
    refine E.elim id fun h=>?_;have:=h.1 ▸ O;rw [QM,aK] at this;omega
   subst aa;refine Um 1 Z fun R a=>UI [mf 0] U12 fun aC _ _ ab=>D.append (j:=0) U11 ab Z ax (by show (o2.length+1)*8<=_;omega) fl_ fun Q=>C4 1 [1,2,3,9,10] a Z<|UE (L':=[.arr Q 3 1 (o2++[0]).length ((o2++[0]).map mf).flatten]) (by simp [mf]) ?_;have aD:i+1-(o2++[0]).length<i+1-o2.length:=by rw [QM,aK];omega
   refine UA (m':=i+1-(o2++[0]).length) om_ mup (hn_ [1,2,3,9,10] Z) ⟨o2++[0],Q,.inr ⟨Z,O⟩,Z,Z,Z⟩
  have H:i<o2.length:=by
   have:¬ (o2.length:Int)<=i:=by simpa using F
   omega
  have ac:o2.length=max p.length (i+1)/\iW o2=(bM p:Nat)+k*(bM (q.take i):Nat)/\(∀ j,i<=j->gI o2 j=(gP p j:Nat))/\(∀ x∈o2, -100000000<=x/\x<=100000000):=by
   refine E.elim (fun h=>?_) fun h=>?_
   ·subst h;exact ⟨by omega,b.val,b.rest,b.lim⟩
   obtain ⟨h1,h2⟩:=h;subst h1;have h3:=b.zero h2;exact ⟨by rw [QM,aK];omega,h3⟩
  obtain ⟨ad,ae,ag,S⟩:=ac;obtain ⟨ai,aj⟩:=qo (l:=q) (k:=i) A;have aE:gP q i<10000:=G5 L i;have aF:-99980001<=k*((gP q i:Nat):Int)/\k*((gP q i:Nat):Int)<=99980001:=by
   have h0:(0:Int)<=((gP q i:Nat):Int):=by omega
   have h1:k*((gP q i:Nat):Int)<=9999*((gP q i:Nat):Int):=S2 f.2 h0;have h2:(-9999:Int)*((gP q i:Nat):Int)<=k*((gP q i:Nat):Int):=S2 f.1 h0;omega
  have aG:=S _ (QF (BX H));refine Wv 0 (m:=o2.length-1) (v:=.slice Y o2.length N) (t:=3) (s:=1) (xs:=(o2.map mf).flatten) (by rw [show o2.length-1+1=o2.length by omega];rfl) (fun g0 cc ak=>?_);injection ak with al aH am;subst al am;refine UJ [0,1,2,3,4,5,6,7,8,9,10,11,12,13,14] [] Z kr_ fun R hB a=>Us 3 Z<|UX (((i:Nat):Int)) U4 om_ om_ om_ U2<|UR (i*1) U10 ah U2<|Va af U6 (fun _=>(by rw [cP uK (BX H)];rfl)) U2<|Us 3 Z<|UD d.m_ U10 om_ ai fl_ fun aI an=>Un an U8<|Uw _ U7<|Uw _ U7<|UR (i*1) U10 ah U2<|UW (j:=0) U11 (by show i*1+1<=_;rw [bO uK];omega)<|Ur [1,2,3,9,10] a Z<|Um 1 Z fun R a=>Uw _ U7<|C4 1 [1,2,3,9,10] a Z<|UE (L':=[.arr (.slice (some ⟨g0,0,none⟩) o2.length N) 3 1 (o2.set i (gI o2 i+k*((gP q i:Nat):Int))).length ((o2.set i (gI o2 i+k*((gP q i:Nat):Int))).map mf).flatten]) (by rw [<- bK uK _ H,RD];rfl)<|UA (m':=q.length-(i+1)) om_ mup (hn_ [1,2,3,9,10] Z) ⟨i+1,_,_,⟨by omega,DH K L f aj ad ae ag S⟩,Z,Z,Z⟩
 have A:i=q.length:=by
  have:¬ i<q.length:=by simpa using z
  omega
 have T:iW o=(bM p:Int)+k*(bM q:Int):=by rw [b.val,A,QV]
 refine UN [(1,3)] Z fun R a=>Up U6<|D.call (HO _ _ o Z (by rw [T];exact W) (fun x hx=>by have:=b.lim x hx;omega) (by have:=b.len;omega)) Z (.inr dc_) U6 (QL _) fl_ (fun aJ _ aM _ ao=>?_);obtain ⟨rfl,U⟩:=ao;refine C4 1 [8] a Z<|Ut U2 ?_;rw [T] at U;exact ⟨Z,U⟩
theorem Om (n:Nat):fq ([.int .i64 0]:List Value) n=((List.replicate n 0).map aL).flatten:=by
 rw [de,Tp];rfl
theorem vG (h:j<l.length):bM (l.drop j)=gP l j+BP*bM (l.drop (j+1)):=by
 rw [Re h,(aE.1 (qo h).2).2];rfl
theorem tP (h:j<l.length):bM ((l.set j x).drop j)=x+BP*bM (l.drop (j+1)):=by
 rw [vG (by rw [RD];exact h),List.drop_set_of_lt om_];congr 1;unfold gP;rw [al,Tt h];rfl
theorem Kr (h:DigP l)(a:x<BP):DigP (l.set j x):=fun y hy=>by
 rcases SX hy with h1 | h1
 ·exact h y h1
 rw [h1];exact a
theorem Bx (C:Mem)(O Q:Value)(p q:List Nat)(v:Sl C 1 O (p.map aL))(g:Sl C 1 Q (q.map aL))(ai:DigP p)(w:CO q)(i:0<bM q)(aG:p.length<=10000)(aH:q.length<=10000) :
  Pur cx.P 261 [O,Q] C fun u D=>∃ u1 S,u=.tuple #[u1,S]/\PieC D u1 (bM p / bM q)/\PieC D S (bM p % bM q):=by
 obtain ⟨T,c0,rfl,_⟩:=id v;obtain ⟨U,V,rfl,_⟩:=id g;simp only [aw] at v g ⊢;refine Uv func261 58 U3 fun w0=>Ul 2 [0,1] Z<|Um 2 Z fun R b=>Vo U9 (QG _) (by show 8*p.length<=281474976710656;omega) (by simp only [maxLen];omega) fl_ fun d=>C4 1 [0,1,6] b Z<|Ul 1 [0,1,6,7] Z<|Um 2 Z fun R b=>Uw _ U7<|C4 1 [0,1,6,7,8] b Z<|UE (L':=[.arr (qW d p.length p.length) 3 1 p.length ((List.replicate p.length 0).map aL).flatten]) (by rw [<- Om];rfl)<|G.loop (fun fr C' e z=>∃ (k:Nat)(o l:List Nat)(A:Value),(k<=p.length/\o.length=p.length/\DigP o/\bM (o.drop k)=bM (p.drop k) / bM q/\Sl C' 1 A (l.map aL)/\CO l/\bM l=bM (p.drop k) % bM q)/\fr=[(0,[],.slice T p.length c0),(1,[],.slice U q.length V),(6,[],qW d p.length p.length),(7,[],A),(8,[],.int .i64 ((k:Int)-1))]/\e=[.arr (qW d p.length p.length) 3 1 p.length (o.map aL).flatten]/\z=k+1) (hn_ [0,1,6,7,8] Z) ⟨p.length,List.replicate p.length 0,[],.slice none 0 0,⟨QG _,Sc,(fun x c=>by rw [Ss c];decide),by rw [RW,Tu am];simp [bM],Sl.nil _ _,⟨fun x c=>(by cases c),by simp⟩,by rw [RW];simp [bM]⟩,Z,Z,Z⟩ (fun fr aI aJ m _ B=>?_);obtain ⟨k,o,l,A,⟨hk,W,X,Y,hs,E,F⟩,rfl,rfl,rfl⟩:=B;refine Ul 2 [0,1,6,7,8,19] Z<|Uo (fun H=>?_) fun H=>?_
 ·have aa:0<k:=by
   have:(0:Int)<=(k:Int)-1:=by simpa using H
   omega
  obtain ⟨j,rfl⟩:∃ j,k=j+1:=⟨k-1,by omega⟩;rw [show ((j+1:Nat):Int)-1=(j:Int) by omega];obtain ⟨aj,aM⟩:=qo (l:=p) (k:=j) om_;have c:gP p j<BP:=G5 ai j;have aN:gP p j<10000:=c;have aO:l.length<=q.length:=nl E (by rw [F];exact S1 (Rs _ i) (mJ w.1));have ak:DigP (gP p j::l):=fun y hy=>by
   rcases QU.1 hy with h | h
   ·rw [h];exact c
   exact E.1 y h
  refine UN [(7,3)] Z fun R b=>Us 2 Z<|UD v.m_ U10 om_ aj fl_ fun aP al=>Un al U8<|Vy [aL (gP p j)] U12 fl_ fun aQ=>Up U6<|D.append (j:=0) U11 hs.m_ (by rw [Q4];intro r hr;obtain ⟨y,_,rfl⟩:=QO.1 hr;rfl) (by rw [aw];simp only [aK,maxLen];omega) (by rw [aw];show (1+l.length)*8<=_;omega) fl_ fun aR=>D.call (uQ _ _ (gP p j::l) (n:=1+(l.map aL).length) (by rw [aw];simp;omega)) Z (.inr dc_) U6 (QL _) fl_ (fun ab an aS _ ao=>?_);obtain ⟨rfl,I⟩:=ao;refine C4 1 [0,1,6,7,8] b Z ?_;obtain ⟨r,ac,J,ad,aT⟩:∃ r,CO r/\bM r=gP p j+BP*(bM (p.drop (j+1)) % bM q)/\Sl an 1 ab (r.map aL)/\r.length<=20000:=⟨xv (gP p j::l),ml ak,by rw [iB];show gP p j+BP*bM l=_;rw [F],I,by unfold xv;rw [QW,QY];omega⟩;have K:=Hk (t:=bM (p.drop (j+1))) (x:=gP p j) i;rw [<- vG om_,<- J] at K;have ap:bM r / bM q<BP:=by rw [J];exact xr i c
  have aU:bM r / bM q<10000:=ap;refine Ul 2 [0,1,6,7,8,9,10] Z<|G.loop (fun fr C' e z=>∃ (low a:Nat),(low<=bM r / bM q/\bM r / bM q<=a/\a<=9999)/\fr=[(0,[],.slice T p.length c0),(1,[],.slice U q.length V),(6,[],qW d p.length p.length),(7,[],ab),(8,[],.int .i64 j),(9,[],.int .i64 low),(10,[],.int .i64 a)]/\e=[.arr (qW d p.length p.length) 3 1 p.length (o.map aL).flatten]/\z=a-low) (hn_ [0,1,6,7,8,9,10] Z) ⟨0,9999,⟨QK _,by omega,QG _⟩,Z,Z,Z⟩ (fun fr aV aW m _ B=>?_);obtain ⟨low,a,⟨aq,ar,au⟩,rfl,rfl,rfl⟩:=B;refine Ul 3 [0,1,6,7,8,9,10,32] Z<|Uo (fun L=>?_) fun L=>?_
  ·have s:low<a:=by simpa using L
   obtain ⟨av,ax⟩:=Nw i aq ar s;refine Um 2 Z fun R b=>Uw _ U7<|Uw _ U7<|VB ((((low+a+1) / 2:Nat):Int)) U6 om_ (by rw [Th om_];omega) (by rw [IntKind.wrap_i64];omega) U2<|C4 1 [0,1,6,7,8,9,10,11] b Z<|Um 3 Z fun R b=>UT (xa _ _ _ [] q ((((low+a+1) / 2:Nat):Int)) (Sl.nil _ _) g.m_ (fun x c=>(by cases c)) w.1 om_ (by rw [<- RG];omega) am om_) U7 fl_ (fun aX _ _ ay=>?_);obtain ⟨l2,az,aA,aB⟩:=ay;have ae:bM l2=bM q*((low+a+1) / 2):=by
    have h0:((bM ([]:List Nat):Nat):Int)=0:=rfl;rw [aA,h0,Int.zero_add,<- RG,Sv,Rw]
   refine Uy (Jz _ _ _ r l2 ad.m_ aB.m_ ac az) U7<|Ur [0,1,6,7,8,9,10,11,42] b Z<|Uo (fun M=>?_) fun M=>?_
   ·have N:bM r<bM q*((low+a+1) / 2):=by
     rw [<- ae];simpa using M
    have f:=av N;refine Um 1 Z fun R b=>Uw _ U7<|C4 1 [0,1,6,7,8,9,10] b Z ?_;rw [show ((((low+a+1) / 2:Nat):Int))-1=(((low+a+1) / 2-1:Nat):Int) by omega];refine UA (m':=(low+a+1) / 2-1-low) om_ mup (hn_ [0,1,6,7,8,9,10] Z) ⟨low,(low+a+1) / 2-1,⟨f.1,f.2,by omega⟩,Z,Z,Z⟩
   have N:¬ bM r<bM q*((low+a+1) / 2):=by
    rw [<- ae];simpa using M
   have f:=ax N;refine Ul 2 [0,1,6,7,8,9,10] Z<|UA (m':=a-(low+a+1) / 2) om_ mup (hn_ [0,1,6,7,8,9,10] Z) ⟨(low+a+1) / 2,a,⟨f.1,f.2,au⟩,Z,Z,Z⟩
  have s:low=bM r / bM q:=by
   have:¬ low<a:=by simpa using L
   omega
  have af:((bM r:Nat):Int) + -(low:Int)*((bM q:Nat):Int)=((bM r % bM q:Nat):Int):=by
   have h1:=TG (bM r) (bM q);rw [<- s] at h1;have h2:((bM q*low+bM r % bM q:Nat):Int)=(bM r:Nat):=by rw [h1]
   rw [To,RG] at h2;rw [Int.neg_mul,Int.mul_comm (low:Int)];omega
  refine Um 3 Z fun R b=>UR (j*1) U10 ah U2<|UW (j:=0) U11 (by show j*1+1<=_;rw [bO fo];omega)<|Ur [0,1,6,7,8,9] b Z<|Um 4 Z fun R b=>?_;rw [show IntKind.i64.wrap (0-(low:Int))=-(low:Int) by rw [IntKind.wrap_i64];omega];refine UT (xa _ _ _ r q (-(low:Int)) ad.m_ g.m_ ac.1 w.1 om_ (by rw [af];omega) om_ om_) U7 fl_ (fun aY _ _ aC=>?_);obtain ⟨l3,aD,ag,aE⟩:=aC;rw [af,Sv] at ag;refine C4 1 [0,1,6,7,8] b Z<|Um 1 Z fun R b=>Uw _ U7<|C4 1 [0,1,6,7,8] b Z<|UE (L':=[.arr (qW d p.length p.length) 3 1 p.length ((o.set j low).map aL).flatten]) (by rw [<- bK fo _ (by omega:j<o.length)];rfl)<|UA (m':=j+1) om_ mup (hn_ [0,1,6,7,8] Z) ⟨j,o.set j low,l3,_,⟨by omega,by rw [RD];exact W,Kr X (by show low<BP;omega),by rw [tP om_,Y,K.1,s];omega,aE.mono mup,aD,by rw [ag,K.2,J]⟩,Z,Z,Z⟩
 have aa:k=0:=by
  have:¬ (0:Int)<=(k:Int)-1:=by simpa using H
  omega
 subst aa;refine UN [(1,3)] Z fun R b=>Up U6<|D.call (uQ _ _ o W) Z (.inr dc_) U6 (QL _) fl_ (fun aZ _ a0 _ aF=>?_);obtain ⟨rfl,I⟩:=aF;refine C4 3 [4,5] b Z<|Uz (G.dropAll (UO U3 ?_));exact ⟨Z,_,_,Z,⟨xv o,ml X,by rw [iB,<- RQ (l:=o),Y,RQ],I⟩,⟨l,E,by rw [F,RQ],hs.mono mup⟩⟩
theorem dH (z:Int):cM 45 (txt z)=(bq z.natAbs,decide (z<0)):=by
 unfold txt;split
 ·rename_i h;rw [QZ h];rfl
 rename_i h;rw [Q8 h];unfold cM;rw [aB];intro h0;have h1:=(bH z.natAbs).1.1 45 (List.mem_of_mem_head? h0);revert h1;decide
theorem AF (z:Int):txt z=[48] ↔ z=0:=by
 constructor
 ·intro h;have h1:(cM 45 (txt z)).1=[48]:=by rw [h];rfl
  rw [dH] at h1;have h2:=(bH z.natAbs).2;have h3:bq z.natAbs=[48]:=h1;rw [h3] at h2;have h4:bX [48]=0:=rfl;omega
 rintro rfl;unfold txt;rw [aB om_,show bq (0:Int).natAbs=bq 0 from rfl,bq];rfl
theorem lD (z:Int):((⟨(txt z).toArray⟩:ByteArray).data.toList == (⟨#[48]⟩:ByteArray).data.toList)=decide (z=0):=by
 show (txt z == [48])=_;rw [Pr,Rv];exact AF z
theorem df (n:Nat):txt (n:Int)=bq n:=by
 unfold txt;rw [aB om_];rfl
theorem fC (C:Mem)(z:Int):Gives cx.P 258 [ai (txt z)] C (.tuple #[.bool (decide (z<0)),ai (bq z.natAbs)]):=by
 have h:=split_fn C (txt z)
 rwa [dH] at h
theorem Hu {c:UInt8}(h:s[i]?=some c):bX (s.take (i+1))=10*bX (s.take i)+(c.toNat-48):=by
 rw [Hv h];omega
theorem xu (a:∀ c∈s,eO c=true)(d:s.length<=17)(i:Nat):bX (s.take i)<100000000000000000:=by
 have h1:=dW (s:=s.take i) (fun c b=>a c (RZ b));have h2:10 ^ (s.take i).length<=10 ^ 17:=Q6 dc_ (by rw [QW];omega);omega
theorem IV (C:Mem)(z:Int)(b:(bq z.natAbs).length<=17):Gives cx.P 287 [ai (txt z)] C (.tuple #[.int .i64 z,.bool true]):=by
 obtain ⟨s,k⟩:∃ s,bq z.natAbs=s:=⟨_,rfl⟩;have hs:=(bH z.natAbs).1.1;have d:=(bH z.natAbs).2;rw [k] at b hs d;refine Uv func287 45 U3 fun w0=>Ul 2 [0] Z<|Um 1 Z fun R a=>UC (by have h:=fC C z;rw [k] at h;exact h) U7 fl_<|C4 5 [4,5] a Z<|Ul 3 [4,5,16] Z<|Uo (fun l=>?_) fun l=>?_
 ·exfalso;have:(s.length:Int) > 19:=by simpa using l
  omega
 refine Ul 1 [4,5,6] Z<|Ul 1 [4,5,6,7] Z<|G.loop (fun fr C' p q=>∃ (i:Nat),(i<=s.length)/\fr=[(4,[],.bool (decide (z<0))),(5,[],ai s),(6,[],.int .i64 (-((bX (s.take i):Nat):Int))),(7,[],.int .i64 i)]/\p=[]/\q=s.length-i) (hn_ [4,5,6,7] Z) ⟨0,QK _,Z,Z,Z⟩ (fun fr w x m _ r=>?_);obtain ⟨i,y,rfl,rfl,rfl⟩:=r;refine Ul 4 [4,5,6,7,20] Z<|Uo (fun e=>?_) fun e=>?_
 ·have f:i<s.length:=by simpa using e
  obtain ⟨c,g⟩:∃ c,s[i]?=some c:=⟨s[i],aj f⟩;have t:=hs c (QF g);have A:48<=c.toNat/\c.toNat<=57:=by simpa [eO] using t
  have B:=xu hs b i;have u:(-9223372036854775808+(((c.toNat:Nat):Int)-48)).tdiv 10=-((9223372036854775808-(((c.toNat:Nat):Int)-48)) / 10):=by
   rw [show (-9223372036854775808+(((c.toNat:Nat):Int)-48))=-(9223372036854775808-(((c.toNat:Nat):Int)-48)) by omega,Int.neg_tdiv,Th om_]
  refine Um 2 Z fun R a=>Vj U8 (fun _=>⟨by omega,g⟩) U2<|Vb (c:=((c.toNat:Nat):Int)) U8 (by rw [IntKind.wrap_i64];omega) fl_<|Uw _ U7<|C4 1 [4,5,6,7,8] a Z<|Um 2 Z fun R a=>Uw _ U7<|VB (-((9223372036854775808-(((c.toNat:Nat):Int)-48)) / 10)) U6 om_ u (by rw [IntKind.wrap_i64];omega) U2<|C4 1 [4,5,6,7,8,32] a Z<|Uo (fun n=>?_) fun n=>?_
  ·exfalso;simp only [QQ] at n;omega
  refine Um 1 Z fun R a=>Uw _ U7<|Up U6<|Uw _ U7<|C4 1 [4,5,6,7] a Z<|Um 1 Z fun R a=>Uw _ U7<|C4 1 [4,5,6,7] a Z ?_;rw [show 10 * -((bX (s.take i):Nat):Int)-(((c.toNat:Nat):Int)-48)=-((bX (s.take (i+1)):Nat):Int) by rw [Hu g];omega];refine UA (m':=s.length-(i+1)) om_ mup (hn_ [4,5,6,7] Z) ⟨i+1,om_,Z,Z,Z⟩
 have f:i=s.length:=by
  have:¬ i<s.length:=by simpa using e
  omega
 rw [f,QV,d];refine Ul 2 [6,37] Z<|Uo (fun j=>?_) fun j=>?_
 ·have v:z<0:=by simpa using j
  refine Ul 3 [2,3] Z<|Uz (G.dropAll (UO U3 ?_));refine ⟨?_,Z⟩;rw [show -((z.natAbs:Nat):Int)=z by omega]
 have v:¬ z<0:=by simpa using j
 have D:z.natAbs<100000000000000000:=by
  have:=xu hs b s.length
  rwa [QV,d] at this
 refine Ul 3 [6,40] Z<|Uo (fun o=>?_) fun o=>?_
 ·exfalso;simp at o;omega
 refine Ul 4 [2,3] Z<|Uz (G.dropAll (UO U3 ?_));refine ⟨?_,Z⟩;rw [show IntKind.i64.wrap (0 - -((z.natAbs:Nat):Int))=z by rw [IntKind.wrap_i64];omega]
theorem CA (C:Mem)(z:Int):Gives cx.P 260 [ai (txt z)] C (.tuple #[.int .i64 (if (bq z.natAbs).length<=17 then z else 0),.bool (decide ((bq z.natAbs).length<=17))]):=by
 refine Uv func260 18 U3 fun w0=>Ul 2 [0] Z<|Um 1 Z fun R b=>Uy (fC C z) U7<|C4 5 [0,5] b Z<|Ul 3 [0,13] Z<|Uo (fun c=>?_) fun c=>?_
 ·have a:¬ (bq z.natAbs).length<=17:=by
   have:((bq z.natAbs).length:Int) > 17:=by simpa using c
   omega
  refine Ul 2 [2,3] Z<|Uz (G.dropAll (UO U3 ?_));rw [aB a,Q8 a];exact ⟨Z,Z⟩
 have a:(bq z.natAbs).length<=17:=by
  have:¬ ((bq z.natAbs).length:Int) > 17:=by simpa using c
  omega
 refine Um 1 Z fun R b=>Uy (IV _ z a) U7<|C4 4 [2,3] b Z<|Uz (G.dropAll (UO U3 ?_));rw [aJ a,QZ a];exact ⟨Z,Z⟩
theorem lM (C:Mem)(a:Tabs C)(z:Int)(b:-9223372036854775808<=z)(c:z<=9223372036854775807):Gives cx.P 148 [.int .i64 z] C (ai (txt z)):=by
 exact Uv func148 5 U3 fun w0=>Ul 1 [0] Z<|Um 1 Z fun R d=>Uy (jv _ a z b c) U7<|C4 1 [2] d Z<|Ut U2<|⟨Z,Z⟩
theorem yr (C:Mem)(z:Int):Gives cx.P 221 [ai (txt z)] C (.int .i64 (if z<0 then -1 else if z=0 then 0 else 1)):=by
 refine Uv func221 13 U3 fun w0=>Ul 1 [0] Z<|Um 1 Z fun R e=>Uy (fC C z) U7<|C4 5 [0,3] e Z<|Ul 1 [0,10] Z<|Uo (fun b=>?_) fun b=>?_
 ·have c:z<0:=by simpa using b
  refine Ul 1 [2] Z<|Ut U2 ?_;rw [aJ c];exact ⟨Z,Z⟩
 have c:¬ z<0:=by simpa using b
 rw [aB c];refine Ul 2 [12] Z<|Uo (fun a=>?_) fun a=>?_
 ·rw [lD] at a;have d:z=0:=by simpa using a
  refine Ul 1 [2] Z<|Ut U2 ?_;rw [aJ d];exact ⟨Z,Z⟩
 rw [lD] at a;have d:¬ z=0:=by simpa using a
 refine Ul 1 [2] Z<|Ut U2 ?_;rw [aB d];exact ⟨Z,Z⟩
theorem sq (C:Mem)(z:Int)(d:(bq z.natAbs).length<=1000000):Gives cx.P 222 [ai (txt z)] C (ai (txt (-z))):=by
 refine Uv func222 18 U3 fun w0=>Ul 1 [0] Z<|Um 1 Z fun R a=>Uy (fC C z) U7<|C4 5 [0,3,4] a Z<|Um 4 Z fun R a=>US U8<|Ur [4,14] a Z<|Uo (fun b=>?_) fun b=>?_
 ·rw [lD] at b;have c:z<=0:=by simp at b;omega
  refine Ul 2 [2] Z<|Ut U2<|⟨?_,Z⟩;rw [show txt (-z)=bq z.natAbs by rw [show -z=((z.natAbs:Nat):Int) by omega,df]]
 rw [lD] at b;have c:0<z:=by simp at b;omega
 refine Um 1 Z fun R a=>Vm U6 (fun _=>(by simp only [QY,Rq];omega)) U2<|C4 1 [2] a Z<|Ut U2<|⟨?_,Z⟩;rw [show txt (-z)=45::bq z.natAbs by unfold txt;rw [aJ om_];congr 2;omega];rfl
theorem tt (C:Mem)(z:Int):Gives cx.P 259 [ai (txt z)] C (ai (bq z.natAbs)):=by
 exact Uv func259 11 U3 fun w0=>Ul 1 [0] Z<|Um 1 Z fun R a=>Uy (fC C z) U7<|C4 5 [4] a Z<|Ul 2 [2] Z<|Ut U2<|⟨Z,Z⟩
theorem QH:BP ^ 200=10 ^ 800:=by decide +kernel
theorem gV (h:n<BP ^ 200):(bq n).length<=800:=eI (by rw [<- QH];exact h) om_
theorem PieC.take {D:Mem}{u:Value}(h:PieC D u n)(a:n<BP ^ 201):∃ l,CO l/\bM l=n/\l.length<=201/\Sl D 1 u (l.map aL):=by
 obtain ⟨l,h1,h2,h3⟩:=h;exact ⟨l,h1,h2,nl h1 (by rw [h2];exact a),h3⟩
theorem nS (C:Mem)(n:Nat)(h:n<BP ^ 200):Pur cx.P 262 [ai (bq n)] C fun u D=>∃ l,CO l/\bM l=n/\l.length<=200/\Sl D 1 u (l.map aL) :=
 (Mq C (bq n) (bH n).1.1 (by have:=gV h;omega)).mono fun u D _ _ ⟨h0,l,h1,h2,h3⟩=>⟨h0,l,h1,by rw [h2,(bH n).2],nl h1 (by rw [h2,(bH n).2];exact h),h3⟩
theorem PR:BP ^ 200+BP ^ 200<BP ^ 201:=by decide +kernel
theorem Cv (h:(bq z.natAbs).length<=17):z.natAbs<100000000000000000:=by
 have h1:=dW (bH z.natAbs).1.1;rw [(bH z.natAbs).2] at h1;have h2:10 ^ (bq z.natAbs).length<=10 ^ 17:=Q6 dc_ h;omega
theorem Mz (h:decide (z<0)=decide (w<0)):sgZ (decide (z<0)) (z.natAbs+w.natAbs)=z+w:=by
 rw [Rv] at h;unfold sgZ;by_cases a:z<0
 ·have:=h.1 a;rw [QZ a,aJ rfl];omega
 have:¬ w<0:=fun h1=>a (h.2 h1);rw [Q8 a,aB am];omega
theorem MA (h:decide (z<0)≠decide (w<0))(b:¬ z.natAbs<w.natAbs):sgZ (decide (z<0)) (z.natAbs-w.natAbs)=z+w:=by
 rw [ne_eq,Rv] at h;unfold sgZ;by_cases a:z<0
 ·have:¬ w<0:=fun h1=>h ⟨fun _=>h1,fun _=>a⟩;rw [QZ a,aJ rfl];omega
 have:w<0:=Rp fun h1=>h ⟨fun h2=>absurd h2 a,fun h2=>absurd h2 h1⟩;rw [Q8 a,aB am];omega
theorem oV (C:Mem)(n:Nat):Gives cx.P 258 [ai (bq n)] C (.tuple #[.bool false,ai (bq n)]):=by
 have h:=fC C (n:Int);rw [df,Q8 om_] at h;exact h
theorem qO (C:Mem)(n:Nat):Gives cx.P 260 [ai (bq n)] C (.tuple #[.int .i64 (if (bq n).length<=17 then (n:Int) else 0),.bool (decide ((bq n).length<=17))]):=by
 have h:=CA C (n:Int);rw [df] at h;exact h
theorem qP (h:(bq n).length<=17):n<100000000000000000:=Cv (z:=(n:Int)) h
theorem Ge (C:Mem)(a:Tabs C)(n:Nat)(h:n<=9223372036854775807):Gives cx.P 148 [.int .i64 n] C (ai (bq n)):=by
 have h:=lM C a (n:Int) om_ om_
 rwa [df] at h
theorem uv (C:Mem)(a:Tabs C)(v:Value)(l:List Nat)(b:Sl C 1 v (l.map aL))(c:DigP l)(d:l.length<=100000):Gives cx.P 264 [.bool false,v] C (ai (bq (bM l))):=by
 have h:=Gx C a false v l b c d;rw [show sgZ false (bM l)=((bM l:Nat):Int) from rfl,df] at h;exact h
theorem P0 {q:Nat}(h:q<=9223372036854775807):IntKind.i64.wrap ((q:Nat):Int)=(q:Nat):=by rw [IntKind.wrap_i64];omega
theorem mg (C:Mem)(d:Tabs C)(a b:Nat)(l:a<BP ^ 200)(m:b<BP ^ 200)(e:0<b):Gives cx.P 224 [ai (bq a),ai (bq b)] C (.tuple #[ai (bq (a / b)),ai (bq (a % b))]):=by
 have D:=PR;refine Uv func224 93 U3 fun w0=>Ul 2 [0,1] Z<|Um 1 Z fun R c=>Uy (qO C a) U7<|C4 5 [0,1,6,7] c Z<|Um 1 Z fun R c=>Uy (qO _ b) U7<|C4 5 [0,1,6,7,8,9] c Z<|Um 3 Z fun R c=>UM U8<|Ur [0,1,6,8,31] c Z<|Uo (fun f=>?_) fun f=>?_
 ·have hs:(bq a).length<=17/\(bq b).length<=17:=by simpa using f
  have h1:=qP hs.1;have h2:=qP hs.2;rw [aJ hs.1,aJ hs.2];have h0:=RM a b;refine UJ [0,1,2,3,4,5,6,7] [] Z kr_ fun R E c=>Us 2 Z<|VB (((a / b:Nat):Int)) U6 om_ (by rw [Th om_];rfl) (P0 om_) U2<|Us 2 Z<|Vq U6 om_ om_ U2<|C4 2 [6,8,10,11] c Z<|Ul 2 [6,8,10,11,39] Z<|Uo (fun g=>?_) fun g=>?_
  ·exfalso;have h3:=T6 (a:Int) (show (b:Int)≠0 by omega);simp only [QQ] at g;omega
  rw [<- Int.natCast_emod];have h3:=RM a b;have h4:=Rs a e;refine Um 1 Z fun R c=>UC (Ge _ d (a / b) om_) U7 fl_<|Up U6<|UC (Ge _ d (a % b) om_) U7 fl_<|C4 2 [4,5] c Z<|Uz (G.dropAll (UO U3 ?_));exact ⟨Z,Z⟩
 refine Um 1 Z fun R c=>Uy (oV _ a) U7<|C4 5 [1,12,13] c Z<|Um 1 Z fun R c=>Uy (oV _ b) U7<|C4 5 [12,13,14,15] c Z<|Um 1 Z fun R c=>UV (nS _ a l) U7 (fun F _ _ n=>?_);obtain ⟨lp,o,p,H,q⟩:=n;refine Up U6<|UV (nS _ b m) U7 (fun I _ _ r=>?_);obtain ⟨s,t,u,J,v⟩:=r;refine UT (Bx _ _ _ lp s q.m_ v.m_ o.1 t om_ om_ om_) U7 fl_ (fun K _ _ w=>?_);obtain ⟨u1,L,rfl,h,i⟩:=w;rw [p,u] at h i;obtain ⟨l1,x,y,M,z⟩:=PieC.take h (by have:=RM a b;omega);obtain ⟨l2,A,B,N,j⟩:=PieC.take i (by have:=Rs a e;omega);obtain ⟨A2,c2,rfl,_⟩:=id j;refine C4 5 [12,14,15,16,17] c Z<|Um 5 Z fun R c=>UM U8<|Ur [12,14,15,16,17,78] c Z<|Uo (fun k=>?_) fun k=>?_
 ·exfalso;simp at k
 refine Um 4 Z fun R c=>UC (uv _ d.m_ _ l1 z.m_ x.1 om_) U7 fl_<|Up U6<|UC (uv _ d.m_ _ l2 j.m_ A.1 om_) U7 fl_<|C4 2 [4,5] c Z<|Uz (G.dropAll (UO U3 ?_));rw [y,B];exact ⟨Z,Z⟩
theorem LS (n:Nat):((⟨(bq n).toArray⟩:ByteArray).data.toList == (⟨#[48]⟩:ByteArray).data.toList)=decide (n=0):=by
 have h:=lD (n:Int);rw [df] at h;rw [h,Rv];omega
theorem DR (C:Mem)(h:Tabs C)(z w:Int)(i:z.natAbs<BP ^ 200)(j:w.natAbs<BP ^ 200):Gives cx.P 223 [ai (txt z),ai (txt w)] C (ai (bq (Nat.gcd z.natAbs w.natAbs))):=by
 refine Uv func223 22 U3 fun w0=>Ul 1 [0,1] Z<|Um 1 Z fun R e=>Uy (tt _ z) U7<|Up U6<|Uy (tt _ w) U7<|C4 2 [0,1] e Z<|G.loop (fun fr C' k l=>∃ (a b:Nat),(a<BP ^ 200/\b<BP ^ 200/\Nat.gcd a b=Nat.gcd z.natAbs w.natAbs)/\fr=[(0,[],ai (bq a)),(1,[],ai (bq b))]/\k=[]/\l=b+1) (hn_ [0,1] Z) ⟨z.natAbs,w.natAbs,⟨i,j,Z⟩,Z,Z,Z⟩ (fun fr p q m _ n=>?_);obtain ⟨a,b,⟨o,f,g⟩,rfl,rfl,rfl⟩:=n;refine Ul 2 [0,1,12] Z<|Uo (fun c=>?_) fun c=>?_
 ·have d:0<b:=by
   rw [LS] at c;have:b≠0:=by simpa using c
   omega
  have r:=Rs a d;refine Um 2 Z fun R e=>Uy (mg _ h.m_ a b o f d) U7<|C4 5 [1,6] e Z<|Ul 4 [0,1] Z<|UA (m':=a % b+1) om_ mup (hn_ [0,1] Z) ⟨b,a % b,⟨f,by omega,by rw [<- g,Pq a b d]⟩,Z,Z,Z⟩
 have d:b=0:=by
  rw [LS] at c;simpa using c
 refine Ul 2 [4] Z<|Ut U2<|⟨?_,Z⟩;rw [<- g,d,Tq]
def iQ (s:Str):Int:=sgZ (cM 45 s).2 (bX (cM 45 s).1)
theorem xJ {t:Str}(h:vA t):t.head?=some 48 ↔ bX t=0:=by
 constructor
 ·intro h0;have h1:=h.2.2 h0;cases t with
  | nil=>cases h0
  | cons b t =>
   have a:b=48:=by simpa using h0
   have d:t=[]:=by cases t with
    | nil=>rfl
    | cons c t=>simp at h1
   subst a d;rfl
 intro h0;have:=qN h (bH 0).1 (by rw [h0,(bH 0).2]);rw [this,bq];rfl
theorem xH :xI s=true ↔ vA (cM 45 s).1/\((cM 45 s).2=true->0<bX (cM 45 s).1):=by
 obtain ⟨t,neg,d⟩:∃ t b,cM 45 s=(t,b):=⟨_,_,rfl⟩;unfold xI;rw [d];simp only [QT,S3,RI,ne_eq,Q4,Bool.and_eq_false_imp,Sn,Sq,Q1];constructor
 ·rintro ⟨⟨h1,h2⟩,h3⟩;have a:vA t:=⟨h1,h2,fun h=>by
   have:=(h3 h).2;have:0<t.length:=Ru.2 h2;omega⟩
  refine ⟨a,fun c=>?_⟩;rcases Sb (bX t) with h | h
  ·have:=(h3 ((xJ a).2 h)).1;rw [c] at this;cases this
  exact h
 rintro ⟨a,h⟩;refine ⟨⟨a.1,a.2.1⟩,fun h0=>?_⟩;have h1:=(xJ a).1 h0;have h2:=a.2.2 h0;refine ⟨?_,by omega⟩;cases c:neg with
 | false=>rfl
 | true=>have:=h c;omega
theorem Hj (s:Str):s=if (cM 45 s).2 then 45::(cM 45 s).1 else (cM 45 s).1:=by
 unfold cM;split
 ·rename_i h;cases s with
  | nil=>cases h
  | cons b s =>
   have a:b=45:=by simpa using h
   subst a;rfl
 rfl
theorem HR (h:xI s=true):s=txt (iQ s):=by
 obtain ⟨h1,h2⟩:=xH.1 h;unfold iQ;rw [AG _ _ h2,<- oz h1];exact Hj s
def pm (zn:Int):Option Str->Bool
 | none=>true
 | some b=>decide (1<iQ b) && !(zn == 0) && (Nat.gcd zn.natAbs (iQ b).natAbs == 1)
def aX (s:Str):Bool:=cK (kg 47 s).1 && cK ((kg 47 s).2.getD [49]) && pm (iQ (kg 47 s).1) (kg 47 s).2
theorem rZ :cK s=true ↔ okD (cM 45 s).1=true/\((cM 45 s).2=true->0<bX (cM 45 s).1):=by
 unfold cK;rw [QT,xH,yE,QQ];constructor
 ·rintro ⟨⟨h1,h2⟩,h3⟩;exact ⟨⟨h1,h3⟩,h2⟩
 rintro ⟨⟨h1,h3⟩,h2⟩;exact ⟨⟨h1,h2⟩,h3⟩
theorem Kv (s:Str):(iQ s).natAbs=bX (cM 45 s).1:=by
 unfold iQ sgZ;split <;> omega
theorem FJ (h:s.length<=n):(kg 47 s).1.length<=n/\((kg 47 s).2.getD [49]).length<=n+1:=by
 rcases gX 47 s with ⟨h1,_⟩ | ⟨a,post,h1,h2,_⟩
 ·rw [h1];exact ⟨h,by simp⟩
 have e:=congrArg List.length h2;rw [QM,QY] at e;rw [h1];simp only [R0];omega
theorem one_val:([49]:Str)=txt 1:=by
 unfold txt;rw [aB om_,show bq (1:Int).natAbs=bq 1 from rfl,bq];rfl
theorem sY (n:Nat):((⟨(bq n).toArray⟩:ByteArray).data.toList == (⟨#[49]⟩:ByteArray).data.toList)=(n == 1):=by
 show (bq n == [49])=_;rw [Pr,Uc,QQ,Sn];constructor
 ·intro h;have h2:=(bH n).2;rw [h] at h2;exact h2.symm
 rintro rfl;rw [bq];rfl
theorem F3 (C:Mem)(s:Str)(d:∀ c∈s,eO c=true)(e:s≠[])(f:s.length<=18):Gives cx.P 251 [ai s,.int .i64 10,.int .i64 64] C (.tuple #[.int .u64 (bX s),.nilIface]):=by
 refine Uv func251 26 U3 fun w0=>Ul 2 [0,1,2] Z<|Um 3 Z fun R a=>UC (F2 Tryz.parseU s d e f _ kr_) U7 fl_<|C4 5 [0,1,2,8,9] a Z<|Um 1 Z fun R a=>Wk false Z Z Z Z Z (.inr ⟨Z,Z⟩) kr_ Z Z<|Ur [0,1,2,8,9,18] a Z<|Uo (fun b=>?_) fun b=>?_
 ·cases b
 refine Ul 3 [6,7] Z<|Uz (G.dropAll (UO U3 ?_));exact ⟨Z,Z⟩
theorem Db (C:Mem)(i:Nat)(h:i<100):Gives cx.P 269 [.int .i64 i] C (ai (bq i)):=by
 have h1:=Gives.ofCalls (f:=269) (args:=[.int .i64 i]) (P:=cx.P) kr_ (fun w=>Any.internal_strconv_small Tryz.small10 i h w) C;rw [dO] at h1;exact h1
theorem BI (u:Nat):Lib.nDigits u=(bq u).length:=by rw [<- dO,Lib.decDigits_length]
theorem DS (C:Mem)(l:Tabs C)(u:Nat)(s:u<9223372036854775808):Gives cx.P 286 [.int .u64 u,.int .i64 10] C (ai (bq u)):=by
 refine Uv func286 32 U3 fun w0=>Ul 1 [0,1] Z<|Ul 2 [0,1,10] Z<|Uo (fun g=>?_) fun g=>?_
 ·refine Ul 2 [0,12] Z<|Uo (fun e=>?_) fun e=>?_
  ·have h:u<100:=by
    have:(u:Int)<100:=by simpa using e
    omega
   exact Um 1 Z fun R a=>Vb (c:=(u:Int)) U8 (by rw [IntKind.wrap_i64];omega) fl_<|Uy (Db _ u h) U7<|C4 1 [4] a Z<|Ut U2<|⟨Z,Z⟩
  have h:100<=u:=by
   have:¬ (u:Int)<100:=by simpa using e
   omega
  have t:Lib.nDigits u<=19:=by
   rw [BI];exact eI om_ om_
  refine Uq fun R a=>UH U5 fun i=>Ur [0,5] a Z<|Um 1 Z fun R a=>UC (wN Tryz.nDig u om_ om_ _ l.pow.m_ kr_) U7 fl_<|C4 1 [0,5,6] a Z<|UN [(3,3)] Z fun R a=>Up U6<|V8 0 (Lib.nDigits u) 24 U12 (fun _=>⟨.inl ⟨Z,Z⟩,.inr ⟨_,Z⟩,.inl ⟨Z,Z⟩,by omega,by omega,by decide⟩) U2<|Up U6<|D.call (yU Tryz.fmt10 i 24 u 372 (List.replicate 24 (Value.int .u8 0)) om_ (fun j d=>(by rw [Sx,aJ om_])) om_ _ kr_) Z (.inr dc_) U6 (QL _) fl_ fun w _ z _ m=>Ur [5,6] a Z ?_;obtain ⟨_,rfl,cs,rfl,A,n⟩:=m;refine G.freeze 0 Z (fun o _ p=>?_);have q:(bq u).length=Lib.nDigits u:=(BI u).symm;have k:Sl o 1 (.slice (some ⟨i,0,none⟩) ((bq u).map fun b=>[Value.int .u8 b.toNat]).length 24) ((bq u).map fun b=>[Value.int .u8 b.toNat]) :=
   Sl.ofBlock p (by intro r hr;obtain ⟨y,_,rfl⟩:=QO.1 hr;rfl) (fun j v d=>by
    rw [gn,QI] at d;cases f:(bq u)[j]? with
    | none=>rw [f] at d;cases d
    | some x=>rw [f] at d;cases d;simpa using n j x f) ap (by simp [maxLen])
  rw [aw,q] at k;exact Um 1 Z fun R a=>V8 0 (Lib.nDigits u) 24 U12 (fun _=>⟨.inl ⟨Z,Z⟩,.inr ⟨_,Z⟩,.inl ⟨Z,Z⟩,by omega,by omega,by decide⟩) U2<|VQ k.m_ U11 fl_<|C4 1 [4] a Z<|Ut U2<|⟨Z,Z⟩
 exact absurd g dc_
theorem DV (C:Mem)(a:Tabs C)(u:Nat)(b:u<9223372036854775808):Gives cx.P 255 [.int .u64 u,.int .i64 10] C (ai (bq u)):=by
 exact Uv func255 8 U3 fun w0=>Ul 1 [0,1] Z<|Um 2 Z fun R c=>Uy (DS _ a.m_ u b) U7<|C4 1 [4] c Z<|Ut U2<|⟨Z,Z⟩
theorem jQ (C:Mem)(z:Int)(m:Nat)(d:m<=18):Gives cx.P 213 [ai (txt z),.int .i64 m] C (.tuple #[.int .i64 (if (txt z).length<=m then z else 0),.bool (decide ((txt z).length<=m))]):=by
 refine Uv func213 20 U3 fun w0=>Ul 2 [0,1] Z<|Ul 4 [0,11] Z<|Uo (fun b=>?_) fun b=>?_
 ·have a:¬ (txt z).length<=m:=by
   have:(m:Int)<((txt z).length:Int):=by simpa using b
   omega
  refine Ul 2 [4,5] Z<|Uz (G.dropAll (UO U3 ?_));exact ⟨by rw [aB a,Q8 a],Z⟩
 have a:(txt z).length<=m:=by
  have:¬ (m:Int)<((txt z).length:Int):=by simpa using b
  omega
 refine Um 1 Z fun R c=>UC (zI Tryz.atoi z om_ _ kr_) U7 fl_<|C4 5 [6,7] c Z<|UJ [0,1,2,3,4] [] Z kr_ fun R e c=>Us 2 Z<|Wk true Z Z Z Z Z (.inl ⟨Z,Z⟩) kr_ Z Z<|C4 2 [4,5] c Z<|Uz (G.dropAll (UO U3 ?_));exact ⟨by rw [aJ a,QZ a],Z⟩
theorem jo (C:Mem)(z:Int)(t:(bq z.natAbs).length<=1000000):Pur cx.P 214 [ai (txt z)] C fun u D=>∃ p,u=.agg ⟨[.bool (decide (z<0)),p]⟩/\NineC D p z.natAbs:=by
 obtain ⟨S,hS⟩:∃ S,bq z.natAbs=S:=⟨_,rfl⟩;have b:=(bH z.natAbs).1;have i:=(bH z.natAbs).2;rw [hS] at t b i;refine Uv func214 44 U3 fun w0=>Uq fun R a=>UH U5 fun d=>Ur [0,2] a Z<|Um 1 Z fun R a=>Uy (HA _ (txt z) 45) U7 ?_;rw [dH,hS];refine C4 5 [2,3,4] a Z<|Um 2 Z fun R a=>Vu (S.length) (9) U6 om_ (.inl ⟨Z,by omega⟩) U2<|UX (((S.length / 9+1:Nat):Int)) U4 om_ om_ om_ U2<|Vo U9 (QK _) (by show 8*(S.length / 9+1)<=281474976710656;omega) (by simp only [maxLen];omega) fl_ fun L=>C4 1 [2,3,4,5] a Z ?_;rw [show (ai S:Value)=ai (S.take S.length) by rw [QV]];refine G.loop (fun fr C' k v=>∃ (q j:Nat)(out:List Nat)(w:Value),(q<=S.length/\(q=0∨q+9*j=S.length)/\out.length=j/\j<=S.length/\(q=0∨j<S.length)/\Dig9 out/\bC out=bX (S.drop q))/\fr=[(2,[],.pointer (some ⟨d,0,none⟩)),(3,[],ai (S.take q)),(4,[],.bool (decide (z<0))),(5,[],w)]/\k=[.arr w 160 1 j (out.map ck).flatten,.obj d (.cells ⟨[.bool false,.slice none 0 0]⟩ 307 (0,0))]/\v=q+1) (hn_ [2,3,4,5] Z) ⟨S.length,0,[],_,⟨QG _,by omega,Z,QK _,by have:=Ru.2 b.2.1;omega,(fun x y=>(by cases y)),by rw [RW];rfl⟩,Z,Z,Z⟩ (fun fr M N m _ A=>?_);obtain ⟨q,j,out,w,⟨O,Q,e,T,U,l,f⟩,rfl,rfl,rfl⟩:=A;refine Ul 3 [2,3,4,5,21] Z<|Uo (fun g=>?_) fun g=>?_
 ·have B:(⟨(S.take q).toArray⟩:ByteArray).data.toList.length=q:=by
   show (S.take q).length=q;rw [QW];omega
  have E:(S.take q).length=q:=B;have o:0<q:=by
   have h:(0:Int)<(((⟨(S.take q).toArray⟩:ByteArray).data.toList.length:Nat):Int):=by simpa using g
   omega
  have F:(gW S (q-9) q).length<=9/\0<(gW S (q-9) q).length:=by
   unfold gW;rw [SU,QW];omega
  have H:∀ c∈gW S (q-9) q,eO c=true:=fun c I=>b.1 c (RZ (Tz I));refine Um 2 Z fun R a=>UX (((q:Int)-9)) U4 om_ om_ om_ U2<|D.max (((q-9:Nat):Int)) U6 om_ U2<|C4 1 [2,3,4,5,6] a Z<|Um 2 Z fun R a=>Vn (q-9) (S.take q).length U9 (fun _=>⟨.inr ⟨_,Z⟩,.inl ⟨Z,Z⟩,.inl ⟨Z,Z⟩,by omega,QG _,QG _⟩) U2 ?_;rw [show (((S.take q).take (S.take q).length).drop (q-9))=gW S (q-9) q from by rw [QV];rfl];refine UC (F3 _ (gW S (q-9) q) H (Ru.1 F.2) om_) U7 fl_<|C4 5 [2,3,4,5,6,7] a Z<|UJ [0,1,4,5,6,2,3,7,8] [] Z kr_ fun R V a=>Us 4 Z<|Vn 0 (q-9) U9 (fun _=>⟨.inl ⟨Z,Z⟩,.inr ⟨_,Z⟩,.inl ⟨Z,Z⟩,by omega,by omega,QG _⟩) U2<|UI [ck (bX (gW S (q-9) q))] U12 fun W _ _ J=>D.append (j:=0) U11 J Z ax (by show (j+1)*8<=_;omega) fl_ fun r=>C4 2 [2,3,4,5] a Z ?_;rw [show ((S.take q).take (q-9)).drop 0=S.take (q-9) from by rw [RQ,TO,R9 om_]];refine UE (L':=[.arr r 160 1 (j+1) ((out++[bX (gW S (q-9) q)]).map ck).flatten,.obj d (.cells ⟨[.bool false,.slice none 0 0]⟩ 307 (0,0))]) (by simp [ck])<|UA (m':=q-9+1) om_ mup (hn_ [2,3,4,5] Z) ⟨q-9,j+1,out++[bX (gW S (q-9) q)],r,⟨by omega,by omega,by simp [e],by omega,by omega,l.snoc (Kx b.1 om_),CT om_ e om_ f⟩,Z,Z,Z⟩
 have o:q=0:=by
  have E:(S.take q).length=q:=by rw [QW];omega
  have h:¬ (0:Int)<(((S.take q).length:Nat):Int):=by simpa using g
  omega
 subst o;rw [RQ,i] at f;refine UN [(2,3)] Z fun R a=>Us 2 Z<|D.call (gA _ _ out (n:=j) e) Z (.inr dc_) U6 (QL _) fl_ (fun X _ Y _ K=>?_);obtain ⟨rfl,s⟩:=K;obtain ⟨Au,cu,rfl,_⟩:=id s;refine UG [.bool (decide (z<0)),_] U8<|Ux (j:=0) U12<|Ur [2] a Z<|Uz (Vi af U4 ?_);exact ⟨Z,_,Z,EE out,iD l,by rw [iC,f],s⟩
theorem D6 (k:Nat)(s:Str):bX (List.replicate k 48++s)=bX s:=by
 induction k with
 | zero=>rfl
 | succ k a=>rw [RP,Sd,dI,a];simp
theorem M3 (h:x<1000000000):mH 9 x=List.replicate (9-(bq x).length) 48++bq x:=by
 obtain ⟨h1,h2,h3⟩:=kU 9 x h;obtain ⟨h4,h5⟩:=bH x;have b:(bq x).length<=9:=eI om_ om_;refine zl h2 (fun c a=>?_) (by rw [h1];simp;omega) (by rw [h3,D6,h5]);rcases QX.1 a with a | a
 ·rw [Ss a];rfl
 exact h4.1 c a
def K0 (l:List Nat)(j:Nat)(s:Str):Prop:=(j=0/\s=[])∨(0<j/\vA s/\bX s=bC (l.drop (l.length-j))/\0<bX s)
theorem DF (b:yg l)(d:j<l.length)(h:K0 l j s):K0 l (j+1) (s++if j=0 then bq (g9 l (l.length-1-j)) else mH 9 (g9 l (l.length-1-j))):=by
 have a:l[l.length-1-j]?=some (g9 l (l.length-1-j)):=xi om_;refine .inr ⟨by omega, ?_⟩;rw [show l.length-(j+1)=l.length-1-j by omega];rcases h with ⟨rfl,rfl⟩ | ⟨h0,h1,h2,h3⟩
 ·rw [aJ rfl,SB];obtain ⟨h4,h5⟩:=bH (g9 l (l.length-1-0));have c:bC (l.drop (l.length-1-0))=g9 l (l.length-1-0):=by
   rw [Re om_,show l.length-1-0+1=l.length by omega,RW];rw [aj om_] at a;rw [Si a];show _+B9*0=_;omega
  refine ⟨h4,by rw [h5,c], ?_⟩;rw [h5];rcases Sb (g9 l (l.length-1-0)) with h | h
  ·rw [h] at a;exact absurd (by rw [SE];exact a) b.2
  exact h
 rw [aB om_];rw [show l.length-j=l.length-1-j+1 by omega] at h2;exact DQ b.1 a h1 h2 h3
theorem kl (C:Mem)(W:Tabs C)(m:Bool)(v:Value)(n:Nat)(X:NineC C v n)(Y:n<B9 ^ 100000):Gives cx.P 216 [.agg ⟨[.bool m,v]⟩] C (ai (txt (sgZ m n))):=by
 obtain ⟨ls,K,L,ak,hs⟩:=X.get Y;obtain ⟨A,c,rfl,_⟩:=id hs;simp only [aw] at hs ⊢;refine VL kr_ func216 Z 34 Z Z fun w0=>Uq fun R a=>UF U6 fun M=>C4 1 [1] a Z<|G.freeze 0 Z fun _ _ o=>Um 1 Z fun R a=>Un (PtrTo.block (Mem.get o mup) _) U8<|C4 2 [1,10] a Z<|Uo (fun y=>?_) fun y=>?_
 ·have N:ls=[]:=by
   have:(ls.length:Int)=0:=by simpa using y
   exact Rn om_
  refine Ul 1 [2] Z<|Uz (VT (Ln Z Z) ?_ Km);subst N;refine ⟨?_,Z⟩;rw [<- L,(AF (sgZ m (bC []))).2 (by cases m <;> rfl)];rfl
 have N:0<ls.length:=by
  have:¬ (ls.length:Int)=0:=by simpa using y
  omega
 obtain ⟨d,g⟩:∃ d:Str,(if m then [45] else [])=d:=⟨_,rfl⟩;have al:d.length<=1:=by rw [<- g];split <;> simp
 refine Uq fun R a=>UH U5 fun b=>Ur [1,3] a Z<|G.nilArr 5 1<|G.perm (L':=[.obj b (.cells ⟨[.pointer none,.slice none 0 0]⟩ 354 (0,0)),.arr (.slice none 0 0) 5 1 0 []]) (List.Perm.swap _ _ _)<|Um 1 Z fun R a=>Un (PtrTo.block (Mem.get o mup) _) U8<|Ur [1,3,12] a Z<|G.cut (fun fr C' e z=>∃ (q:Option Addr)(w:Value),(q=none∨q=some ⟨b,0,none⟩)/\fr=[(1,[],.pointer (some ⟨M,0,none⟩)),(3,[],.pointer (some ⟨b,0,none⟩))]/\e=[.obj b (.cells ⟨[.pointer q,w]⟩ 354 (0,0)),.arr w 5 1 d.length (u8s d)]) ?_ (fun fr _ an z _ f=>?_)
 ·refine Uo (fun B=>?_) fun B=>?_
  ·rw [aJ B] at g;subst g;refine UN [(0,3)] Z fun R a=>D.call (vB _ b none (.slice none 0 0) [] 45 (.inl Z) am) Z (.inr dc_) U6 (QL _) fl_ fun ao _ aq _ aa=>Ur [1,3] a Z ?_;obtain ⟨E,rfl⟩:=aa;refine UB 0 mup (hn_ [1,3] Z) ⟨some ⟨b,0,none⟩,E,.inr Z,Z,Z⟩
  rw [aB (by rw [B];decide)] at g;subst g;refine UB 0 mup (hn_ [1,3] Z) ⟨none,.slice none 0 0,.inl Z,Z,Z⟩
 obtain ⟨q ,w,hq,rfl,rfl⟩:=f;refine Um 1 Z fun R a=>Un (PtrTo.block (Mem.get o mup) _) U8<|UV (CD _ A ls.length c) U7 fun ar _ _ ab=>Ur [1,3,16] a Z ?_;obtain ⟨bb,rfl,ac⟩:=ab;refine UE (L':=[.obj b (.cells ⟨[.pointer q,w]⟩ 354 (0,0)),.arr w 5 1 (d++[]).length (u8s (d++[]))]) (by rw [Q7])<|G.rangeFunc Z Z Z kr_ (tq _ bb _ _ ls ac hs.m_ om_) (fun j e=>∃ (q:Option Addr)(w:Value)(s:Str),((q=none∨q=some ⟨b,0,none⟩)/\K0 ls j s/\s.length<=9*j)/\e=[.obj b (.cells ⟨[.pointer q,w]⟩ 354 (0,0)),.arr w 5 1 (d++s).length (u8s (d++s))]) ⟨q,w,[],⟨hq,.inl ⟨Z,Z⟩,by simp⟩,Z⟩ Z (fun _ _=>rfl) (fun u v=>[(1,[],.pointer (some ⟨M,0,none⟩)),(3,[],.pointer (some ⟨b,0,none⟩)),(4,[],u),(5,[],v)]) (fun l u v W1 e=>?_) (fun l j u v e W1 f F=>?_) (fun bD e f=>?_)
 ·exact Ul 1 [1,3,4,18] Z<|Ul 1 [1,3,4,5] Z<|Wt ⟨Z,Z,Z,Z,trivial⟩
 ·obtain ⟨q,w,s,⟨H,p,O⟩,rfl⟩:=f;have Q:j<ls.length:=by have:=(aE.1 F).1;rwa [fP] at this
  rw [vh Q] at F;cases F
  have S:=DF K Q p;obtain ⟨x,I⟩:∃ x,g9 ls (ls.length-1-j)=x:=⟨_,rfl⟩;have i:x<B9:=by rw [<- I];exact kY K.1 _
  rw [show ls.getD (ls.length-1-j) 0=x from I];rw [I] at S;have au:(bq x).length<=9:=eI (by rw [B9v] at i;omega) om_;have ad:=M3 (x:=x) (by rw [B9v] at i;exact i);have av:(mH 9 x).length=9:=(kU 9 x (by rw [B9v] at i;omega)).1;refine Um 1 Z fun R a=>UC (DV _ W.m_ x (by rw [B9v] at i;omega)) U7 fl_<|C4 1 [1,3,4,6] a Z<|Um 2 Z fun R a=>Un (PtrTo.block (Mem.get o mup) _) U8<|Up U6<|Uw _ U7<|C4 1 [3,6,26] a Z<|G.cut (fun fr C' e z=>∃ (k:Option Addr)(r:Value)(t:Str),((k=none∨k=some ⟨b,0,none⟩)/\t++bq x=d++(s++if j=0 then bq x else mH 9 x)/\t.length<=9*j+10)/\fr=[(3,[],.pointer (some ⟨b,0,none⟩)),(6,[],ai (bq x))]/\e=[.obj b (.cells ⟨[.pointer k,r]⟩ 354 (0,0)),.arr r 5 1 t.length (u8s t)]) ?_ (fun fr _ ax z _ f=>?_)
  ·refine Uo (fun J=>?_) fun J=>?_
   ·have T:0<j:=by
     have:((ls.length-1-j:Nat):Int)<(ls.length:Int)-1:=by simpa using J
     omega
    refine UN [(3,3)] Z fun R a=>Us 2 Z<|Vn (bq x).length 9 U9 (fun _=>⟨.inr ⟨_,Z⟩,.inl ⟨Z,Z⟩,.inl ⟨Z,Z⟩,by omega,QG _,QG _⟩) U2 ?_;rw [show ((([48,48,48,48,48,48,48,48,48]:Str).take 9).drop (bq x).length)=List.replicate (9-(bq x).length) 48 from by rw [show (([48,48,48,48,48,48,48,48,48]:Str).take 9)=List.replicate 9 48 from rfl,List.drop_replicate]];refine D.call (kE _ b q w (d++s) (List.replicate (9-(bq x).length) 48) H ap) Z (.inr dc_) U6 (QL _) fl_ fun ay _ az _ ae=>Ur [3,6] a Z ?_;obtain ⟨E,rfl⟩:=ae;refine UB 0 mup (hn_ [3,6] Z) ⟨some ⟨b,0,none⟩,E,_,⟨.inr Z,by rw [aB om_,ad];simp [],by simp;omega⟩,Z,Z⟩
   have T:j=0:=by
    have:¬ ((ls.length-1-j:Nat):Int)<(ls.length:Int)-1:=by simpa using J
    omega
   refine UB 0 mup (hn_ [3,6] Z) ⟨q,w,d++s,⟨H,by rw [aJ T,Rb],by simp;omega⟩,Z,Z⟩
  obtain ⟨k ,r ,t,⟨af,ag,aA⟩,rfl,rfl⟩:=f;refine UN [(1,3)] Z fun R a=>Up U6<|D.call (kE _ b k r t (bq x) af om_) Z (.inr dc_) U6 (QL _) fl_ fun aC _ aD _ ah=>Vv [] trivial (a _ _ _ Z ?_);obtain ⟨w4,rfl⟩:=ah;rw [ag];exact V4 (R:=fun e=>∃ (q:Option Addr)(w:Value)(s:Str),((q=none∨q=some ⟨b,0,none⟩)/\K0 ls (j+1) s/\s.length<=9*(j+1))/\e=[.obj b (.cells ⟨[.pointer q,w]⟩ 354 (0,0)),.arr w 5 1 (d++s).length (u8s (d++s))]) (QL _) ⟨some ⟨b,0,none⟩,w4,_,⟨.inr Z,S,by rw [QM];split <;> omega⟩,Z⟩
 obtain ⟨q,w,s,⟨H,p,O⟩,rfl⟩:=f;rw [fP] at p;obtain ⟨aF,U,V,aG⟩:0<ls.length/\vA s/\bX s=bC (ls.drop (ls.length-ls.length))/\0<bX s:=p.elim (fun h=>by omega) id;rw [Td,RQ,L] at V;refine G.perm (L':=[.obj b (.cells ⟨[.pointer q,w]⟩ 354 (0,0)),.arr w 5 1 (d++s).length (u8s (d++s)),.obj bD (.deferred (some []))]) (pkL [1,1,0] Z)<|UN [(0,3)] Z fun R a=>D.call (Ed _ b q w (d++s) (fun h=>U.2.1 (TT.1 h).2) (by simp;rw [fP] at O;omega)) Z (.inr dc_) U6 (QL _) fl_ fun aH _ aI _ aj=>C4 1 [2] a Z ?_;obtain ⟨rfl,rfl⟩:=aj;refine Uz (Ws (Ln Z Z) ?_);refine ⟨?_,Z⟩;have es:s=bq n:=by rw [<- V];exact oz U
 rw [AG m n (fun _=>by omega),es,<- g];cases m <;> rfl
theorem sS (a:0<Q):(x+B9*t) / Q=B9*(t / Q)+(x+B9*(t % Q)) / Q/\(x+B9*t) % Q=(x+B9*(t % Q)) % Q:=by
 have h:x+B9*t=(x+B9*(t % Q))+Q*(B9*(t / Q)):=by
  have h1:=TH t Q;have h2:B9*t=B9*(t % Q)+B9*(Q*(t / Q)):=by rw [<- R3,h1]
  rw [h2,Uh];omega
 rw [h,TA _ _ a,Nat.add_mul_mod_self_left];exact ⟨by omega,Z⟩
theorem mh (a:0<Q)(b:x<B9):(x+B9*(t % Q)) / Q<B9:=by
 rw [SM a];have h1:=Rs t a;have h2:B9*(t % Q+1)<=B9*Q:=R6 _ h1;rw [R3] at h2;omega
theorem ft (h:j<l.length):bC (l.drop j)=g9 l j+B9*bC (l.drop (j+1)):=by
 rw [Re h,bC,yS (aj h)]
theorem lC (h:j<l.length):bC ((l.set j x).drop j)=x+B9*bC (l.drop (j+1)):=by
 rw [Re (by simpa using h),bC,List.getElem_set_self,List.drop_set_of_lt om_]
theorem sR (C:Mem)(Y M:Value)(m d:Nat)(ha:NineC C Y m)(hm:m<B9 ^ 200000)(F:Sl C 1 M ([d].map ck))(H:0<d)(hd:d<B9) :
  Pur cx.P 248 [Y,M] C fun u D=>∃ q r,u=.tuple #[q,r]/\NineC D q (m / d)/\NineC D r (m % d):=by
 have aa:NineC C M d:=⟨[d],⟨fun x o=>(by rw [Q3.1 o];exact hd),by simp;omega⟩,by show d+B9*0=d;omega,F⟩;have N:=ha;obtain ⟨a,an,ab,aG,O⟩:=ha.get hm;obtain ⟨A0,c0,rfl,_⟩:=id O;obtain ⟨B0,d0,rfl,aH⟩:=id F;simp only [aw,aK] at F aa O N ⊢;have p:=B9v;refine VL kr_ func248 Z 146 Z Z fun w0=>Uq fun R b=>UF U6 fun b3=>UH U5 fun g=>C4 1 [0,3,4,5] b Z<|G.freeze 1 Z fun _ _ K=>Um 1 Z fun R b=>Un (PtrTo.block (Mem.get K mup) _) U8<|Uy (pK _ N.m_ aa.m_) U7<|C4 1 [0,3,4,5,17] b Z<|Uo (fun Q=>?_) fun Q=>?_
 ·have S:m<d:=by
   have:jS m d<0:=by simpa using Q
   exact jn.1 this
  refine Um 1 Z fun R b=>Ux (j:=0) U12<|C4 1 [4,5] b Z<|Uz (VT (Bc af Z Z Z Z Z) ?_ Km);refine ⟨Z,_,_,Z, ?_, ?_⟩
  ·rw [S8 S];exact NineC.zero _
  rw [S7 S];exact N.mono mup
 have S:d<=m:=by
  have h:¬ jS m d<0:=by simpa using Q
  rw [jn] at h;omega
 obtain ⟨n,hn⟩:∃ n,a.length=n:=⟨_,rfl⟩;refine Uq fun R b=>Un (PtrTo.block (Mem.get K mup) _) U8<|C4 2 [0,3,4,5,21] b Z<|Uo (fun ad=>?_) fun ad=>?_
 ·refine Um 2 Z fun R b=>Vo U9 (QG _) (by show 8*a.length<=281474976710656;omega) (by simp only [maxLen];omega) fl_ fun f=>Ux (j:=1) U12<|Ur [0,3,4] b Z<|Uq fun R b=>UH U5 fun k=>Ux (j:=0) U12<|Ur [0,3,4,6] b Z<|Um 1 Z fun R b=>UV (CD _ A0 a.length c0) U7 fun aI _ _ ao=>Ur [3,4,6,26] b Z ?_;obtain ⟨bb,rfl,ap⟩:=ao;refine UE (L':=[.obj k (.cells ⟨[.int .u64 ((bC (a.drop (a.length-0)) % d:Nat):Int)]⟩ 160 (0,0)),.obj g (.cells ⟨[qU f a.length a.length]⟩ 305 (0,0)),.arr (qU f a.length a.length) 160 1 a.length ((List.replicate a.length 0).map ck).flatten]) (by rw [<- EH,Tw,RW,show bC []=0 from Z,Nat.zero_mod];rfl)<|G.rangeFunc Z Z Z kr_ (tq _ bb _ _ a ap O.m_ om_) (fun j e=>∃ (c:List Nat),(c.length=a.length/\Dig9 c/\bC (c.drop (a.length-j))=bC (a.drop (a.length-j)) / d)/\e=[.obj k (.cells ⟨[.int .u64 ((bC (a.drop (a.length-j)) % d:Nat):Int)]⟩ 160 (0,0)),.obj g (.cells ⟨[qU f a.length a.length]⟩ 305 (0,0)),.arr (qU f a.length a.length) 160 1 a.length (c.map ck).flatten]) ⟨List.replicate a.length 0,⟨Sc,(fun x o=>by rw [Ss o];decide),by rw [Tw,RW,Tu am];simp [bC]⟩,Z⟩ Z (fun _ _=>rfl) (fun u v=>[(3,[],.pointer (some ⟨b3,0,none⟩)),(4,[],.pointer (some ⟨g,0,none⟩)),(6,[],.pointer (some ⟨k,0,none⟩)),(7,[],u),(8,[],v)]) (fun l u v W1 e=>?_) (fun l j u v e W1 s U=>?_) (fun bD e s=>?_)
  ·exact Ul 1 [3,4,6,7,28] Z<|Ul 1 [3,4,6,7,8] Z<|Wt ⟨Z,Z,Z,Z,Z,trivial⟩
  ·obtain ⟨c,⟨I,L,B⟩,rfl⟩:=s;have aq:j<a.length:=by have:=(aE.1 U).1;rwa [fP] at this
   rw [vh aq] at U;cases U
   obtain ⟨i,hi⟩:∃ i,a.length-1-j=i:=⟨_,rfl⟩;have ag:a.length-j=i+1:=by omega
   obtain ⟨T,hT⟩:∃ T,bC (a.drop (i+1))=T:=⟨_,rfl⟩;have ar:=kY an.1 i;have aJ:=Rs T H;have hX:T % d*B9+g9 a i<18446744073709551616:=by
    have:=Rz B9 (show T % d<=999999999 by omega);rw [p] at this ⊢;omega
   rw [hi,ag,hT,show a.getD i 0=g9 a i from rfl];rw [ag,hT] at B;have au:T % d*B9+g9 a i=g9 a i+B9*(T % d):=by rw [Rw,Tc]
   have V:=sS (t:=T) (x:=g9 a i) H;have ai:=mh (t:=T) H ar;rw [<- au] at V ai;refine Uq fun R b=>Uu af U9<|D.int (((T % d*B9:Nat):Int)) U4 (by rw [show (1000000000:Int)=((B9:Nat):Int) from Z,<- RG,IntKind.wrap_u64];omega) U2<|Up U6<|D.int (((T % d*B9+g9 a i:Nat):Int)) U4 (by rw [IntKind.wrap_u64];omega) U2<|Ux (j:=0) U12<|Ur [3,4,6,7] b Z<|G.cut (fun fr C' e W=>(True)/\fr=[]/\e=[.obj k (.cells ⟨[.int .u64 (((T % d*B9+g9 a i) % d:Nat):Int)]⟩ 160 (0,0)),.arr (qU f a.length a.length) 160 1 a.length (az (c.map ck).flatten [Value.int .u64 (((T % d*B9+g9 a i) / d:Nat):Int)] (i*1)),.obj g (.cells ⟨[qU f a.length a.length]⟩ 305 (0,0))]) ?_ (fun fr aL aM W aN s=>?_)
   ·refine Vg (.cut [0,1,2,3,4,5,6,8,9,10,12] (.alt 7 (.fin [11,13,14]) (.alt 13 (.fin [7,11,14]) .stop))) [] Z Z kr_ fun R p b w=>Uu ae U9<|Up U6<|Uu af U9<|Un (PtrTo.block (Mem.get K mup) _) U8<|UD F.m_ U10 om_ (rfl:([d].map ck)[(0:Int).toNat]?=some (ck d)) fl_ fun aO av=>Un av U8<|Vu (T % d*B9+g9 a i) (d) U6 om_ (.inr ⟨Z,by omega⟩) U2<|Un (PtrTo.block (Mem.get K mup) _) U8<|UD F.m_ U10 om_ (rfl:([d].map ck)[(0:Int).toNat]?=some (ck d)) fl_ fun aP ax=>Un ax U8<|UR (i*1) U10 ah U2<|UY w Z ⟨?_, ?_,trivial⟩
    ·first | refine VJ af U9 ?_ | refine VJ ae U9 ?_
     refine Vk (T % d*B9+g9 a i) (d) U6 om_ U2<|UW (j:=2) U11 (by show i*1+1<=_;rw [bO eH,I];omega)<|Ux (j:=1) U12<|Vv [] trivial (b _ _ _ Z ?_);clear b p w R;exact UB 0 (Mem.le.refl _) (fr':=[]) trivial ⟨trivial,Z,Z⟩
    refine UW (j:=2) U11 (by show i*1+1<=_;rw [bO eH,I];omega) ?_
    first | refine VJ af U9 ?_ | refine VJ ae U9 ?_
    refine Vk (T % d*B9+g9 a i) (d) U6 om_ U2<|Ux (j:=1) U12<|Vv [] trivial (b _ _ _ Z ?_);clear b p w R;exact UB 0 (Mem.le.refl _) (fr':=[]) trivial ⟨trivial,Z,Z⟩
   obtain ⟨_,rfl,rfl⟩:=s;refine G.perm (L':=[.obj k (.cells ⟨[.int .u64 (((T % d*B9+g9 a i) % d:Nat):Int)]⟩ 160 (0,0)),.obj g (.cells ⟨[qU f a.length a.length]⟩ 305 (0,0)),.arr (qU f a.length a.length) 160 1 a.length (az (c.map ck).flatten [Value.int .u64 (((T % d*B9+g9 a i) / d:Nat):Int)] (i*1))]) (pkL [0,1,0] Z) ?_;have aj:bC (a.drop i)=g9 a i+B9*T:=by rw [ft om_,hT]
   have ay:bC (a.drop (a.length-(j+1))) % d=(T % d*B9+g9 a i) % d:=by rw [show a.length-(j+1)=i by omega,aj,V.2]
   exact UE (L':=[.obj k (.cells ⟨[.int .u64 ((bC (a.drop (a.length-(j+1))) % d:Nat):Int)]⟩ 160 (0,0)),.obj g (.cells ⟨[qU f a.length a.length]⟩ 305 (0,0)),.arr (qU f a.length a.length) 160 1 a.length ((c.set i ((T % d*B9+g9 a i) / d)).map ck).flatten]) (by rw [ay,<- bK eH _ (by omega:i<c.length)];rfl)<|V4 (R:=fun e=>∃ (c:List Nat),(c.length=a.length/\Dig9 c/\bC (c.drop (a.length-(j+1)))=bC (a.drop (a.length-(j+1))) / d)/\e=[.obj k (.cells ⟨[.int .u64 ((bC (a.drop (a.length-(j+1))) % d:Nat):Int)]⟩ 160 (0,0)),.obj g (.cells ⟨[qU f a.length a.length]⟩ 305 (0,0)),.arr (qU f a.length a.length) 160 1 a.length (c.map ck).flatten]) (QL _) ⟨c.set i ((T % d*B9+g9 a i) / d),⟨by simp [I],L.set ai,by rw [show a.length-(j+1)=i by omega,aj,lC om_,B,V.1];omega⟩,Z⟩
  obtain ⟨c,⟨I,L,B⟩,rfl⟩:=s;rw [fP,Td,RQ,RQ,ab] at B;rw [fP,Td,RQ,ab];refine G.freezeArr 3 (c.map ck) rfl rfl (by intro r hr;obtain ⟨y,_,rfl⟩:=QO.1 hr;rfl) (by rw [aw,I]) fun Cq aQ ak=>G.cut (fun fr C' e W=>∃ (E z:Value),(NineC C' E (m / d)/\NineC C' z (m % d))/\fr=[(4,[],.pointer (some ⟨g,0,none⟩)),(5,[],z)]/\e=[.obj g (.cells ⟨[E]⟩ 305 (0,0)),.obj bD (.deferred (some [])),.obj k (.cells ⟨[.int .u64 ((m % d:Nat):Int)]⟩ 160 (0,0))]) ?_ (fun fr aR aS W aT s=>?_)
  ·refine Vg (.cut [0,2] (.alt 1 (.fin [3,4,5,6]) (.alt 3 (.fin [1,4,5,6]) .stop))) [] Z Z kr_ fun R p b w=>Uu ac U9<|Uu ae U9<|UY w Z ⟨?_, ?_,trivial⟩
   ·refine UV (vL _ L ak.m_) U7 fun E aA _ A=>UI [ck (m % d)] U12 fun aB aC _ X=>UT (vL _ (l:=[m % d]) (fun x o=>by rw [Q3.1 o];have:=Rs m H;omega) X.m_) U7 fl_ (fun z aD _ J=>?_);obtain ⟨A7,m7,c7,rfl⟩:=A.form;refine Ux (j:=2) U12<|Up U6<|Ur [4,5] b Z ?_;clear b p w R;rw [show bC [m % d]=m % d from (by show m % d+B9*0=m % d;omega)] at J;rw [B] at A;exact UB 0 mup (hn_ [4,5] Z) ⟨_,z,⟨A.mono mup,J.mono mup⟩,Z,Z⟩
   refine UI [ck (m % d)] U12 fun aB aC _ X=>UV (vL _ L ak.m_) U7 fun E aA _ A=>UT (vL _ (l:=[m % d]) (fun x o=>by rw [Q3.1 o];have:=Rs m H;omega) X.m_) U7 fl_ (fun z aD _ J=>?_);obtain ⟨A7,m7,c7,rfl⟩:=A.form;refine Ux (j:=2) U12<|Up U6<|Ur [4,5] b Z ?_;clear b p w R;rw [show bC [m % d]=m % d from (by show m % d+B9*0=m % d;omega)] at J;rw [B] at A;exact UB 0 mup (hn_ [4,5] Z) ⟨_,z,⟨A.mono mup,J.mono mup⟩,Z,Z⟩
  obtain ⟨E,z,⟨al,aF⟩,rfl,rfl⟩:=s;refine G.perm (L':=[.obj bD (.deferred (some [])),.obj g (.cells ⟨[E]⟩ 305 (0,0)),.obj k (.cells ⟨[.int .u64 ((m % d:Nat):Int)]⟩ 160 (0,0))]) (pkL [1,0,0] Z) ?_;obtain ⟨A7,m7,c7,rfl⟩:=al.form;refine Uz (Ws (Bc af Z Z Z Z Z) ?_);exact ⟨Z,_,_,Z,al,aF⟩
 exact absurd ad dc_
theorem vI (h:Dig9 l)(a:k<=l.length):bC l / B9 ^ k=bC (l.drop k):=by
 have e:bC l=bC (l.take k)+B9 ^ k*bC (l.drop k):=by
  conv=>lhs;rw [<- RN k l]
  rw [fy,QW,R9 a]
 have h1:=iZ (h.take k);rw [QW,R9 a] at h1;rw [e,TA _ _ (Tb dc_),S8 h1,RR]
theorem uE {b a:List Nat}(f:yg b)(c:yg a)(j:0<a.length)(m:a.length<=b.length):bC b / bC a<=bC (b.drop (a.length-1)) / g9 a (a.length-1)/\0<g9 a (a.length-1):=by
 have d:bC (a.drop (a.length-1))=g9 a (a.length-1):=by
  rw [ft om_,show a.length-1+1=a.length by omega,RW];show _+B9*0=_;omega
 have h1:=vI c.1 (k:=a.length-1) om_;have h2:=vI f.1 (k:=a.length-1) om_;have e:0<g9 a (a.length-1):=by
  rcases Sb (g9 a (a.length-1)) with h | h
  ·have h3:=xi (l:=a) (i:=a.length-1) om_;rw [h] at h3;exact absurd (by rw [SE];exact h3) c.2
  exact h
 refine ⟨?_,e⟩;rw [<- h2,<- d,<- h1,Nat.div_div_eq_div_mul];have g:0<B9 ^ (a.length-1):=Tb dc_;rw [d] at h1;refine Nat.div_le_div_left (Nat.mul_div_le _ _) ?_;rw [h1];exact Tj g e
theorem BR (h:l.length=k+1):bC (l.drop k)=g9 l k:=by
 rw [ft om_,show k+1=l.length by omega,RW];show _+B9*0=_;omega
theorem JZ (h:l.length=k+2):bC (l.drop k)=g9 l (k+1)*B9+g9 l k:=by
 rw [ft om_,BR (k:=k+1) om_,Rw];omega
theorem zD (c:yg a)(d:yg b)(h:bC b<=bC a):b.length<=a.length:=by
 rcases Rh a.length b.length with h1 | h1
 ·have:=uw c.1 d h1;omega
 exact h1
theorem xK (c:yg a)(d:yg b)(h:bC a<B9*bC b):a.length<=b.length+1:=by
 have h2:=iZ d.1;refine tj c (R4 h ?_);rw [RY,Rw];exact Rz _ (Nat.le_of_lt h2)
theorem jM {f:Nat}(a:m<B9 ^ k)(b:f<B9):m*f<B9 ^ (k+1):=by
 rw [RY];exact Sj a b
theorem PB {a:Nat}(h:x<B9*a)(b:a<B9 ^ k):x<B9 ^ (k+1):=by
 rw [RY,Rw _ B9];exact S1 h (Nat.mul_lt_mul_of_pos_left b dc_)
theorem KZ (l:List Nat):(l.map ck).all (fun r=>r.all nN)=true:=by
 rw [List.all_map,Q4];intro x _;rfl
theorem D5 (C:Mem)(va vb:Value)(m n:Nat)(ha:NineC C va m)(hb:NineC C vb n)(hm:m<B9 ^ 100000)(aF:B9<=n) :
  Pur cx.P 248 [va,vb] C fun u D=>∃ q r,u=.tuple #[q,r]/\NineC D q (m / n)/\NineC D r (m % n):=by
 have aG:0<n:=R4 dc_ aF;have ac:=ha;have ad:=hb;obtain ⟨B,Q,bE,ag⟩:=hb;obtain ⟨A0,a0,c0,rfl⟩:=ha.form;obtain ⟨B0,d0,rfl,a2,bF,_⟩:=id ag;simp only [aw] at ag ad a2 ⊢;have bG:maxLen<=9223372036854775807:=by simp [maxLen]
 have S:=B9v;have bH:2<=B.length:=by
  rcases Rh B.length 2 with h | h
  ·have h2:=iZ Q.1;have h3:B9 ^ B.length<=B9 ^ 1:=Q6 dc_ om_;rw [Nat.pow_one] at h3;omega
  exact h
 refine VL kr_ func248 Z 146 Z Z (fun w0=>?_);refine Uq fun R a=>?_;refine UF U6 (fun b3=>?_);refine UH U5 (fun e=>?_);refine C4 1 [0,3,4,5] a Z ?_;clear a R;refine Um 1 Z fun R a=>?_
 skip
 refine Uu ae U9 ?_;refine Uy (pK _ ac.m_ ad.m_) U7 ?_;refine C4 1 [0,3,4,5,17] a Z ?_;clear a R;refine Uo (fun ah=>?_) fun ah=>?_
 ·have U:m<n:=by
   have:jS m n<0:=by simpa using ah
   exact jn.1 this
  refine Um 1 Z fun R a=>?_;refine Ux (j:=0) U12 ?_;refine C4 1 [4,5] a Z ?_;clear a R;refine Uz (VT (Bc af Z Z Z Z Z) ?_ Km);refine ⟨Z,_,_,Z, ?_, ?_⟩
  ·rw [S8 U];exact NineC.zero _
  rw [S7 U];exact ac.mono mup
 have U:n<=m:=by
  have h:¬ jS m n<0:=by simpa using ah
  rw [jn] at h;omega
 refine Uq fun R a=>?_;refine Uu ae U9 ?_;refine C4 2 [0,3,4,5,21] a Z ?_;clear a R;refine Uo (fun aH=>?_) fun aH=>?_
 ·exact absurd aH ap
 have bI:=kY Q.1 (B.length-1);have a3:(B.map ck)[((B.length:Int)-1).toNat]?=some (ck (g9 B (B.length-1))):=by
  rw [show ((B.length:Int)-1).toNat=B.length-1 by omega];exact jy om_
 obtain ⟨f,hf⟩:∃ f,B9 / (g9 B (B.length-1)+1)=f:=⟨_,rfl⟩;refine Uq fun R a=>?_;refine Uu ae U9 ?_;refine Uu ae U9 ?_;refine Up U6 ?_;refine Uw _ U7 ?_;refine UD ag.m_ U10 om_ a3 fl_ (fun bJ a4=>?_);refine Un a4 U8 ?_;refine D.int (((g9 B (B.length-1)+1:Nat):Int)) U4 (by rw [IntKind.wrap_u64];omega) U2 ?_;refine Vu (B9) (g9 B (B.length-1)+1) U6 om_ (.inr ⟨Z,by omega⟩) U2 ?_;refine C4 1 [0,3,4,5,9] a Z ?_;clear a R;rw [hf];have w:0<f:=by rw [<- hf];exact Nat.div_pos om_ om_
 have o:f<B9:=by
  rw [<- hf];have h1:=(uE Q Q om_ (QG _)).2;exact Nat.div_lt_self dc_ om_
 have y:n<B9 ^ 100000:=RC U hm;refine UJ [0,1,3,4,2,5,6,7] [] Z kr_ (fun R S a=>?_);refine Us 2 Z ?_;refine Uu ae U9 ?_;refine Up U6 ?_;refine UT (yp (k:=100000) _ ac.m_ hm o om_) U7 fl_ (fun bL _ _ a5=>?_);refine UT (yp (k:=100000) _ ad.m_ y o om_) U7 fl_ (fun bM _ a6 aI=>?_);refine Up U6 ?_;obtain ⟨a7,bN,a8,rfl⟩:=aI.form;refine Ux (j:=1) U12 ?_;refine Ur [0,3,4,5,9] a Z ?_;clear a S R;have aJ:=a5.mono a6;have aL:=aI;refine G.freeze 0 Z (fun C3 aM v=>?_);obtain ⟨P,a9,ai,bP,aj⟩:=(aJ.mono aM).get (jM hm o);obtain ⟨W,p,z,bQ,V⟩:=(aL.mono aM).get (jM y o);obtain ⟨PA,pc,rfl,_⟩:=id aj;obtain ⟨bR,bS,ba,_⟩:=id V;cases ba
 simp only [aw] at aj V v aJ aL ⊢;have ak:NineC C3 (.slice a7 W.length a8) (n*f):=⟨W,p,z,V⟩;have A:0<n*f:=Tj aG w;have al:n*f<B9 ^ 100001:=dE (k:=100001) (n:=100000+1) (jM (k:=100000) y o) (QG _);have bT:2<=W.length:=by
  have h1:B9<=bC W:=by rw [z];exact Q0 aF (SN _ w)
  rcases Rh W.length 2 with h | h
  ·have h2:=iZ p.1;have h3:B9 ^ W.length<=B9 ^ 1:=Q6 dc_ om_;rw [Nat.pow_one] at h3;omega
  exact h
 have bU:1<=P.length:=by
  rcases Sb P.length with h | h
  ·have:P=[]:=Rn h;subst this;have h1:m*f=0:=by rw [<- ai];rfl
   have h2:0<m*f:=Tj om_ w;omega
  exact h
 have bb:=(uE p p om_ (QG _)).2;have bV:=kY p.1 (W.length-1);refine Um 2 Z fun R a=>?_;refine Vo U9 (QG _) (by show 8*P.length<=281474976710656;omega) (by simp only [maxLen];omega) fl_ (fun d=>?_);refine Ux (j:=1) U12 ?_;refine Ur [0,3,4,5,9] a Z ?_;clear a R;refine Uq fun R a=>?_;refine Un (PtrTo.block (Mem.get v mup) _) U8 ?_;refine Un (PtrTo.block (Mem.get v mup) _) U8 ?_;refine Up U6 ?_;refine Uw _ U7 ?_;refine UD V.m_ U10 om_ (by rw [show ((W.length:Int)-1).toNat=W.length-1 by omega];exact jy om_:(W.map ck)[((W.length:Int)-1).toNat]?=some (ck (g9 W (W.length-1)))) fl_ (fun bW bc=>?_);refine Un bc U8 ?_;refine C4 1 [0,3,4,5,9,10] a Z ?_;clear a R;refine Um 2 Z fun R a=>?_;refine Uw _ U7 ?_;refine C4 1 [0,3,4,5,9,10,11] a Z ?_;clear a R;refine UE (L':=[.obj e (.cells ⟨[qU d P.length P.length]⟩ 305 (0,0)),.arr (qU d P.length P.length) 160 1 P.length ((List.replicate P.length 0).map ck).flatten]) (by rw [<- EH];rfl) ?_;refine G.loop (fun fr C' g E=>∃ (i:Nat)(c:List Nat)(v5:Value),(i<=P.length/\c.length=P.length/\Dig9 c/\bC (c.drop i)=bC (P.drop i) / (n*f)/\NineC C' v5 (bC (P.drop i) % (n*f))/\∀ j,j<i->g9 c j=0)/\fr=[(0,[],.slice PA P.length pc),(3,[],.pointer (some ⟨b3,0,none⟩)),(4,[],.pointer (some ⟨e,0,none⟩)),(5,[],v5),(9,[],.int .u64 f),(10,[],.int .u64 (g9 W (W.length-1))),(11,[],.int .i64 ((i:Int)-1))]/\g=[.obj e (.cells ⟨[qU d P.length P.length]⟩ 305 (0,0)),.arr (qU d P.length P.length) 160 1 P.length (c.map ck).flatten]/\E=i+1) (hn_ [0,3,4,5,9,10,11] Z) ⟨P.length,List.replicate P.length 0,_,⟨QG _,Sc,(fun x hx=>by rw [Ss hx];decide),by rw [RW,Tu am];simp [bC],by rw [RW,show bC []=0 from Z,Nat.zero_mod];exact NineC.zero _,fun j _=>BY _ j⟩,Z,Z,Z⟩ (fun fr bX bY m _ F=>?_);obtain ⟨i,c,v5,⟨hi,Y,an,H,aa,ao⟩,rfl,rfl,rfl⟩:=F;refine Ul 2 [0,3,4,5,9,10,11,78] Z ?_;refine Uo (fun aq=>?_) fun aq=>?_
 ·have aN:0<i:=by
   have:(0:Int)<=(i:Int)-1:=by simpa using aq
   omega
  obtain ⟨j,rfl⟩:∃ j,i=j+1:=⟨i-1,by omega⟩;obtain ⟨T,hT⟩:∃ T,bC (P.drop (j+1))=T:=⟨_,rfl⟩;rw [hT] at H aa;have aO:=Rs T A;obtain ⟨I,bd,be,bZ,aP⟩:=aa.get (m:=100001) (S1 aO (dE (k:=100001) (n:=100000+1) (jM (k:=100000) y o) (QG _)));obtain ⟨RA,rc,aQ,_⟩:=id aP;rw [aw] at aQ;subst aQ;obtain ⟨X,hX⟩:∃ X,g9 P j+B9*(T % (n*f))=X:=⟨_,rfl⟩;have aR:=kY a9.1 j;have bf:bC (g9 P j::I)=X:=by rw [bC,be,hX]
  have J:=sS (t:=T) (x:=g9 P j) A;have bg:=mh (t:=T) A aR;rw [hX] at J bg;have ab:bC (P.drop j)=g9 P j+B9*T:=by rw [ft om_,hT]
  refine UN [(7,3)] Z (fun R a=>?_);refine Us 2 Z ?_;refine UD aj.m_ U10 om_ (by rw [show ((((j+1:Nat):Int)-1)).toNat=j by omega];exact jy om_:(P.map ck)[((((j+1:Nat):Int)-1)).toNat]?=some (ck (g9 P j))) fl_ (fun b0 bh=>?_);refine Un bh U8 ?_;refine Vy [ck (g9 P j)] U12 fl_ (fun b1=>?_);refine Up U6 ?_;refine D.append (j:=0) U11 aP.m_ (KZ I) (by simp only [aw,aK,maxLen];omega) (by simp only [aw,aK];omega) fl_ (fun b2=>?_);refine D.call (gA _ _ (g9 P j::I) (n:=1+(I.map ck).length) (by rw [aw];simp;omega)) Z (.inr dc_) U6 (QL _) fl_ (fun bi bj b5 _ bk=>?_);refine C4 1 [0,3,4,5,9,10,11] a Z ?_;clear a R;obtain ⟨rfl,hu⟩:=bk;have K:NineC bj bi X:=⟨EE (g9 P j::I),iD (fun x hx=>(QU.1 hx).elim (fun h=>by rw [h];exact aR) (bd.1 x)),by rw [iC,bf],hu⟩;have aS:X<B9*(n*f):=by
   have h1:B9*(T % (n*f)+1)<=B9*(n*f):=R6 _ aO;rw [R3] at h1;omega
  have aT:X<B9 ^ 100002:=dE (k:=100002) (n:=100001+1) (PB (k:=100001) aS al) (QG _);obtain ⟨b,L,ar,b6,au⟩:=K.get aT;obtain ⟨XA,xc,aU,_⟩:=id au;rw [aw] at aU;subst aU;refine Um 1 Z fun R a=>?_;refine Un (PtrTo.block (Mem.get v mup) _) U8 ?_;refine Uy (pK _ K.m_ ak.m_) U7 ?_;refine C4 1 [0,3,4,5,9,10,11,92] a Z ?_;clear a R;refine Uo (fun av=>?_) fun av=>?_
  ·have aV:X<n*f:=by
    have:jS X (n*f)<0:=by simpa using av
    exact jn.1 this
   refine Um 1 Z fun R a=>?_;refine Uw _ U7 ?_;refine C4 1 [0,3,4,5,9,10,11] a Z ?_;clear a R;rw [show ((j+1:Nat):Int)-1-1=(j:Int)-1 by omega];refine UA (m':=j+1) om_ mup (hn_ [0,3,4,5,9,10,11] Z) ⟨j,c,_,⟨by omega,Y,an,by rw [ft (l:=c) om_,ao j om_,H,ab,J.1,S8 aV];omega,by rw [ab,J.2,S7 aV];exact K.mono mup,fun j' h=>ao j' om_⟩,Z,Z,Z⟩
  have bl:n*f<=X:=by
   have h:¬ jS X (n*f)<0:=by simpa using av
   rw [jn] at h;omega
  have bm:=zD L p (by rw [ar,z];exact bl);have b7:=xK L p (by rw [ar,z];exact aS);have ax:=(uE L p om_ bm).1;obtain ⟨s,ay⟩:∃ s,bC (b.drop (W.length-1))=s:=⟨_,rfl⟩;rw [ar,z,ay] at ax;have b8:=kY L.1 (b.length-1);have b9:=kY L.1 (b.length-2);refine Um 3 Z fun R a=>?_;refine Uw _ U7 ?_;refine UD au.m_ U10 om_ (by rw [show ((b.length:Int)-1).toNat=b.length-1 by omega];exact jy om_:(b.map ck)[((b.length:Int)-1).toNat]?=some (ck (g9 b (b.length-1)))) fl_ (fun ca bn=>?_);refine Un bn U8 ?_;refine C4 1 [0,3,4,5,9,10,11,12] a Z ?_;clear a R;refine Um 2 Z fun R a=>?_;refine Un (PtrTo.block (Mem.get v mup) _) U8 ?_;refine C4 2 [0,3,4,5,9,10,11,12,103] a Z ?_;clear a R;refine G.cut (fun fr C' g E=>(s<1000000000000000000)/\fr=[(0,[],.slice PA P.length pc),(3,[],.pointer (some ⟨b3,0,none⟩)),(4,[],.pointer (some ⟨e,0,none⟩)),(5,[],.slice XA b.length xc),(9,[],.int .u64 f),(10,[],.int .u64 (g9 W (W.length-1))),(11,[],.int .i64 (((j+1:Nat):Int)-1)),(12,[],.int .u64 (s:Nat))]/\g=[.obj e (.cells ⟨[qU d P.length P.length]⟩ 305 (0,0)),.arr (qU d P.length P.length) 160 1 P.length (c.map ck).flatten]) ?_ (fun fr _ cb E _ F=>?_)
  ·refine Uo (fun aA=>?_) fun aA=>?_
   ·have bo:b.length=W.length-1+2:=by
     have:(W.length:Int)<(b.length:Int):=by simpa using aA
     omega
    have M:=JZ bo;rw [ay,show W.length-1+1=b.length-1 by omega,show W.length-1=b.length-2 by omega] at M;have bp:g9 b (b.length-1)*B9<=999999999*B9:=Rz _ om_;rw [show 999999999*B9=999999999000000000 from rfl] at bp;refine Um 1 Z fun R a=>?_;refine D.int (((g9 b (b.length-1)*B9:Nat):Int)) U4 (by rw [show (1000000000:Int)=((B9:Nat):Int) from Z,<- RG,IntKind.wrap_u64];omega) U2 ?_;refine Us 3 Z ?_;refine Uw _ U7 ?_;refine UD au.m_ U10 om_ (by rw [show ((b.length:Int)-2).toNat=b.length-2 by omega];exact jy om_:(b.map ck)[((b.length:Int)-2).toNat]?=some (ck (g9 b (b.length-2)))) fl_ (fun cc bq=>?_);refine Un bq U8 ?_;refine D.int (((s:Nat):Int)) U4 (by rw [M,IntKind.wrap_u64];omega) U2 ?_;refine C4 1 [0,3,4,5,9,10,11,12] a Z ?_;clear a R;refine UB 0 mup (hn_ [0,3,4,5,9,10,11,12] Z) ⟨by omega,Z,Z⟩
   have br:b.length=W.length-1+1:=by
    have:¬ (W.length:Int)<(b.length:Int):=by simpa using aA
    omega
   have M:=BR br;rw [ay,show W.length-1=b.length-1 by omega] at M;rw [<- M];refine UB 0 mup (hn_ [0,3,4,5,9,10,11,12] Z) ⟨by omega,Z,Z⟩
  obtain ⟨cd,rfl,rfl⟩:=F;obtain ⟨N,aB⟩:∃ N,s / g9 W (W.length-1)=N:=⟨_,rfl⟩;rw [aB] at ax;have ce:N<=s:=by rw [<- aB];exact RM _ _
  refine Um 2 Z fun R a=>?_;refine Vu (s) (g9 W (W.length-1)) U6 bb (.inr ⟨Z,by omega⟩) U2 ?_;rw [aB];refine D.min (((min N 999999999:Nat):Int)) Z Z Z Z Z Z om_ Z Z ?_;refine C4 1 [0,3,4,5,9,10,11,12] a Z ?_;clear a R;refine Uq fun R a=>?_;refine Un (PtrTo.block (Mem.get v mup) _) U8 ?_;refine Up U6 ?_;refine UT (yp (k:=100001) _ ak.m_ al om_ om_) U7 fl_ (fun bs _ _ bt=>?_);refine C4 1 [0,3,4,5,9,10,11,12,13] a Z ?_;clear a R;refine G.loop (fun fr C' g E=>∃ (dd:Nat)(aC:Value),(X / (n*f)<=dd/\dd<B9/\NineC C' aC (n*f*dd))/\fr=[(0,[],.slice PA P.length pc),(3,[],.pointer (some ⟨b3,0,none⟩)),(4,[],.pointer (some ⟨e,0,none⟩)),(5,[],.slice XA b.length xc),(9,[],.int .u64 f),(10,[],.int .u64 (g9 W (W.length-1))),(11,[],.int .i64 (((j+1:Nat):Int)-1)),(12,[],.int .u64 (dd:Nat)),(13,[],aC)]/\g=[.obj e (.cells ⟨[qU d P.length P.length]⟩ 305 (0,0)),.arr (qU d P.length P.length) 160 1 P.length (c.map ck).flatten]/\E=dd+1) (hn_ [0,3,4,5,9,10,11,12,13] Z) ⟨min N 999999999,bs,⟨by have h:=Nat.le_min.2 ⟨ax,(by omega:X / (n*f)<=999999999)⟩;exact h,by omega,bt.mono mup⟩,Z,Z,Z⟩ (fun fr cf cg m _ F=>?_);obtain ⟨dd,aC,⟨bu,aW,aD⟩,rfl,rfl,rfl⟩:=F;refine Um 2 Z fun R a=>?_;refine Uy (pK _ aD.m_ K.m_) U7 ?_;refine C4 1 [0,3,4,5,9,10,11,12,13,123] a Z ?_;clear a R;refine Uo (fun aE=>?_) fun aE=>?_
  ·have O:X<n*f*dd:=by
    have:0<jS (n*f*dd) X:=by simpa using aE
    exact F9.1 this
   have bv:1<=dd:=by
    rcases Sb dd with h | h
    ·rw [h] at O;omega
    exact h
   refine Um 1 Z fun R a=>?_;refine Un (PtrTo.block (Mem.get v mup) _) U8 ?_;refine UT (uu (k:=100002) _ aD.m_ ak.m_ (dE (k:=100002) (n:=100001+1) (jM (k:=100001) al aW) (QG _)) (SN _ bv) om_) U7 fl_ (fun bw _ _ aX=>?_);refine C4 1 [0,3,4,5,9,10,11,12,13] a Z ?_;clear a R;refine Um 1 Z fun R a=>?_;refine D.int (((dd-1:Nat):Int)) U4 (by rw [IntKind.wrap_u64];omega) U2 ?_;refine C4 1 [0,3,4,5,9,10,11,12,13] a Z ?_;clear a R;rw [show n*f*dd-n*f=n*f*(dd-1) from by rw [Nat.mul_sub,SL]] at aX;refine UA (m':=dd-1+1) om_ mup (hn_ [0,3,4,5,9,10,11,12,13] Z) ⟨dd-1,bw,⟨by have h:=(SM A).2 (by rw [Rw];exact O);omega,by omega,aX.mono mup⟩,Z,Z,Z⟩
  have O:n*f*dd<=X:=by
   have h:¬ 0<jS (n*f*dd) X:=by simpa using aE
   rw [F9] at h;omega
  have aY:dd=X / (n*f):=Nat.le_antisymm ((Nat.le_div_iff_mul_le A).2 (by rw [Rw];exact O)) bu;have bx:X-n*f*dd=X % (n*f):=by rw [aY];have:=TH X (n*f);omega
  refine UJ [0,1,2,3,4,5,6,7,8] [] Z kr_ (fun R S a=>?_);refine Uu af U9 ?_;refine Us 4 Z ?_;refine UT (uu (k:=100002) _ K.m_ aD.m_ aT O om_) U7 fl_ (fun bz _ _ aZ=>?_);refine UR (j*1) U10 (fun _=>⟨by omega,by omega,(by rw [show (((j+1:Nat):Int)-1).toNat=j by omega])⟩) U2 ?_;refine UW (j:=1) U11 (by show j*1+1<=_;rw [bO eH,Y];omega) ?_;refine Up U6 ?_;refine Ur [0,3,4,5,9,10,11] a Z ?_;clear a S R;refine Um 1 Z fun R a=>?_;refine Uw _ U7 ?_;refine C4 1 [0,3,4,5,9,10,11] a Z ?_;clear a R;rw [show ((j+1:Nat):Int)-1-1=(j:Int)-1 by omega];refine G.perm (L':=[.obj e (.cells ⟨[qU d P.length P.length]⟩ 305 (0,0)),.arr (qU d P.length P.length) 160 1 P.length (az (c.map ck).flatten (ck dd) (j*1))]) (List.Perm.swap _ _ _) ?_;refine UE (L':=[.obj e (.cells ⟨[qU d P.length P.length]⟩ 305 (0,0)),.arr (qU d P.length P.length) 160 1 P.length ((c.set j dd).map ck).flatten]) (by rw [<- bK eH _ (by omega:j<c.length)]) ?_;rw [bx] at aZ;refine UA (m':=j+1) om_ mup (hn_ [0,3,4,5,9,10,11] Z) ⟨j,c.set j dd,bz,⟨by omega,by simp [Y],an.set aW,by rw [lC om_,H,ab,J.1,aY];omega,by rw [ab,J.2];exact aZ.mono mup,fun j' h=>by rw [qq om_];exact ao j' om_⟩,Z,Z,Z⟩
 have aN:i=0:=by
  have:¬ (0:Int)<=(i:Int)-1:=by simpa using aq
  omega
 subst aN;rw [RQ,RQ,ai,Nat.mul_div_mul_right _ _ w] at H;rw [RQ,ai,Nat.mul_mod_mul_right] at aa;refine Um 2 Z fun R a=>?_;refine UI [ck f] U12 (fun ch _ _ bA=>?_);refine UT (sR _ _ _ (m % n*f) f aa.m_ (by
  have h1:=jM (k:=100000) (S1 (Rs m aG) y) o;exact dE (k:=200000) (n:=100000+1) h1 dc_) bA.m_ w o) U7 fl_ (fun ci _ _ bB=>?_)
 obtain ⟨q2,r2,rfl,a1,cj⟩:=bB;rw [Nat.mul_div_cancel _ w] at a1;refine C4 4 [4,5] a Z ?_;clear a R;refine G.perm (L':=[.arr (qU d P.length P.length) 160 1 P.length (c.map ck).flatten,.obj e (.cells ⟨[qU d P.length P.length]⟩ 305 (0,0))]) (List.Perm.swap _ _ _) ?_;refine UN [(1,3)] Z (fun R a=>?_);refine Uu ae U9 ?_;refine D.call (gA _ _ c Y) Z (.inr dc_) U6 (QL _) fl_ (fun cl _ cm _ bD=>?_);refine Up U6 ?_;obtain ⟨rfl,hu⟩:=bD;obtain ⟨Au,cu,rfl,_⟩:=id hu;refine Ux (j:=0) U12 ?_;refine C4 1 [4,5] a Z ?_;clear a R;refine Uz (VT (Bc af Z Z Z Z Z) ?_ Km);exact ⟨Z,_,_,Z,⟨EE c,iD an,by rw [iC,H],hu⟩,a1.mono mup⟩
theorem xq (C:Mem)(a b:Value)(m n:Nat)(g:NineC C a m)(h:NineC C b n)(i:m<B9 ^ 100000)(f:0<n) :
  Pur cx.P 248 [a,b] C fun u D=>∃ q r,u=.tuple #[q,r]/\NineC D q (m / n)/\NineC D r (m % n):=by
 rcases Rh n B9 with c | c
 ·obtain ⟨l,h1,h2,h3,h4⟩:=h.get (m:=1) (by rw [Nat.pow_one];exact c);have j:l≠[]:=fun e=>by rw [e] at h2;rw [<- h2] at f;exact absurd f dc_
  obtain ⟨d,rfl⟩:∃ d,l=[d]:=by
   cases l with
   | nil=>exact absurd rfl j
   | cons d l=>cases l with
    | nil=>exact ⟨d,rfl⟩
    | cons e l=>simp at h3
  have o:d=n:=by rw [<- h2];show d=d+B9*0;omega
  subst o;exact sR C a b m d g (dE (k:=200000) (n:=100000) i dc_) h4 f c
 exact D5 C a b m n g h i c
theorem J9 (C:Mem)(s:Str)(c:UInt8):Gives cx.P 249 [ai s,ai [c]] C (.bool (cM c s).2):=by
 exact Uv func249 8 U3 fun w0=>Ul 1 [0,1] Z<|Um 2 Z fun R a=>Uy (yQ _ s c) U7<|C4 1 [4] a Z<|Ut U2<|⟨Z,Z⟩
theorem EX (C:Mem)(s:Str)(c:UInt8):Gives cx.P 266 [ai s,ai [c]] C (ai (cM c s).1):=by
 refine Uv func266 13 U3 fun w0=>Ul 1 [0,1] Z<|Um 2 Z fun R d=>Uy (yQ _ s c) U7<|Ur [0,1,7] d Z<|Uo (fun a=>?_) fun a=>?_
 ·have h:s.head?=some c:=Rp fun h=>by unfold cM at a;rw [aB h] at a;cases a
  have e:1<=s.length:=by cases s with
   | nil=>cases h
   | cons b s=>simp
  refine Um 3 Z fun R d=>Vn 1 s.length U9 (fun _=>⟨.inr ⟨_,Z⟩,.inl ⟨Z,Z⟩,.inl ⟨Z,Z⟩,by omega,QG _,QG _⟩) U2<|C4 1 [4] d Z<|Ut U2 ?_;unfold cM;rw [aJ h];refine ⟨?_,Z⟩;rw [QV,List.drop_one];rfl
 have h:¬ s.head?=some c:=fun h=>by unfold cM at a;rw [aJ h] at a;cases a
 refine Ul 2 [4] Z<|Ut U2 ?_;unfold cM;rw [aB h];exact ⟨Z,Z⟩
theorem AH (C:Mem)(s:Str)(c:UInt8):Gives cx.P 232 [ai s,ai [c]] C (ai (cM c s).1):=by
 exact Uv func232 8 U3 fun w0=>Ul 1 [0,1] Z<|Um 2 Z fun R a=>Uy (EX _ s c) U7<|C4 1 [4] a Z<|Ut U2<|⟨Z,Z⟩
def eX (z:Int):Int:=if z<0 then -1 else if z=0 then 0 else 1
theorem lV (C:Mem)(z:Int):Gives cx.P 209 [ai (txt z)] C (.int .i64 (eX z)):=by
 refine Uv func209 9 U3 fun w0=>Ul 1 [0] Z ?_
 skip
 refine Ul 3 [0,3] Z<|Uo (fun h3=>?_) fun h3=>?_
 ·have b:z=0:=by
   have h:=lD z;rw [h] at h3;exact aW h3
  exact Ul 1 [2] Z<|Ut U2<|⟨by rw [b];rfl,Z⟩
 have b:z≠0:=by
  have h:=lD z;rw [h] at h3;exact QJ h3
 refine Um 1 Z fun R d=>Uy (J9 _ (txt z) 45) U7<|C4 1 [6] d Z<|Uo (fun a=>?_) fun a=>?_
 ·have c:z<0:=by
   rw [dH] at a;exact aW a
  exact Ul 1 [2] Z<|Ut U2<|⟨by rw [eX,aJ c],Z⟩
 have c:¬ z<0:=by
  rw [dH] at a;exact QJ a
 exact Ul 1 [2] Z<|Ut U2<|⟨by rw [eX,aB c,aB b],Z⟩
theorem sD (C:Mem)(a:Tabs C)(z:Int)(b:-9223372036854775808<=z)(c:z<=9223372036854775807):Gives cx.P 79 [.int .i64 z] C (ai (txt z)):=by
 exact Uv func79 5 U3 fun w0=>Ul 1 [0] Z<|Um 1 Z fun R d=>Uy (jv _ a.m_ z b c) U7<|C4 1 [2] d Z<|Ut U2<|⟨Z,Z⟩
theorem mM (z:Int):(txt z).length<=(bq z.natAbs).length+1:=by unfold txt;split <;> simp
theorem uA (C:Mem)(z:Int)(e:(bq z.natAbs).length<=1000000):Gives cx.P 210 [ai (txt z)] C (ai (txt (-z))):=by
 have f:=mM z;refine Uv func210 14 U3 fun w0=>Ul 1 [0] Z<|Um 1 Z fun R a=>Uy (lV _ z) U7<|Ur [0,4] a Z<|Ul 2 [0,4,5] Z<|Uo (fun h5=>?_) fun h5=>?_
 ·have d:0<z:=by
   have h:eX z=1:=by simpa using h5
   unfold eX at h;split at h
   ·cases h
   split at h
   ·cases h
   omega
  refine Um 1 Z fun R a=>Vm U6 (fun _=>(by simp only [QY,Rq];omega)) U2<|C4 1 [2] a Z<|Ut U2<|⟨?_,Z⟩;unfold txt;rw [aB om_,aJ om_,TP];rfl
 have d:¬ 0<z:=fun h=>by
  have h2:eX z=1:=by unfold eX;rw [aB om_,aB om_]
  rw [h2] at h5;cases h5
 refine Ul 2 [0,9] Z<|Uo (fun b=>?_) fun b=>?_
 ·have c:z<0:=by
   have h:eX z=-1:=by simpa using b
   unfold eX at h;split at h
   ·assumption
   split at h <;> cases h
  refine Um 1 Z fun R a=>Vn 1 (txt z).length U9 (fun _=>⟨.inr ⟨_,Z⟩,.inl ⟨Z,Z⟩,.inl ⟨Z,Z⟩,(by unfold txt;rw [aJ c];simp),QG _,QG _⟩) U2<|C4 1 [2] a Z<|Ut U2<|⟨?_,Z⟩;rw [QV];unfold txt;rw [aJ c,aB om_,TP];rfl
 have c:¬ z<0:=fun h=>by
  have h2:eX z=-1:=by unfold eX;rw [aJ h]
  rw [h2] at b;cases b
 refine Ul 2 [2] Z<|Ut U2<|⟨?_,Z⟩;rw [show z=0 by omega];rfl
theorem HG:∀ {s t:Str},(∀ c∈s,eO c=true)->(∀ c∈t,eO c=true)->s.length=t.length->Lib.compareBytes s t=jS (bX s) (bX t)
 | [],[],_,_,_=>rfl
 | [],_::_,_,_,h=>by simp at h
 | _::_,[],_,_,h=>by simp at h
 | c::s,d::t,hs,g,k=>by
  have e:s.length=t.length:=by simpa using k
  have i:∀ x∈s,eO x=true:=fun x f=>hs x (by simp [f]);have j:∀ x∈t,eO x=true:=fun x f=>g x (by simp [f]);have l:=HG i j e;have h1:=dW i;have h2:=dW j;have m:=hs c am;have n:=g d am;simp only [eO,QQ] at m n;rw [dI,dI,e];rw [e] at h1;simp only [Lib.compareBytes];obtain ⟨p,o⟩:∃ p,10 ^ t.length=p:=⟨_,rfl⟩;rw [o] at h1 h2 ⊢;by_cases a:c<d
  ·rw [aJ a];have r:c.toNat<d.toNat:=a;have h3:(c.toNat-48+1)*p<=(d.toNat-48)*p:=Rz _ om_;rw [R7] at h3;unfold jS;rw [aJ om_]
  rw [aB a];by_cases b:d<c
  ·rw [aJ b];have u:d.toNat<c.toNat:=b;have h3:(d.toNat-48+1)*p<=(c.toNat-48)*p:=Rz _ om_;rw [R7] at h3;unfold jS;rw [aB om_,aJ om_]
  rw [aB b,l];have q:c.toNat=d.toNat:=by
   have h3:¬ c.toNat<d.toNat:=a;have h4:¬ d.toNat<c.toNat:=b;omega
  rw [q];unfold jS;split <;> rename_i h5
  ·rw [aJ om_]
  split <;> rename_i v
  ·rw [aB om_,aJ om_]
  rw [aB om_,aB om_]
theorem qF {a b:Nat}(h:(bq a).length<(bq b).length):a<b:=by
 obtain ⟨h1,h2⟩:=bH a;obtain ⟨h3,h4⟩:=bH b;have c:=Ru.2 h1.2.1;have h5:=dW h1.1;have d:=oy h3 om_;have e:10 ^ (bq a).length<=10 ^ ((bq b).length-1):=Q6 dc_ om_;omega
theorem NV {a b:Nat}(h:(bq a).length=(bq b).length):Lib.compareBytes (bq a) (bq b)=jS a b:=by
 obtain ⟨h1,h2⟩:=bH a;obtain ⟨h3,h4⟩:=bH b;rw [HG h1.1 h3.1 h,h2,h4]
def vy (z w:Int):Int:=if z<w then -1 else if w<z then 1 else 0
theorem eB (z:Int):(z<0/\eX z=-1)∨(z=0/\eX z=0)∨(0<z/\eX z=1):=by
 unfold eX;split
 ·exact .inl ⟨by assumption,Z⟩
 split
 ·exact .inr (.inl ⟨by assumption,Z⟩)
 exact .inr (.inr ⟨by omega,Z⟩)
theorem zz (h:eX z=eX w):vy z w=eX z*jS z.natAbs w.natAbs:=by
 have a:=eB w;rw [<- h] at a;unfold vy jS;rcases eB z with ⟨h1,h2⟩ | ⟨h1,h2⟩ | ⟨h1,h2⟩ <;> rw [h2] at a ⊢
 ·have h3:w<0:=by omega
  split <;> split <;> (try split) <;> omega
 ·have h3:w=0:=by omega
  subst h1 h3;simp
 have h3:0<w:=by omega
 split <;> split <;> (try split) <;> omega
theorem I6 (z:Int):IntKind.i64.wrap (-(eX z))=-(eX z):=by
 rcases eB z with ⟨h1,h2⟩ | ⟨h1,h2⟩ | ⟨h1,h2⟩ <;> rw [h2] <;> rfl
theorem E9 (C:Mem)(a b:Str):Gives cx.P 233 [ai a,ai b] C (.int .i64 (Lib.compareBytes a b)):=yw Tryz.scmp a b C kr_
theorem qj (C:Mem)(z w:Int)(_m:(bq z.natAbs).length<=1000000)(_n:(bq w.natAbs).length<=1000000):Gives cx.P 161 [ai (txt z),ai (txt w)] C (.int .i64 (vy z w)):=by
 have ez:(cM 45 (txt z)).1=bq z.natAbs:=by rw [dH]
 have j:(cM 45 (txt w)).1=bq w.natAbs:=by rw [dH]
 refine Uv func161 41 U3 fun w0=>Ul 1 [0,1] Z<|Um 1 Z fun R b=>Uy (lV _ z) U7<|Up U6<|Uy (lV _ w) U7<|C4 2 [0,1,5,6] b Z<|Ul 3 [0,1,5,6,15] Z<|Uo (fun c=>?_) fun c=>?_
 ·have k:eX z≠eX w:=by simpa using c
  refine Ul 3 [18] Z<|Uo (fun d=>?_) fun d=>?_
  ·have a:eX z<eX w:=by simpa using d
   refine Ul 1 [4] Z<|Ut U2<|⟨?_,Z⟩;rw [vy,aJ (by unfold eX at a;split at a <;> split at a <;> (try split at a) <;> omega)]
  have a:¬ eX z<eX w:=by simpa using d
  refine Ul 1 [4] Z<|Ut U2<|⟨?_,Z⟩;have h:w<z:=by
   have h2:eX w<eX z:=by omega
   unfold eX at h2;split at h2 <;> split at h2 <;> (try split at h2) <;> omega
  rw [vy,aB om_,aJ h]
 have f:eX z=eX w:=by simpa using c
 refine Um 1 Z fun R b=>Uy (AH _ (txt z) 45) U7<|Up U6<|Uy (AH _ (txt w) 45) U7 ?_;rw [ez,j];refine C4 2 [5,7,8] b Z<|Ul 5 [5,7,8,27] Z<|Uo (fun g=>?_) fun g=>?_
 ·have k:(bq z.natAbs).length≠(bq w.natAbs).length:=fun e=>by
   have h:(((bq z.natAbs).length:Nat):Int)≠(((bq w.natAbs).length:Nat):Int):=by simpa using g
   exact h (by rw [e])
  refine Ul 5 [5,32] Z<|Uo (fun i=>?_) fun i=>?_
  ·have a:z.natAbs<w.natAbs:=qF (by
    have h:(((bq z.natAbs).length:Nat):Int)<(((bq w.natAbs).length:Nat):Int):=by simpa using i
    omega)
   refine Ul 3 [4] Z<|Ut U2<|⟨?_,Z⟩;rw [Int.zero_sub,I6,zz f,show jS z.natAbs w.natAbs=-1 from aJ a];congr 1;omega
  have a:w.natAbs<z.natAbs:=qF (by
   have h:¬ (((bq z.natAbs).length:Nat):Int)<(((bq w.natAbs).length:Nat):Int):=by simpa using i
   omega)
  refine Ul 2 [4] Z<|Ut U2<|⟨?_,Z⟩;rw [zz f,show jS z.natAbs w.natAbs=1 from by unfold jS;rw [aB om_,aJ a]];congr 1;omega
 have l:(bq z.natAbs).length=(bq w.natAbs).length:=by
  have h:(((bq z.natAbs).length:Nat):Int)=(((bq w.natAbs).length:Nat):Int):=by simpa using g
  omega
 refine Um 3 Z fun R b=>Uy (E9 _ (bq z.natAbs) (bq w.natAbs)) U7 ?_;rw [NV l];refine UX ((vy z w)) U4 (by rw [zz f]) (by unfold vy;split <;> (try split) <;> omega) (by unfold vy;split <;> (try split) <;> omega) U2 ?_
 exact C4 1 [4] b Z<|Ut U2<|⟨Z,Z⟩
def qM (b:Bool):Int:=if b then 0 else 2
theorem xf (C:Mem)(s:Str):Gives cx.P 207 [ai s] C (.int .i64 (qM (cK s))):=by
 obtain ⟨t,neg,p⟩:∃ t b,cM 45 s=(t,b):=⟨_,_,rfl⟩;have g:cK s=(t.all eO && !(t == []) && !(t.head? == some 48 && (neg || decide (1<t.length))) && decide (t.length<=200)):=by unfold cK xI;rw [p]
 refine Uv func207 47 U3 fun w0=>Ul 1 [0] Z<|Um 1 Z fun R a=>UC (by have h:=HA C s 45;rw [p] at h;exact h) U7 fl_<|C4 5 [3,4] a Z<|Um 6 Z fun R a=>US U8<|Us 2 Z<|Vj (b:=t.headD 0) U8 (fun r=>⟨by omega,(by
  cases t with
  | nil=>exact Bool.noConfusion (show true=false from r.1)
  | cons b t=>rfl)⟩) U2 ?_
 refine Us 7 Z<|US U8<|UM U8<|US U8<|Ur [3,30] a Z<|Uo (fun d=>?_) fun d=>?_
 ·have j:cK s=false:=by
   rw [g];cases t with
   | nil=>simp
   | cons b t =>
    simp at d;rcases d with h | ⟨h,h2⟩
    ·simp;intro _ _;omega
    have e:b=48:=T5.1 (by show b.toNat=48;omega);subst e;have u:(neg || decide (1<((48:UInt8)::t).length))=true:=by
     rcases h2 with h2 | h2
     ·rw [QZ ap];simp
     rw [h2];rfl
    rw [u];simp
  exact Ul 1 [2] Z<|Ut U2<|⟨by rw [j];rfl,Z⟩
 have v:t.length<=200:=by
  simp at d;omega
 refine Ul 3 [3,32,33] Z<|G.loop (fun fr C' w y=>∃ (i:Nat),(i<=t.length/\∀ c∈t.take i,eO c=true)/\fr=[(3,[],ai t),(32,[],.int .i64 t.length),(33,[],.int .i64 i)]/\w=[]/\y=t.length-i) (hn_ [3,32,33] Z) ⟨0,⟨QK _,by simp⟩,Z,Z,Z⟩ (fun fr E F m _ z=>?_);obtain ⟨i,⟨H,k⟩,rfl,rfl,rfl⟩:=z;refine Ul 1 [3,32,33,34] Z<|Uo (fun l=>?_) fun l=>?_
 ·have n:i<t.length:=by simpa using l
  obtain ⟨c,f⟩:∃ c,t[i]?=some c:=⟨t[i],aj n⟩;refine Ul 2 [3,5,32,33] Z<|Um 2 Z fun R a=>Vj U8 (fun _=>⟨by omega,f⟩) U2<|Us 4 Z<|Vj U8 (fun _=>⟨by omega,f⟩) U2<|Up U6<|US U8<|Ur [3,32,33,45] a Z<|Uo (fun o=>?_) fun o=>?_
  ·have j:cK s=false:=by
    have h1:t.all eO=false:=by
     rw [Tv];refine ⟨c,QF f, ?_⟩;simp at o;unfold eO;simp;omega
    rw [g,h1];rfl
   exact Ul 1 [2] Z<|Ut U2<|⟨by rw [j];rfl,Z⟩
  have A:eO c=true:=by
   simp at o;unfold eO;simp;omega
  refine Uq fun R a=>Uw _ U7<|C4 1 [3,32,33] a Z<|UA (m':=t.length-(i+1)) om_ mup (hn_ [3,32,33] Z) ⟨i+1,⟨by omega,fun x q=>by
   rw [Q5,f] at q;rcases QX.1 q with h | h
   ·exact k x h
   simp at h;subst h;exact A⟩,rfl,rfl,rfl⟩
 have n:t.length<=i:=by
  have:¬ i<t.length:=by simpa using l
  omega
 rw [Rr n] at k;have B:t.all eO=true:=Q4.2 k;have D:cK s=true:=by
  rw [g,B,QZ v];cases t with
  | nil=>simp at d
  | cons b t =>
   simp at d;simp;by_cases e:b=48
   ·subst e;have h5:=d.2;simp at h5;exact .inr ⟨h5.2,Rn om_⟩
   exact .inl e
 exact Ul 1 [2] Z<|Ut U2<|⟨by rw [D];rfl,Z⟩
end Go.Proofs.YthnpijdjlddpmaaGreatDoor
