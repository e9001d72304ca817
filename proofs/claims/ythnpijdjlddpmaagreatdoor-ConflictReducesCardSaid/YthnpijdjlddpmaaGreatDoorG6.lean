/- Laws that the proofs of this seat share, part 6. -/
import Derived.Test.YthnpijdjlddpmaaGreatDoorG5
import Derived.Test.YthnpijdjlddpmaaGreatDoorShelf
set_option maxHeartbeats 4000000
namespace Go.Proofs.YthnpijdjlddpmaaGreatDoor
open Go.Proofs.Tryz
open Go Go.Jog
set_option maxRecDepth 100000
variable {Q:Nat}{a b:List Nat}{i j k:Nat}{l:List Nat}{m n:Nat}{o p:List Int}{q:List Nat}{s:Str}{t:Nat}{w:Int}{x:Nat}{z:Int}
theorem G2 (C:Mem)(a:Tabs C)(n:Nat)(h:n<=1000000000000000000):Gives cx.P 123 [.int .i64 n] C (ai (bq n)):=by
 have h1:=LZ C a (n:Int) om_ om_
 rwa [Kf] at h1
theorem jl (C:Mem)(a:Tabs C)(z:Int)(b:-9223372036854775808<=z)(c:z<=9223372036854775807):Gives cx.P 123 [.int .i64 z] C (ai (txt z)):=by
 have h:=LZ C a z b c
 rwa [Ke] at h
theorem NG (C:Mem)(a:Tabs C)(x:Nat)(b:x<10000):Gives cx.P 123 [.int .i64 (10000+x:Nat)] C (ai (49::mG 4 x)):=by
 have h:=G2 C a (10000+x) om_
 rwa [tenK b] at h
theorem eH (h:n<10 ^ k)(a:0<k):(bq n).length<=k:=by
 apply Rq;intro b;have h1:=ot (bC n).1 om_;rw [(bC n).2] at h1;have h2:10 ^ k<=10 ^ ((bq n).length-1):=Rn dc_ om_;omega
theorem uO (h:DigP l):(bq (bM l)).length<=4*l.length+1:=by
 refine eH ?_ om_;have h1:=mI h;rw [<- LM] at h1;have h2:10 ^ (4*l.length)<=10 ^ (4*l.length+1):=Rn dc_ om_;omega
theorem qg (h:k<l.length):(l.map aM)[k]?=some (aM (gP l k))/\l[k]?=some (gP l k):=by
 have e:l[k]?=some (gP l k):=by
  unfold gP;rw [au,aj h];rfl
 exact ⟨by rw [QU,e];rfl,e⟩
theorem Hd (C:Mem)(f:Tabs C)(v:Value)(l:List Nat)(b:Sl C 1 v (l.map aM))(g:CO l)(N:l.length<=100000):Gives cx.P 291 [v] C (ai (bq (bM l))):=by
 obtain ⟨s,c0,rfl,_⟩:=id b;simp only [al] at b ⊢;have c:=g.1;refine UD func291 34 U3 fun w0=>Uu 1 [0] Z<|Uu 3 [0,8] Z<|Ux (fun d=>?_) fun d=>?_
 ·have h0:l=[]:=by
   have:(l.length:Int)=0:=by simpa using d
   exact RB om_
  refine Uu 1 [2] Z<|UC U2<|⟨?_,Z⟩;rw [h0,show bq (bM [])=[48] by rw [bq];rfl];rfl
 have h0:0<l.length:=by
  have:¬ (l.length:Int)=0:=by simpa using d
  omega
 have t:(l.map aM)[((l.length:Int)-1).toNat]?=some (aM (gP l (l.length-1))):=by rw [show ((l.length:Int)-1).toNat=l.length-1 by omega];exact (qg om_).1
 have u:gP l (l.length-1)<10000:=Hf c _;have w:bM (l.drop (l.length-1))=gP l (l.length-1):=by
  rw [Rh om_,TC om_];have h1:=(qg (l:=l) (k:=l.length-1) om_).2;rw [(aD.1 h1).2];simp [bM]
 have x:0<gP l (l.length-1):=by
  have h1:=(qg (l:=l) (k:=l.length-1) om_).2;have h2:=g.2;rw [S8,h1] at h2;rcases Sh (gP l (l.length-1)) with h | h
  ·rw [h] at h2;exact absurd rfl h2
  exact h
 refine Uv 3 Z fun R a=>UF _ U7<|UK b.m_ U10 om_ t fl_ fun O y=>Uw y U8<|UM (G2 _ f.m_ (gP l (l.length-1)) om_) U7 fl_<|C4 1 [0,3] a Z<|Uv 2 Z fun R a=>UF _ U7<|C4 1 [0,3,4] a Z ?_;rw [show (l.length:Int)-2=((l.length-1:Nat):Int)-1 by omega];refine G.loop (fun fr C' z A=>∃ (k:Nat)(o:Str),(k<l.length/\vB o/\bX o=bM (l.drop k)/\0<bX o/\o.length<=25+4*(l.length-k))/\fr=[(0,[],.slice s l.length c0),(3,[],ai o),(4,[],.int .i64 ((k:Int)-1))]/\z=[]/\A=k+1) (hn_ [0,3,4] Z) ⟨l.length-1,bq (gP l (l.length-1)),⟨by omega,(bC _).1,by rw [(bC _).2,w],by rw [(bC _).2];exact x,by
  have h2:=eH (k:=4) (n:=gP l (l.length-1)) u om_;omega⟩,rfl,rfl,rfl⟩ (fun fr Q S m _ B=>?_)
 obtain ⟨k,o,⟨T,i,p,D,U⟩,rfl,rfl,rfl⟩:=B;refine Uu 2 [0,3,4,20] Z<|Ux (fun e=>?_) fun e=>?_
 ·have q:0<k:=by
   have:(0:Int)<=(k:Int)-1:=by simpa using e
   omega
  obtain ⟨j,rfl⟩:∃ j,k=j+1:=⟨k-1,by omega⟩;rw [show ((j+1:Nat):Int)-1=(j:Int) by omega];obtain ⟨E,F⟩:=qg (l:=l) (k:=j) om_;have r:=Hf c j;have H:gP l j<10000:=r;have I:=(kK 4 (gP l j) r).1;refine Uv 2 Z fun R a=>UK b.m_ U10 om_ E fl_ fun V J=>Uw J U8<|Vf (((10000+gP l j:Nat):Int)) U4 om_ om_ om_ U2<|UI (NG _ f.m_ _ H) U7<|C4 1 [0,3,4,5] a Z<|Uv 2 Z fun R a=>Vw 1 (49::mG 4 (gP l j)).length U9 (fun _=>⟨.inr ⟨_,Z⟩,.inl ⟨Z,Z⟩,.inl ⟨Z,Z⟩,by simp,QO _,QO _⟩) U2<|Vu U6 (fun _=>(by simp only [Sv,Q5,Q8];omega)) U2<|C4 1 [0,3,4] a Z<|Uv 1 Z fun R a=>UF _ U7<|C4 1 [0,3,4] a Z ?_;rw [Q2,List.drop_one,List.tail_cons];obtain ⟨K,L,M⟩:=Hc c F i p D;refine UH (m':=j+1) om_ mup (hn_ [0,3,4] Z) ⟨j,o++mG 4 (gP l j),⟨by omega,K,L,M,by rw [QV,I];omega⟩,Z,Z,Z⟩
 have q:k=0:=by
  have:¬ (0:Int)<=(k:Int)-1:=by simpa using e
  omega
 subst q;refine Uu 2 [2] Z<|UC U2<|⟨?_,Z⟩;rw [ou i,p,R0]
def sgZ (m:Bool)(n:Nat):Int:=if m then -(n:Int) else n
theorem Aj (m:Bool)(n:Nat)(h:m=true->0<n):txt (sgZ m n)=if m then 45::bq n else bq n:=by
 unfold txt sgZ;cases m with
 | false=>simp
 | true=>have:=h rfl;simp;omega
theorem GC (C:Mem)(e:Tabs C)(m:Bool)(v:Value)(l:List Nat)(i:Sl C 1 v (l.map aM))(j:DigP l)(k:l.length<=100000):Gives cx.P 264 [.bool m,v] C (ai (txt (sgZ m (bM l)))):=by
 have c:=mj j;have f:(xp l).length<=100000:=by unfold xp;rw [Q5];omega
 have g:(xp l).length=0 ↔ bM l=0:=by rw [<- iu,Cl c,T1]
 refine UD func264 18 U3 fun w0=>Uu 1 [0,1] Z<|Uv 1 Z fun R a=>Ve (Cb _ _ l i) U7 (fun n _ _ d=>?_);obtain ⟨o,p,rfl,_⟩:=id d;rw [al] at d;rw [al];refine C4 1 [0,1] a Z<|Uv 5 Z fun R a=>UU U8<|UA [1,12] a Z<|Ux (fun b=>?_) fun b=>?_
 ·have hm:m=true/\0<bM l:=by
   simp at b;refine ⟨b.1, ?_⟩;have h2:=b.2;rcases Sh (bM l) with h | h
   ·have:=g.2 h;omega
   exact h
  refine Uv 1 Z fun R a=>UI (Hd _ e.m_ _ (xp l) d.m_ c f) U7<|Vu U6 (fun _=>(by have:=uO c.1;simp only [Q8,Q7];omega)) U2<|C4 1 [4] a Z<|UC U2<|⟨?_,Z⟩;rw [Aj m _ (fun _=>hm.2),aW hm.1,iu];rfl
 have hm:m=true->bM l=0:=fun h=>by
  rcases Sh (xp l).length with h0 | h0
  ·exact g.1 h0
  exfalso;have h1:decide ((0:Int)<((xp l).length:Nat))=true:=Ra om_;rw [h,h1] at b;cases b
 refine Uv 1 Z fun R a=>UI (Hd _ e.m_ _ (xp l) d.m_ c f) U7<|C4 1 [4] a Z<|UC U2<|⟨?_,Z⟩;rw [iu];congr 1;cases m with
 | false=>rw [Aj false _ (fun h=>by cases h)];rfl
 | true=>rw [hm rfl];rfl
def gI (p:List Int)(i:Nat):Int:=p.getD i 0
theorem Hh (h:k<p.length):(p.map me)[k]?=some (me (gI p k))/\p[k]?=some (gI p k):=by
 have e:p[k]?=some (gI p k):=by
  unfold gI;rw [au,aj h];rfl
 exact ⟨by rw [QU,e];rfl,e⟩
theorem su (h:p.length<=k):gI p k=0:=by
 unfold gI;rw [au,QY h];rfl
theorem Mt (p:List Int)(k:Nat):iP (p.take (k+1))=iP (p.take k)+(10000:Int) ^ k*gI p k:=by
 rcases Rr k p.length with h | h
 ·exact ES (Hh h).2
 rw [su h,Re h,Re om_];simp
theorem FN (o:Int):(o-o % 10000).tdiv 10000=(o-o % 10000) / 10000:=Int.tdiv_eq_ediv_of_dvd (Int.dvd_of_emod_eq_zero om_)
theorem KZ (C:Mem)(v:Value)(p:List Int)(g:Sl C 1 v (p.map me))(F:0<=iP p)(H:∀ x∈p, -1000000000000<=x/\x<=1000000000000)(N:p.length<=100000):Pur cx.P 290 [v] C fun u D=>PieC D u (iP p).toNat:=by
 obtain ⟨k,c0,rfl,_⟩:=id g;simp only [al] at g ⊢;refine UD func290 43 U3 fun w0=>Uu 1 [0] Z<|Uu 1 [0,3] Z<|Uu 1 [0,3,4] Z<|Uu 1 [0,3,4,5] Z<|G.nilArr 3 1<|G.loop (fun fr C' b c=>∃ (i:Nat)(o:Int)(out:List Nat)(w:Value),(out.length=i/\DigP out/\-1000000000000<=o/\o<=1000000000000/\iP (p.take i)=(bM out:Nat)+(10000:Int) ^ i*o/\(p.length<=i->(i:Int)+o<=1000000100000))/\fr=[(0,[],.slice k p.length c0),(3,[],w),(4,[],.int .i64 o),(5,[],.int .i64 i)]/\b=[.arr w 3 1 i (out.map aM).flatten]/\c=(p.length-i)*4611686018427387904+o.natAbs) (hn_ [0,3,4,5] Z) ⟨0,0,[],_,⟨Z,(fun x I=>(by cases I)),by omega,by omega,by simp [iP,bM],fun h=>by omega⟩,Z,Z,Z⟩ (fun fr O Q m _ d=>?_);obtain ⟨i,o,out,w,⟨e,l,S,T,n,B⟩,rfl,rfl,rfl⟩:=d;have q:p.length<=i->0<=o:=fun h=>by
  refine JJ e l (V:=iP p) F ?_;rw [<- n,Re h]
 have U:(i:Int)<=1000000100000:=by
  rcases Rr i p.length with h | h
  ·omega
  have:=q h;have:=B h;omega
 refine Uv 7 Z fun R a=>U1 U8<|UA [0,3,4,5,14] a Z<|Ux (fun r=>?_) fun r=>?_
 ·have s:i<p.length∨o≠0:=by
   simp at r;omega
  have W:-1000000000000<=gI p i/\gI p i<=1000000000000:=by
   rcases Rr i p.length with h | h
   ·exact H _ (QQ (Hh h).2)
   rw [su h];omega
  refine Uu 4 [0,3,4,5,20] Z<|G.cut (fun fr C' b c=>(True)/\fr=[(0,[],.slice k p.length c0),(3,[],w),(4,[],.int .i64 (o+gI p i)),(5,[],.int .i64 i)]/\b=[.arr w 3 1 i (out.map aM).flatten]) ?_ (fun fr _ X c _ d=>?_)
  ·refine Ux (fun t=>?_) fun t=>?_
   ·have f:i<p.length:=by simpa using t
    refine Uv 3 Z fun R a=>UK g.m_ U10 om_ (Hh f).1 fl_ fun Y J=>Uw J U8<|UF _ U7<|C4 1 [0,3,4,5] a Z<|UL 0 (Mem.le.refl _) (hn_ [0,3,4,5] Z) ⟨trivial,Z,Z⟩
   have f:p.length<=i:=by
    have:¬ i<p.length:=by simpa using t
    omega
   rw [show o=o+gI p i by rw [su f,Int.add_zero]];refine UL 0 (Mem.le.refl _) (hn_ [0,3,4,5] Z) ⟨trivial,by rw [su f];simp,Z⟩
  obtain ⟨_,rfl,rfl⟩:=d;refine Uv 1 Z fun R a=>WU (Int.tmod (o+gI p i) 10000) Z Z Z Z Z Z om_ Z Z Z<|C4 1 [0,3,4,5,6] a Z ?_;have y:=Jp (o+gI p i);have aa:-10000<=Int.tmod (o+gI p i) 10000/\Int.tmod (o+gI p i) 10000<10000:=by
   have:=Uf (o+gI p i) (show (10000:Int)≠0 by decide);have:=Int.emod_lt_of_pos (o+gI p i) (show (0:Int)<10000 by decide);split at y <;> omega
  refine Uu 2 [0,3,4,5,6,30] Z<|G.cut (fun fr C' b c=>(True)/\fr=[(0,[],.slice k p.length c0),(3,[],w),(4,[],.int .i64 (o+gI p i)),(5,[],.int .i64 i),(6,[],.int .i64 (((o+gI p i) % 10000).toNat:Nat))]/\b=[.arr w 3 1 i (out.map aM).flatten]) ?_ (fun fr _ ab c _ d=>?_)
  ·refine Ux (fun z=>?_) fun z=>?_
   ·have A:Int.tmod (o+gI p i) 10000<0:=by simpa using z
    rw [aW A] at y;refine Uv 1 Z fun R a=>Vf (((((o+gI p i) % 10000).toNat:Nat):Int)) U4 om_ om_ om_ U2<|C4 1 [0,3,4,5,6] a Z<|UL 0 (Mem.le.refl _) (hn_ [0,3,4,5,6] Z) ⟨trivial,Z,Z⟩
   have A:¬ Int.tmod (o+gI p i) 10000<0:=by simpa using z
   rw [az A] at y;rw [show Int.tmod (o+gI p i) 10000=((((o+gI p i) % 10000).toNat:Nat):Int) by omega];refine UL 0 (Mem.le.refl _) (hn_ [0,3,4,5,6] Z) ⟨trivial,Z,Z⟩
  obtain ⟨_,rfl,rfl⟩:=d;refine Uv 2 Z fun R a=>UR [aM (((o+gI p i) % 10000).toNat)] U12 fun ac _ _ K=>D.append (j:=0) U11 K Z ax (by show (i+1)*8<=_;omega) fl_ fun E=>C4 1 [0,3,4,5,6] a Z<|Uv 2 Z fun R a=>Vf ((o+gI p i-(o+gI p i) % 10000)) U4 om_ om_ om_ U2<|VK ((o+gI p i-(o+gI p i) % 10000) / 10000) U6 om_ (FN _) (by rw [IntKind.wrap_i64];omega) U2<|C4 1 [0,3,4,5] a Z<|Uv 1 Z fun R a=>UF _ U7<|C4 1 [0,3,4,5] a Z ?_;have hm:(p.length-(i+1))*4611686018427387904+((o+gI p i-(o+gI p i) % 10000) / 10000).natAbs<(p.length-i)*4611686018427387904+o.natAbs:=by
   rcases Rr i p.length with h2 | h2
   ·omega
   have h3:=q h2;rw [su h2];omega
  refine UN (L':=[.arr E 3 1 (i+1) ((out++[((o+gI p i) % 10000).toNat]).map aM).flatten]) (by simp [aM])<|UH (m':=(p.length-(i+1))*4611686018427387904+((o+gI p i-(o+gI p i) % 10000) / 10000).natAbs) om_ mup (hn_ [0,3,4,5] Z) ⟨i+1,(o+gI p i-(o+gI p i) % 10000) / 10000,out++[((o+gI p i) % 10000).toNat],E,⟨by simp [e],l.snoc (by show ((o+gI p i) % 10000).toNat<10000;omega),by omega,by omega,by
   refine HV e ?_;rw [Mt,n,T5];omega,fun h=>by
   rcases Rr i p.length with h2 | h2
   ·omega
   have h3:=q h2;have h4:=B h2;rw [su h2] at *;omega⟩,rfl,rfl,rfl⟩
 have s:p.length<=i/\o=0:=by
  simp at r;omega
 refine UW [(1,3)] Z fun R a=>Uy U6<|D.call (uP _ _ out e) Z (.inr dc_) U6 (QW _) fl_ (fun ad _ ae _ L=>?_);obtain ⟨rfl,M⟩:=L;refine C4 1 [2] a Z<|UC U2<|⟨Z,xp out,mj l, ?_,M⟩;rw [Re s.1,s.2] at n;rw [iu];omega
theorem zZ:∀ (l:List Int)(i:Nat)(x:Int),i<l.length->iP (l.set i x)=iP l+(10000:Int) ^ i*(x-gI l i)
 | [],i,x,h=>by simp at h
 | a::l,0,x,_=>by
  show x+10000*iP l=a+10000*iP l+1*(x-a);omega
 | a::l,i+1,x,h=>by
  have b:=zZ l i x (by simpa using h);show a+10000*iP (l.set i x)=a+10000*iP l+(10000:Int) ^ (i+1)*(x-gI l i);rw [b,T5,<- Int.mul_assoc,Int.pow_succ,Int.mul_comm ((10000:Int) ^ i) 10000];omega
theorem ER (l:List Int):iP (l++[0])=iP l:=by rw [vG];omega
structure Joins (p q:List Nat)(k:Int)(i:Nat)(o:List Int):Prop where
 len:o.length=max p.length i
 val:iP o=(bM p:Nat)+k*(bM (q.take i):Nat)
 rest:∀ j,i<=j->gI o j=(gP p j:Nat)
 lim:∀ x∈o, -100000000<=x/\x<=100000000
theorem PE (p:List Nat)(j:Nat):gI (p.map fun x:Nat=>(x:Int)) j=(gP p j:Nat):=by
 unfold gI gP;rw [au,au,QU];cases p[j]? <;> rfl
theorem yH (p q:List Nat)(k:Int)(a:DigP p):Joins p q k 0 (p.map fun x:Nat=>(x:Int)):=by
 refine ⟨by simp,by rw [Aa];simp [bM],fun j _=>PE p j,fun x b=>?_⟩;obtain ⟨y,hy,rfl⟩:=QX.1 b;have:y<10000:=a y hy;omega
theorem Joins.zero {p:List Nat}{k:Int}(h:Joins p q k i o)(c:o.length<=i):iP (o++[0])=(bM p:Nat)+k*(bM (q.take i):Nat)/\(∀ j,i<=j->gI (o++[0]) j=(gP p j:Nat))/\(∀ x∈o++[0], -100000000<=x/\x<=100000000):=by
 refine ⟨by rw [ER,h.val],fun j a=>?_,fun x b=>?_⟩
 ·have h1:=h.rest j a;have h2:gI o j=0:=by unfold gI;rw [au,QY om_];rfl
  rw [<- h1,h2];unfold gI;rw [au,Ro om_];cases j-o.length <;> rfl
 rcases Q6.1 b with h1 | h1
 ·exact h.lim x h1
 simp at h1;subst h1;omega
theorem Hg {x:Int}(h:i≠j):gI (o.set i x) j=gI o j:=by
 unfold gI;rw [au,au,Uh h]
theorem DJ {p:List Nat}{k:Int}{y:Nat}(d:DigP p)(f:DigP q)(a:-9999<=k/\k<=9999)(b:q[i]?=some y)(g:o.length=max p.length (i+1))
  (h:iP o=(bM p:Nat)+k*(bM (q.take i):Nat)) (c:∀ j,i<=j->gI o j=(gP p j:Nat)) (l:∀ x∈o, -100000000<=x/\x<=100000000) :
  Joins p q k (i+1) (o.set i (gI o i+k*(y:Nat))):=by
 have n:y<10000:=f y (QQ b);have r:gP p i<10000:=Hf d i;have s:-99980001<=k*(y:Int)/\k*(y:Int)<=99980001:=by
  have h0:(0:Int)<=y:=by omega
  have h1:k*(y:Int)<=9999*(y:Int):=Tc a.2 h0;have h2:(-9999:Int)*(y:Int)<=k*(y:Int):=Tc a.1 h0;omega
 refine ⟨by rw [RK];exact g, ?_,fun j t=>?_,fun x m=>?_⟩
 ·rw [zZ o i _ om_,h,iO b];have e:((bM (q.take i)+BP ^ i*y:Nat):Int)=(bM (q.take i):Nat)+(10000:Int) ^ i*(y:Int):=by
   rw [Tx,RN,Int.natCast_pow];rfl
  rw [e,T5,show gI o i+k*(y:Int)-gI o i=k*(y:Int) by omega,Int.mul_left_comm];omega
 ·rw [Hg om_];exact c j om_
 rcases Ts m with h1 | h1
 ·exact l x h1
 subst h1;rw [c i (QO _)];omega
theorem BR (h:k<p.length):p[k]?=some (gI p k):=by
 unfold gI;rw [au,aj h];rfl
theorem nk (h:CO l)(a:bM l<BP ^ m):l.length<=m:=by
 apply Rq;intro b;have h1:=vc h om_;have h2:BP ^ m<=BP ^ (l.length-1):=Rn dc_ om_;omega
theorem uJ (x:Int):(me x).length=1:=rfl
theorem fx (x:Nat):(aM x).length=1:=rfl
theorem HW (C:Mem)(v:Value)(p:List Int)(a:p.length=n)(b:0<=iP p)(c:∀ x∈p, -1000000000000<=x/\x<=1000000000000)(d:p.length<=100000):Jog.Fn cx.P 290 [v] C [.arr v 3 1 n (p.map me).flatten] fun u C' e=>e=[]/\PieC C' u (iP p).toNat :=
 Jog.Fn.give (p.map me) kr_ (by intro r hr;obtain ⟨y,_,rfl⟩:=QX.1 hr;rfl) (by rw [al,a]) (fun C' _ hs=>KZ C' v p hs b c d)
theorem wV (C:Mem)(I J:Value)(p q:List Nat)(k:Int)(V:Sl C 1 I (p.map aM))(d:Sl C 1 J (q.map aM))(K:DigP p)(L:DigP q)(f:-9999<=k/\k<=9999)(W:0<=(bM p:Int)+k*(bM q:Int))(aq:p.length<=50000)(ar:q.length<=50000) :
  Pur cx.P 263 [I,J,.int .i64 k,.int .i64 0] C fun u D=>PieC D u ((bM p:Int)+k*(bM q:Int)).toNat:=by
 obtain ⟨M,c0,rfl,_⟩:=id d;simp only [al] at d ⊢;refine UD func263 45 U3 fun w0=>Uu 1 [0,1,2,3] Z<|Uz fun R a=>VA [] U12 fl_ fun au=>Uy U6<|D.append (j:=0) U11 V (by rw [Q4];intro r hr;obtain ⟨y,_,rfl⟩:=QX.1 hr;rfl) (by rw [al];simp only [Q7,maxLen];omega) (by rw [al];show (0+p.length)*8<=_;omega) fl_ fun X=>C4 1 [1,2,3,9] a Z<|Uu 1 [1,2,3,9,10] Z<|UN (L':=[.arr X 3 1 (p.map fun x:Nat=>(x:Int)).length (((p.map fun x:Nat=>(x:Int)).map me).flatten)]) (by rw [RG];simp;rfl)<|G.loop (fun fr C' c g=>∃ (i:Nat)(o:List Int)(w:Value),(i<=q.length/\Joins p q k i o)/\fr=[(1,[],.slice M q.length c0),(2,[],.int .i64 k),(3,[],.int .i64 0),(9,[],w),(10,[],.int .i64 i)]/\c=[.arr w 3 1 o.length (o.map me).flatten]/\g=q.length-i) (hn_ [1,2,3,9,10] Z) ⟨0,_,_,⟨QT _,yH p q k K⟩,Z,Z,Z⟩ (fun fr av aw m _ n=>?_);obtain ⟨i,o,w,⟨hi,b⟩,rfl,rfl,rfl⟩:=n;refine Uu 4 [1,2,3,9,10,17] Z<|Ux (fun z=>?_) fun z=>?_
 ·have A:i<q.length:=by simpa using z
  have ay:=b.len;refine G.loop (fun fr C' c g=>∃ (o2:List Int)(B:Value),((o2=o∨(o2=o++[0]/\o.length<=i)))/\fr=[(1,[],.slice M q.length c0),(2,[],.int .i64 k),(3,[],.int .i64 0),(9,[],B),(10,[],.int .i64 i)]/\c=[.arr B 3 1 o2.length (o2.map me).flatten]/\g=i+1-o2.length) (hn_ [1,2,3,9,10] Z) ⟨o,w,.inl Z,Z,Z,Z⟩ (fun fr az aA m _ n=>?_);obtain ⟨o2,B,E,rfl,rfl,rfl⟩:=n;refine Xc 0 Z (fun Y N he=>?_);subst he;have aB:o2.length<=50002:=by
   have h1:o2.length<=o.length+1:=by
    have h2:=E.imp (fun e=>congrArg List.length e) (fun e=>congrArg List.length e.1);rw [QV,aK] at h2;omega
   omega
  refine Uv 4 Z fun R a=>Vf (((i:Nat):Int)) U4 om_ om_ om_ U2<|C4 1 [1,2,3,9,10,25] a Z<|Ux (fun F=>?_) fun F=>?_
  ·have O:o2.length<=i:=by
    have:(o2.length:Int)<=i:=by simpa using F
    omega
   have aa:o2=o:=by
    refine E.elim id fun h=>?_;have:=h.1 ▸ O;rw [QV,aK] at this;omega
   subst aa;refine Uv 1 Z fun R a=>UR [me 0] U12 fun aC _ _ ab=>D.append (j:=0) U11 ab Z ax (by show (o2.length+1)*8<=_;omega) fl_ fun Q=>C4 1 [1,2,3,9,10] a Z<|UN (L':=[.arr Q 3 1 (o2++[0]).length ((o2++[0]).map me).flatten]) (by simp [me]) ?_;have aD:i+1-(o2++[0]).length<i+1-o2.length:=by rw [QV,aK];omega
   refine UH (m':=i+1-(o2++[0]).length) om_ mup (hn_ [1,2,3,9,10] Z) ⟨o2++[0],Q,.inr ⟨Z,O⟩,Z,Z,Z⟩
  have H:i<o2.length:=by
   have:¬ (o2.length:Int)<=i:=by simpa using F
   omega
  have ac:o2.length=max p.length (i+1)/\iP o2=(bM p:Nat)+k*(bM (q.take i):Nat)/\(∀ j,i<=j->gI o2 j=(gP p j:Nat))/\(∀ x∈o2, -100000000<=x/\x<=100000000):=by
   refine E.elim (fun h=>?_) fun h=>?_
   ·subst h;exact ⟨by omega,b.val,b.rest,b.lim⟩
   obtain ⟨h1,h2⟩:=h;subst h1;have h3:=b.zero h2;exact ⟨by rw [QV,aK];omega,h3⟩
  obtain ⟨ad,ae,ag,S⟩:=ac;obtain ⟨ai,aj⟩:=qg (l:=q) (k:=i) A;have aE:gP q i<10000:=Hf L i;have aF:-99980001<=k*((gP q i:Nat):Int)/\k*((gP q i:Nat):Int)<=99980001:=by
   have h0:(0:Int)<=((gP q i:Nat):Int):=by omega
   have h1:k*((gP q i:Nat):Int)<=9999*((gP q i:Nat):Int):=Tc f.2 h0;have h2:(-9999:Int)*((gP q i:Nat):Int)<=k*((gP q i:Nat):Int):=Tc f.1 h0;omega
  have aG:=S _ (QQ (BR H));refine WA 0 (m:=o2.length-1) (v:=.slice Y o2.length N) (t:=3) (s:=1) (xs:=(o2.map me).flatten) (by rw [show o2.length-1+1=o2.length by omega];rfl) (fun g0 cc ak=>?_);injection ak with am aH an;subst am an;refine US [0,1,2,3,4,5,6,7,8,9,10,11,12,13,14] [] Z kr_ fun R hB a=>UB 3 Z<|Vf (((i:Nat):Int)) U4 om_ om_ om_ U2<|Va (i*1) U10 ah U2<|Vn af U6 (fun _=>(by rw [eE uJ (BR H)];rfl)) U2<|UB 3 Z<|UK d.m_ U10 om_ ai fl_ fun aI ao=>Uw ao U8<|UF _ U7<|UF _ U7<|Va (i*1) U10 ah U2<|Vc (j:=0) U11 (by show i*1+1<=_;rw [bS uJ];omega)<|UA [1,2,3,9,10] a Z<|Uv 1 Z fun R a=>UF _ U7<|C4 1 [1,2,3,9,10] a Z<|UN (L':=[.arr (.slice (some ⟨g0,0,none⟩) o2.length N) 3 1 (o2.set i (gI o2 i+k*((gP q i:Nat):Int))).length ((o2.set i (gI o2 i+k*((gP q i:Nat):Int))).map me).flatten]) (by rw [<- bN uJ _ H,RK];rfl)<|UH (m':=q.length-(i+1)) om_ mup (hn_ [1,2,3,9,10] Z) ⟨i+1,_,_,⟨by omega,DJ K L f aj ad ae ag S⟩,Z,Z,Z⟩
 have A:i=q.length:=by
  have:¬ i<q.length:=by simpa using z
  omega
 have T:iP o=(bM p:Int)+k*(bM q:Int):=by rw [b.val,A,Q2]
 refine UW [(1,3)] Z fun R a=>Uy U6<|D.call (HW _ _ o Z (by rw [T];exact W) (fun x hx=>by have:=b.lim x hx;omega) (by have:=b.len;omega)) Z (.inr dc_) U6 (QW _) fl_ (fun aJ _ aL _ ap=>?_);obtain ⟨rfl,U⟩:=ap;refine C4 1 [8] a Z<|UC U2 ?_;rw [T] at U;exact ⟨Z,U⟩
theorem OB (n:Nat):kl ([.int .i64 0]:List Value) n=((List.replicate n 0).map aM).flatten:=by
 rw [ek,TY];rfl
theorem vF (h:j<l.length):bM (l.drop j)=gP l j+BP*bM (l.drop (j+1)):=by
 rw [Rh h,(aD.1 (qg h).2).2];rfl
theorem tH (h:j<l.length):bM ((l.set j x).drop j)=x+BP*bM (l.drop (j+1)):=by
 rw [vF (by rw [RK];exact h),List.drop_set_of_lt om_];congr 1;unfold gP;rw [au,T6 h];rfl
theorem KC (h:DigP l)(a:x<BP):DigP (l.set j x):=fun y hy=>by
 rcases Ts hy with h1 | h1
 ·exact h y h1
 rw [h1];exact a
theorem Bq (C:Mem)(O Q:Value)(p q:List Nat)(v:Sl C 1 O (p.map aM))(g:Sl C 1 Q (q.map aM))(ai:DigP p)(w:CO q)(i:0<bM q)(aG:p.length<=10000)(aH:q.length<=10000) :
  Pur cx.P 261 [O,Q] C fun u D=>∃ u1 S,u=.tuple #[u1,S]/\PieC D u1 (bM p / bM q)/\PieC D S (bM p % bM q):=by
 obtain ⟨T,c0,rfl,_⟩:=id v;obtain ⟨U,V,rfl,_⟩:=id g;simp only [al] at v g ⊢;refine UD func261 58 U3 fun w0=>Uu 2 [0,1] Z<|Uv 2 Z fun R b=>Vy U9 (QO _) (by show 8*p.length<=281474976710656;omega) (by simp only [maxLen];omega) fl_ fun d=>C4 1 [0,1,6] b Z<|Uu 1 [0,1,6,7] Z<|Uv 2 Z fun R b=>UF _ U7<|C4 1 [0,1,6,7,8] b Z<|UN (L':=[.arr (qW d p.length p.length) 3 1 p.length ((List.replicate p.length 0).map aM).flatten]) (by rw [<- OB];rfl)<|G.loop (fun fr C' e z=>∃ (k:Nat)(o l:List Nat)(A:Value),(k<=p.length/\o.length=p.length/\DigP o/\bM (o.drop k)=bM (p.drop k) / bM q/\Sl C' 1 A (l.map aM)/\CO l/\bM l=bM (p.drop k) % bM q)/\fr=[(0,[],.slice T p.length c0),(1,[],.slice U q.length V),(6,[],qW d p.length p.length),(7,[],A),(8,[],.int .i64 ((k:Int)-1))]/\e=[.arr (qW d p.length p.length) 3 1 p.length (o.map aM).flatten]/\z=k+1) (hn_ [0,1,6,7,8] Z) ⟨p.length,List.replicate p.length 0,[],.slice none 0 0,⟨QO _,Sj,(fun x c=>by rw [S1 c];decide),by rw [RM,TC am];simp [bM],Sl.nil _ _,⟨fun x c=>(by cases c),by simp⟩,by rw [RM];simp [bM]⟩,Z,Z,Z⟩ (fun fr aI aJ m _ B=>?_);obtain ⟨k,o,l,A,⟨hk,W,X,Y,hs,E,F⟩,rfl,rfl,rfl⟩:=B;refine Uu 2 [0,1,6,7,8,19] Z<|Ux (fun H=>?_) fun H=>?_
 ·have aa:0<k:=by
   have:(0:Int)<=(k:Int)-1:=by simpa using H
   omega
  obtain ⟨j,rfl⟩:∃ j,k=j+1:=⟨k-1,by omega⟩;rw [show ((j+1:Nat):Int)-1=(j:Int) by omega];obtain ⟨aj,aL⟩:=qg (l:=p) (k:=j) om_;have c:gP p j<BP:=Hf ai j;have aN:gP p j<10000:=c;have aO:l.length<=q.length:=nk E (by rw [F];exact Tb (Ry _ i) (mI w.1));have ak:DigP (gP p j::l):=fun y hy=>by
   rcases Q3.1 hy with h | h
   ·rw [h];exact c
   exact E.1 y h
  refine UW [(7,3)] Z fun R b=>UB 2 Z<|UK v.m_ U10 om_ aj fl_ fun aP an=>Uw an U8<|VA [aM (gP p j)] U12 fl_ fun aQ=>Uy U6<|D.append (j:=0) U11 hs.m_ (by rw [Q4];intro r hr;obtain ⟨y,_,rfl⟩:=QX.1 hr;rfl) (by rw [al];simp only [aK,maxLen];omega) (by rw [al];show (1+l.length)*8<=_;omega) fl_ fun aR=>D.call (uP _ _ (gP p j::l) (n:=1+(l.map aM).length) (by rw [al];simp;omega)) Z (.inr dc_) U6 (QW _) fl_ (fun ab ao aS _ ap=>?_);obtain ⟨rfl,I⟩:=ap;refine C4 1 [0,1,6,7,8] b Z ?_;obtain ⟨r,ac,J,ad,aT⟩:∃ r,CO r/\bM r=gP p j+BP*(bM (p.drop (j+1)) % bM q)/\Sl ao 1 ab (r.map aM)/\r.length<=20000:=⟨xp (gP p j::l),mj ak,by rw [iu];show gP p j+BP*bM l=_;rw [F],I,by unfold xp;rw [Q5,Q8];omega⟩;have K:=Ht (t:=bM (p.drop (j+1))) (x:=gP p j) i;rw [<- vF om_,<- J] at K;have aq:bM r / bM q<BP:=by rw [J];exact xk i c
  have aU:bM r / bM q<10000:=aq;refine Uu 2 [0,1,6,7,8,9,10] Z<|G.loop (fun fr C' e z=>∃ (low a:Nat),(low<=bM r / bM q/\bM r / bM q<=a/\a<=9999)/\fr=[(0,[],.slice T p.length c0),(1,[],.slice U q.length V),(6,[],qW d p.length p.length),(7,[],ab),(8,[],.int .i64 j),(9,[],.int .i64 low),(10,[],.int .i64 a)]/\e=[.arr (qW d p.length p.length) 3 1 p.length (o.map aM).flatten]/\z=a-low) (hn_ [0,1,6,7,8,9,10] Z) ⟨0,9999,⟨QT _,by omega,QO _⟩,Z,Z,Z⟩ (fun fr aV aW m _ B=>?_);obtain ⟨low,a,⟨ar,au,av⟩,rfl,rfl,rfl⟩:=B;refine Uu 3 [0,1,6,7,8,9,10,32] Z<|Ux (fun L=>?_) fun L=>?_
  ·have s:low<a:=by simpa using L
   obtain ⟨aw,ax⟩:=NM i ar au s;refine Uv 2 Z fun R b=>UF _ U7<|UF _ U7<|VK ((((low+a+1) / 2:Nat):Int)) U6 om_ (by rw [Tr om_];omega) (by rw [IntKind.wrap_i64];omega) U2<|C4 1 [0,1,6,7,8,9,10,11] b Z<|Uv 3 Z fun R b=>U0 (wV _ _ _ [] q ((((low+a+1) / 2:Nat):Int)) (Sl.nil _ _) g.m_ (fun x c=>(by cases c)) w.1 om_ (by rw [<- RN];omega) am om_) U7 fl_ (fun aX _ _ ay=>?_);obtain ⟨l2,az,aA,aB⟩:=ay;have ae:bM l2=bM q*((low+a+1) / 2):=by
    have h0:((bM ([]:List Nat):Nat):Int)=0:=rfl;rw [aA,h0,Int.zero_add,<- RN,Sx,RF]
   refine UI (JH _ _ _ r l2 ad.m_ aB.m_ ac az) U7<|UA [0,1,6,7,8,9,10,11,42] b Z<|Ux (fun M=>?_) fun M=>?_
   ·have N:bM r<bM q*((low+a+1) / 2):=by
     rw [<- ae];simpa using M
    have f:=aw N;refine Uv 1 Z fun R b=>UF _ U7<|C4 1 [0,1,6,7,8,9,10] b Z ?_;rw [show ((((low+a+1) / 2:Nat):Int))-1=(((low+a+1) / 2-1:Nat):Int) by omega];refine UH (m':=(low+a+1) / 2-1-low) om_ mup (hn_ [0,1,6,7,8,9,10] Z) ⟨low,(low+a+1) / 2-1,⟨f.1,f.2,by omega⟩,Z,Z,Z⟩
   have N:¬ bM r<bM q*((low+a+1) / 2):=by
    rw [<- ae];simpa using M
   have f:=ax N;refine Uu 2 [0,1,6,7,8,9,10] Z<|UH (m':=a-(low+a+1) / 2) om_ mup (hn_ [0,1,6,7,8,9,10] Z) ⟨(low+a+1) / 2,a,⟨f.1,f.2,av⟩,Z,Z,Z⟩
  have s:low=bM r / bM q:=by
   have:¬ low<a:=by simpa using L
   omega
  have af:((bM r:Nat):Int) + -(low:Int)*((bM q:Nat):Int)=((bM r % bM q:Nat):Int):=by
   have h1:=TT (bM r) (bM q);rw [<- s] at h1;have h2:((bM q*low+bM r % bM q:Nat):Int)=(bM r:Nat):=by rw [h1]
   rw [Tx,RN] at h2;rw [Int.neg_mul,Int.mul_comm (low:Int)];omega
  refine Uv 3 Z fun R b=>Va (j*1) U10 ah U2<|Vc (j:=0) U11 (by show j*1+1<=_;rw [bS fx];omega)<|UA [0,1,6,7,8,9] b Z<|Uv 4 Z fun R b=>?_;rw [show IntKind.i64.wrap (0-(low:Int))=-(low:Int) by rw [IntKind.wrap_i64];omega];refine U0 (wV _ _ _ r q (-(low:Int)) ad.m_ g.m_ ac.1 w.1 om_ (by rw [af];omega) om_ om_) U7 fl_ (fun aY _ _ aC=>?_);obtain ⟨l3,aD,ag,aE⟩:=aC;rw [af,Sx] at ag;refine C4 1 [0,1,6,7,8] b Z<|Uv 1 Z fun R b=>UF _ U7<|C4 1 [0,1,6,7,8] b Z<|UN (L':=[.arr (qW d p.length p.length) 3 1 p.length ((o.set j low).map aM).flatten]) (by rw [<- bN fx _ (by omega:j<o.length)];rfl)<|UH (m':=j+1) om_ mup (hn_ [0,1,6,7,8] Z) ⟨j,o.set j low,l3,_,⟨by omega,by rw [RK];exact W,KC X (by show low<BP;omega),by rw [tH om_,Y,K.1,s];omega,aE.mono mup,aD,by rw [ag,K.2,J]⟩,Z,Z,Z⟩
 have aa:k=0:=by
  have:¬ (0:Int)<=(k:Int)-1:=by simpa using H
  omega
 subst aa;refine UW [(1,3)] Z fun R b=>Uy U6<|D.call (uP _ _ o W) Z (.inr dc_) U6 (QW _) fl_ (fun aZ _ a0 _ aF=>?_);obtain ⟨rfl,I⟩:=aF;refine C4 3 [4,5] b Z<|UJ (G.dropAll (UX U3 ?_));exact ⟨Z,_,_,Z,⟨xp o,mj X,by rw [iu,<- R0 (l:=o),Y,R0],I⟩,⟨l,E,by rw [F,R0],hs.mono mup⟩⟩
theorem dE (z:Int):cM 45 (txt z)=(bq z.natAbs,decide (z<0)):=by
 unfold txt;split
 ·rename_i h;rw [Ra h];rfl
 rename_i h;rw [Rj h];unfold cM;rw [az];intro h0;have h1:=(bC z.natAbs).1.1 45 (List.mem_of_mem_head? h0);revert h1;decide
theorem Ai (z:Int):txt z=[48] ↔ z=0:=by
 constructor
 ·intro h;have h1:(cM 45 (txt z)).1=[48]:=by rw [h];rfl
  rw [dE] at h1;have h2:=(bC z.natAbs).2;have h3:bq z.natAbs=[48]:=h1;rw [h3] at h2;have h4:bX [48]=0:=rfl;omega
 rintro rfl;unfold txt;rw [az om_,show bq (0:Int).natAbs=bq 0 from rfl,bq];rfl
theorem lj (z:Int):((⟨(txt z).toArray⟩:ByteArray).data.toList == (⟨#[48]⟩:ByteArray).data.toList)=decide (z=0):=by
 show (txt z == [48])=_;rw [PI,RC];exact Ai z
theorem df (n:Nat):txt (n:Int)=bq n:=by
 unfold txt;rw [az om_];rfl
theorem fF (C:Mem)(z:Int):Gives cx.P 258 [ai (txt z)] C (.tuple #[.bool (decide (z<0)),ai (bq z.natAbs)]):=by
 have h:=split_fn C (txt z)
 rwa [dE] at h
theorem HD {c:UInt8}(h:s[i]?=some c):bX (s.take (i+1))=10*bX (s.take i)+(c.toNat-48):=by
 rw [HE h];omega
theorem xn (a:∀ c∈s,eR c=true)(d:s.length<=17)(i:Nat):bX (s.take i)<100000000000000000:=by
 have h1:=dW (s:=s.take i) (fun c b=>a c (RZ b));have h2:10 ^ (s.take i).length<=10 ^ 17:=Rn dc_ (by rw [Q5];omega);omega
theorem I4 (C:Mem)(z:Int)(b:(bq z.natAbs).length<=17):Gives cx.P 287 [ai (txt z)] C (.tuple #[.int .i64 z,.bool true]):=by
 obtain ⟨s,k⟩:∃ s,bq z.natAbs=s:=⟨_,rfl⟩;have hs:=(bC z.natAbs).1.1;have d:=(bC z.natAbs).2;rw [k] at b hs d;refine UD func287 45 U3 fun w0=>Uu 2 [0] Z<|Uv 1 Z fun R a=>UM (by have h:=fF C z;rw [k] at h;exact h) U7 fl_<|C4 5 [4,5] a Z<|Uu 3 [4,5,16] Z<|Ux (fun l=>?_) fun l=>?_
 ·exfalso;have:(s.length:Int) > 19:=by simpa using l
  omega
 refine Uu 1 [4,5,6] Z<|Uu 1 [4,5,6,7] Z<|G.loop (fun fr C' p q=>∃ (i:Nat),(i<=s.length)/\fr=[(4,[],.bool (decide (z<0))),(5,[],ai s),(6,[],.int .i64 (-((bX (s.take i):Nat):Int))),(7,[],.int .i64 i)]/\p=[]/\q=s.length-i) (hn_ [4,5,6,7] Z) ⟨0,QT _,Z,Z,Z⟩ (fun fr w x m _ r=>?_);obtain ⟨i,y,rfl,rfl,rfl⟩:=r;refine Uu 4 [4,5,6,7,20] Z<|Ux (fun e=>?_) fun e=>?_
 ·have f:i<s.length:=by simpa using e
  obtain ⟨c,g⟩:∃ c,s[i]?=some c:=⟨s[i],aj f⟩;have t:=hs c (QQ g);have A:48<=c.toNat/\c.toNat<=57:=by simpa [eR] using t
  have B:=xn hs b i;have u:(-9223372036854775808+(((c.toNat:Nat):Int)-48)).tdiv 10=-((9223372036854775808-(((c.toNat:Nat):Int)-48)) / 10):=by
   rw [show (-9223372036854775808+(((c.toNat:Nat):Int)-48))=-(9223372036854775808-(((c.toNat:Nat):Int)-48)) by omega,Int.neg_tdiv,Tr om_]
  refine Uv 2 Z fun R a=>Vs U8 (fun _=>⟨by omega,g⟩) U2<|Vi (c:=((c.toNat:Nat):Int)) U8 (by rw [IntKind.wrap_i64];omega) fl_<|UF _ U7<|C4 1 [4,5,6,7,8] a Z<|Uv 2 Z fun R a=>UF _ U7<|VK (-((9223372036854775808-(((c.toNat:Nat):Int)-48)) / 10)) U6 om_ u (by rw [IntKind.wrap_i64];omega) U2<|C4 1 [4,5,6,7,8,32] a Z<|Ux (fun n=>?_) fun n=>?_
  ·exfalso;simp only [QZ] at n;omega
  refine Uv 1 Z fun R a=>UF _ U7<|Uy U6<|UF _ U7<|C4 1 [4,5,6,7] a Z<|Uv 1 Z fun R a=>UF _ U7<|C4 1 [4,5,6,7] a Z ?_;rw [show 10 * -((bX (s.take i):Nat):Int)-(((c.toNat:Nat):Int)-48)=-((bX (s.take (i+1)):Nat):Int) by rw [HD g];omega];refine UH (m':=s.length-(i+1)) om_ mup (hn_ [4,5,6,7] Z) ⟨i+1,om_,Z,Z,Z⟩
 have f:i=s.length:=by
  have:¬ i<s.length:=by simpa using e
  omega
 rw [f,Q2,d];refine Uu 2 [6,37] Z<|Ux (fun j=>?_) fun j=>?_
 ·have v:z<0:=by simpa using j
  refine Uu 3 [2,3] Z<|UJ (G.dropAll (UX U3 ?_));refine ⟨?_,Z⟩;rw [show -((z.natAbs:Nat):Int)=z by omega]
 have v:¬ z<0:=by simpa using j
 have D:z.natAbs<100000000000000000:=by
  have:=xn hs b s.length
  rwa [Q2,d] at this
 refine Uu 3 [6,40] Z<|Ux (fun o=>?_) fun o=>?_
 ·exfalso;simp at o;omega
 refine Uu 4 [2,3] Z<|UJ (G.dropAll (UX U3 ?_));refine ⟨?_,Z⟩;rw [show IntKind.i64.wrap (0 - -((z.natAbs:Nat):Int))=z by rw [IntKind.wrap_i64];omega]
theorem Ct (C:Mem)(z:Int):Gives cx.P 260 [ai (txt z)] C (.tuple #[.int .i64 (if (bq z.natAbs).length<=17 then z else 0),.bool (decide ((bq z.natAbs).length<=17))]):=by
 refine UD func260 18 U3 fun w0=>Uu 2 [0] Z<|Uv 1 Z fun R b=>UI (fF C z) U7<|C4 5 [0,5] b Z<|Uu 3 [0,13] Z<|Ux (fun c=>?_) fun c=>?_
 ·have a:¬ (bq z.natAbs).length<=17:=by
   have:((bq z.natAbs).length:Int) > 17:=by simpa using c
   omega
  refine Uu 2 [2,3] Z<|UJ (G.dropAll (UX U3 ?_));rw [az a,Rj a];exact ⟨Z,Z⟩
 have a:(bq z.natAbs).length<=17:=by
  have:¬ ((bq z.natAbs).length:Int) > 17:=by simpa using c
  omega
 refine Uv 1 Z fun R b=>UI (I4 _ z a) U7<|C4 4 [2,3] b Z<|UJ (G.dropAll (UX U3 ?_));rw [aW a,Ra a];exact ⟨Z,Z⟩
theorem lI (C:Mem)(a:Tabs C)(z:Int)(b:-9223372036854775808<=z)(c:z<=9223372036854775807):Gives cx.P 148 [.int .i64 z] C (ai (txt z)):=by
 exact UD func148 5 U3 fun w0=>Uu 1 [0] Z<|Uv 1 Z fun R d=>UI (jl _ a z b c) U7<|C4 1 [2] d Z<|UC U2<|⟨Z,Z⟩
theorem yk (C:Mem)(z:Int):Gives cx.P 221 [ai (txt z)] C (.int .i64 (if z<0 then -1 else if z=0 then 0 else 1)):=by
 refine UD func221 13 U3 fun w0=>Uu 1 [0] Z<|Uv 1 Z fun R e=>UI (fF C z) U7<|C4 5 [0,3] e Z<|Uu 1 [0,10] Z<|Ux (fun b=>?_) fun b=>?_
 ·have c:z<0:=by simpa using b
  refine Uu 1 [2] Z<|UC U2 ?_;rw [aW c];exact ⟨Z,Z⟩
 have c:¬ z<0:=by simpa using b
 rw [az c];refine Uu 2 [12] Z<|Ux (fun a=>?_) fun a=>?_
 ·rw [lj] at a;have d:z=0:=by simpa using a
  refine Uu 1 [2] Z<|UC U2 ?_;rw [aW d];exact ⟨Z,Z⟩
 rw [lj] at a;have d:¬ z=0:=by simpa using a
 refine Uu 1 [2] Z<|UC U2 ?_;rw [az d];exact ⟨Z,Z⟩
theorem se (C:Mem)(z:Int)(d:(bq z.natAbs).length<=1000000):Gives cx.P 222 [ai (txt z)] C (ai (txt (-z))):=by
 refine UD func222 18 U3 fun w0=>Uu 1 [0] Z<|Uv 1 Z fun R a=>UI (fF C z) U7<|C4 5 [0,3,4] a Z<|Uv 4 Z fun R a=>U1 U8<|UA [4,14] a Z<|Ux (fun b=>?_) fun b=>?_
 ·rw [lj] at b;have c:z<=0:=by simp at b;omega
  refine Uu 2 [2] Z<|UC U2<|⟨?_,Z⟩;rw [show txt (-z)=bq z.natAbs by rw [show -z=((z.natAbs:Nat):Int) by omega,df]]
 rw [lj] at b;have c:0<z:=by simp at b;omega
 refine Uv 1 Z fun R a=>Vu U6 (fun _=>(by simp only [Q8,Q7];omega)) U2<|C4 1 [2] a Z<|UC U2<|⟨?_,Z⟩;rw [show txt (-z)=45::bq z.natAbs by unfold txt;rw [aW om_];congr 2;omega];rfl
theorem tj (C:Mem)(z:Int):Gives cx.P 259 [ai (txt z)] C (ai (bq z.natAbs)):=by
 exact UD func259 11 U3 fun w0=>Uu 1 [0] Z<|Uv 1 Z fun R a=>UI (fF C z) U7<|C4 5 [4] a Z<|Uu 2 [2] Z<|UC U2<|⟨Z,Z⟩
theorem QR:BP ^ 200=10 ^ 800:=by decide +kernel
theorem gJ (h:n<BP ^ 200):(bq n).length<=800:=eH (by rw [<- QR];exact h) om_
theorem PieC.take {D:Mem}{u:Value}(h:PieC D u n)(a:n<BP ^ 201):∃ l,CO l/\bM l=n/\l.length<=201/\Sl D 1 u (l.map aM):=by
 obtain ⟨l,h1,h2,h3⟩:=h;exact ⟨l,h1,h2,nk h1 (by rw [h2];exact a),h3⟩
theorem nP (C:Mem)(n:Nat)(h:n<BP ^ 200):Pur cx.P 262 [ai (bq n)] C fun u D=>∃ l,CO l/\bM l=n/\l.length<=200/\Sl D 1 u (l.map aM) :=
 (MC C (bq n) (bC n).1.1 (by have:=gJ h;omega)).mono fun u D _ _ ⟨h0,l,h1,h2,h3⟩=>⟨h0,l,h1,by rw [h2,(bC n).2],nk h1 (by rw [h2,(bC n).2];exact h),h3⟩
theorem P2:BP ^ 200+BP ^ 200<BP ^ 201:=by decide +kernel
theorem Cs (h:(bq z.natAbs).length<=17):z.natAbs<100000000000000000:=by
 have h1:=dW (bC z.natAbs).1.1;rw [(bC z.natAbs).2] at h1;have h2:10 ^ (bq z.natAbs).length<=10 ^ 17:=Rn dc_ h;omega
theorem MK (h:decide (z<0)=decide (w<0)):sgZ (decide (z<0)) (z.natAbs+w.natAbs)=z+w:=by
 rw [RC] at h;unfold sgZ;by_cases a:z<0
 ·have:=h.1 a;rw [Ra a,aW rfl];omega
 have:¬ w<0:=fun h1=>a (h.2 h1);rw [Rj a,az am];omega
theorem ML (h:decide (z<0)≠decide (w<0))(b:¬ z.natAbs<w.natAbs):sgZ (decide (z<0)) (z.natAbs-w.natAbs)=z+w:=by
 rw [ne_eq,RC] at h;unfold sgZ;by_cases a:z<0
 ·have:¬ w<0:=fun h1=>h ⟨fun _=>h1,fun _=>a⟩;rw [Ra a,aW rfl];omega
 have:w<0:=Rq fun h1=>h ⟨fun h2=>absurd h2 a,fun h2=>absurd h2 h1⟩;rw [Rj a,az am];omega
theorem oR (C:Mem)(n:Nat):Gives cx.P 258 [ai (bq n)] C (.tuple #[.bool false,ai (bq n)]):=by
 have h:=fF C (n:Int);rw [df,Rj om_] at h;exact h
theorem qM (C:Mem)(n:Nat):Gives cx.P 260 [ai (bq n)] C (.tuple #[.int .i64 (if (bq n).length<=17 then (n:Int) else 0),.bool (decide ((bq n).length<=17))]):=by
 have h:=Ct C (n:Int);rw [df] at h;exact h
theorem qN (h:(bq n).length<=17):n<100000000000000000:=Cs (z:=(n:Int)) h
theorem Gk (C:Mem)(a:Tabs C)(n:Nat)(h:n<=9223372036854775807):Gives cx.P 148 [.int .i64 n] C (ai (bq n)):=by
 have h:=lI C a (n:Int) om_ om_
 rwa [df] at h
theorem ut (C:Mem)(a:Tabs C)(v:Value)(l:List Nat)(b:Sl C 1 v (l.map aM))(c:DigP l)(d:l.length<=100000):Gives cx.P 264 [.bool false,v] C (ai (bq (bM l))):=by
 have h:=GC C a false v l b c d;rw [show sgZ false (bM l)=((bM l:Nat):Int) from rfl,df] at h;exact h
theorem Qc {q:Nat}(h:q<=9223372036854775807):IntKind.i64.wrap ((q:Nat):Int)=(q:Nat):=by rw [IntKind.wrap_i64];omega
theorem mf (C:Mem)(d:Tabs C)(a b:Nat)(l:a<BP ^ 200)(m:b<BP ^ 200)(e:0<b):Gives cx.P 224 [ai (bq a),ai (bq b)] C (.tuple #[ai (bq (a / b)),ai (bq (a % b))]):=by
 have D:=P2;refine UD func224 93 U3 fun w0=>Uu 2 [0,1] Z<|Uv 1 Z fun R c=>UI (qM C a) U7<|C4 5 [0,1,6,7] c Z<|Uv 1 Z fun R c=>UI (qM _ b) U7<|C4 5 [0,1,6,7,8,9] c Z<|Uv 3 Z fun R c=>UU U8<|UA [0,1,6,8,31] c Z<|Ux (fun f=>?_) fun f=>?_
 ·have hs:(bq a).length<=17/\(bq b).length<=17:=by simpa using f
  have h1:=qN hs.1;have h2:=qN hs.2;rw [aW hs.1,aW hs.2];have h0:=RR a b;refine US [0,1,2,3,4,5,6,7] [] Z kr_ fun R E c=>UB 2 Z<|VK (((a / b:Nat):Int)) U6 om_ (by rw [Tr om_];rfl) (Qc om_) U2<|UB 2 Z<|VG U6 om_ om_ U2<|C4 2 [6,8,10,11] c Z<|Uu 2 [6,8,10,11,39] Z<|Ux (fun g=>?_) fun g=>?_
  ·exfalso;have h3:=Uf (a:Int) (show (b:Int)≠0 by omega);simp only [QZ] at g;omega
  rw [<- Int.natCast_emod];have h3:=RR a b;have h4:=Ry a e;refine Uv 1 Z fun R c=>UM (Gk _ d (a / b) om_) U7 fl_<|Uy U6<|UM (Gk _ d (a % b) om_) U7 fl_<|C4 2 [4,5] c Z<|UJ (G.dropAll (UX U3 ?_));exact ⟨Z,Z⟩
 refine Uv 1 Z fun R c=>UI (oR _ a) U7<|C4 5 [1,12,13] c Z<|Uv 1 Z fun R c=>UI (oR _ b) U7<|C4 5 [12,13,14,15] c Z<|Uv 1 Z fun R c=>Ve (nP _ a l) U7 (fun F _ _ n=>?_);obtain ⟨lp,o,p,H,q⟩:=n;refine Uy U6<|Ve (nP _ b m) U7 (fun I _ _ r=>?_);obtain ⟨s,t,u,J,v⟩:=r;refine U0 (Bq _ _ _ lp s q.m_ v.m_ o.1 t om_ om_ om_) U7 fl_ (fun K _ _ w=>?_);obtain ⟨u1,L,rfl,h,i⟩:=w;rw [p,u] at h i;obtain ⟨l1,x,y,M,z⟩:=PieC.take h (by have:=RR a b;omega);obtain ⟨l2,A,B,N,j⟩:=PieC.take i (by have:=Ry a e;omega);obtain ⟨A2,c2,rfl,_⟩:=id j;refine C4 5 [12,14,15,16,17] c Z<|Uv 5 Z fun R c=>UU U8<|UA [12,14,15,16,17,78] c Z<|Ux (fun k=>?_) fun k=>?_
 ·exfalso;simp at k
 refine Uv 4 Z fun R c=>UM (ut _ d.m_ _ l1 z.m_ x.1 om_) U7 fl_<|Uy U6<|UM (ut _ d.m_ _ l2 j.m_ A.1 om_) U7 fl_<|C4 2 [4,5] c Z<|UJ (G.dropAll (UX U3 ?_));rw [y,B];exact ⟨Z,Z⟩
theorem Mf (n:Nat):((⟨(bq n).toArray⟩:ByteArray).data.toList == (⟨#[48]⟩:ByteArray).data.toList)=decide (n=0):=by
 have h:=lj (n:Int);rw [df] at h;rw [h,RC];omega
theorem DV (C:Mem)(h:Tabs C)(z w:Int)(i:z.natAbs<BP ^ 200)(j:w.natAbs<BP ^ 200):Gives cx.P 223 [ai (txt z),ai (txt w)] C (ai (bq (Nat.gcd z.natAbs w.natAbs))):=by
 refine UD func223 22 U3 fun w0=>Uu 1 [0,1] Z<|Uv 1 Z fun R e=>UI (tj _ z) U7<|Uy U6<|UI (tj _ w) U7<|C4 2 [0,1] e Z<|G.loop (fun fr C' k l=>∃ (a b:Nat),(a<BP ^ 200/\b<BP ^ 200/\Nat.gcd a b=Nat.gcd z.natAbs w.natAbs)/\fr=[(0,[],ai (bq a)),(1,[],ai (bq b))]/\k=[]/\l=b+1) (hn_ [0,1] Z) ⟨z.natAbs,w.natAbs,⟨i,j,Z⟩,Z,Z,Z⟩ (fun fr p q m _ n=>?_);obtain ⟨a,b,⟨o,f,g⟩,rfl,rfl,rfl⟩:=n;refine Uu 2 [0,1,12] Z<|Ux (fun c=>?_) fun c=>?_
 ·have d:0<b:=by
   rw [Mf] at c;have:b≠0:=by simpa using c
   omega
  have r:=Ry a d;refine Uv 2 Z fun R e=>UI (mf _ h.m_ a b o f d) U7<|C4 5 [1,6] e Z<|Uu 4 [0,1] Z<|UH (m':=a % b+1) om_ mup (hn_ [0,1] Z) ⟨b,a % b,⟨f,by omega,by rw [<- g,PH a b d]⟩,Z,Z,Z⟩
 have d:b=0:=by
  rw [Mf] at c;simpa using c
 refine Uu 2 [4] Z<|UC U2<|⟨?_,Z⟩;rw [<- g,d,TA]
def iK (s:Str):Int:=sgZ (cM 45 s).2 (bX (cM 45 s).1)
theorem xE {t:Str}(h:vB t):t.head?=some 48 ↔ bX t=0:=by
 constructor
 ·intro h0;have h1:=h.2.2 h0;cases t with
  | nil=>cases h0
  | cons b t =>
   have a:b=48:=by simpa using h0
   have d:t=[]:=by cases t with
    | nil=>rfl
    | cons c t=>simp at h1
   subst a d;rfl
 intro h0;have:=qL h (bC 0).1 (by rw [h0,(bC 0).2]);rw [this,bq];rfl
theorem xC :xD s=true ↔ vB (cM 45 s).1/\((cM 45 s).2=true->0<bX (cM 45 s).1):=by
 obtain ⟨t,neg,d⟩:∃ t b,cM 45 s=(t,b):=⟨_,_,rfl⟩;unfold xD;rw [d];simp only [Q1,Td,RT,ne_eq,Q4,Bool.and_eq_false_imp,Sr,Sq,Ri];constructor
 ·rintro ⟨⟨h1,h2⟩,h3⟩;have a:vB t:=⟨h1,h2,fun h=>by
   have:=(h3 h).2;have:0<t.length:=RD.2 h2;omega⟩
  refine ⟨a,fun c=>?_⟩;rcases Sh (bX t) with h | h
  ·have:=(h3 ((xE a).2 h)).1;rw [c] at this;cases this
  exact h
 rintro ⟨a,h⟩;refine ⟨⟨a.1,a.2.1⟩,fun h0=>?_⟩;have h1:=(xE a).1 h0;have h2:=a.2.2 h0;refine ⟨?_,by omega⟩;cases c:neg with
 | false=>rfl
 | true=>have:=h c;omega
theorem Hs (s:Str):s=if (cM 45 s).2 then 45::(cM 45 s).1 else (cM 45 s).1:=by
 unfold cM;split
 ·rename_i h;cases s with
  | nil=>cases h
  | cons b s =>
   have a:b=45:=by simpa using h
   subst a;rfl
 rfl
theorem HZ (h:xD s=true):s=txt (iK s):=by
 obtain ⟨h1,h2⟩:=xC.1 h;unfold iK;rw [Aj _ _ h2,<- ou h1];exact Hs s
def pj (zn:Int):Option Str->Bool
 | none=>true
 | some b=>decide (1<iK b) && !(zn == 0) && (Nat.gcd zn.natAbs (iK b).natAbs == 1)
def bg (s:Str):Bool:=cK (jS 47 s).1 && cK ((jS 47 s).2.getD [49]) && pj (iK (jS 47 s).1) (jS 47 s).2
theorem rS :cK s=true ↔ okD (cM 45 s).1=true/\((cM 45 s).2=true->0<bX (cM 45 s).1):=by
 unfold cK;rw [Q1,xC,yw,QZ];constructor
 ·rintro ⟨⟨h1,h2⟩,h3⟩;exact ⟨⟨h1,h3⟩,h2⟩
 rintro ⟨⟨h1,h3⟩,h2⟩;exact ⟨⟨h1,h2⟩,h3⟩
theorem KG (s:Str):(iK s).natAbs=bX (cM 45 s).1:=by
 unfold iK sgZ;split <;> omega
theorem FK (h:s.length<=n):(jS 47 s).1.length<=n/\((jS 47 s).2.getD [49]).length<=n+1:=by
 rcases gM 47 s with ⟨h1,_⟩ | ⟨a,post,h1,h2,_⟩
 ·rw [h1];exact ⟨h,by simp⟩
 have e:=congrArg List.length h2;rw [QV,Q8] at e;rw [h1];simp only [R9];omega
theorem one_val:([49]:Str)=txt 1:=by
 unfold txt;rw [az om_,show bq (1:Int).natAbs=bq 1 from rfl,bq];rfl
theorem sP (n:Nat):((⟨(bq n).toArray⟩:ByteArray).data.toList == (⟨#[49]⟩:ByteArray).data.toList)=(n == 1):=by
 show (bq n == [49])=_;rw [PI,Tz,QZ,Sr];constructor
 ·intro h;have h2:=(bC n).2;rw [h] at h2;exact h2.symm
 rintro rfl;rw [bq];rfl
theorem F9 (C:Mem)(s:Str)(d:∀ c∈s,eR c=true)(e:s≠[])(f:s.length<=18):Gives cx.P 251 [ai s,.int .i64 10,.int .i64 64] C (.tuple #[.int .u64 (bX s),.nilIface]):=by
 refine UD func251 26 U3 fun w0=>Uu 2 [0,1,2] Z<|Uv 3 Z fun R a=>UM (F8 Tryz.parseU s d e f _ kr_) U7 fl_<|C4 5 [0,1,2,8,9] a Z<|Uv 1 Z fun R a=>Wt false Z Z Z Z Z (.inr ⟨Z,Z⟩) kr_ Z Z<|UA [0,1,2,8,9,18] a Z<|Ux (fun b=>?_) fun b=>?_
 ·cases b
 refine Uu 3 [6,7] Z<|UJ (G.dropAll (UX U3 ?_));exact ⟨Z,Z⟩
theorem CZ (C:Mem)(i:Nat)(h:i<100):Gives cx.P 269 [.int .i64 i] C (ai (bq i)):=by
 have h1:=Gives.ofCalls (f:=269) (args:=[.int .i64 i]) (P:=cx.P) kr_ (fun w=>Any.internal_strconv_small Tryz.small10 i h w) C;rw [dN] at h1;exact h1
theorem BD (u:Nat):Lib.nDigits u=(bq u).length:=by rw [<- dN,Lib.decDigits_length]
theorem DW (C:Mem)(l:Tabs C)(u:Nat)(s:u<9223372036854775808):Gives cx.P 286 [.int .u64 u,.int .i64 10] C (ai (bq u)):=by
 refine UD func286 32 U3 fun w0=>Uu 1 [0,1] Z<|Uu 2 [0,1,10] Z<|Ux (fun g=>?_) fun g=>?_
 ·refine Uu 2 [0,12] Z<|Ux (fun e=>?_) fun e=>?_
  ·have h:u<100:=by
    have:(u:Int)<100:=by simpa using e
    omega
   exact Uv 1 Z fun R a=>Vi (c:=(u:Int)) U8 (by rw [IntKind.wrap_i64];omega) fl_<|UI (CZ _ u h) U7<|C4 1 [4] a Z<|UC U2<|⟨Z,Z⟩
  have h:100<=u:=by
   have:¬ (u:Int)<100:=by simpa using e
   omega
  have t:Lib.nDigits u<=19:=by
   rw [BD];exact eH om_ om_
  refine Uz fun R a=>UP U5 fun i=>UA [0,5] a Z<|Uv 1 Z fun R a=>UM (wJ Tryz.nDig u om_ om_ _ l.pow.m_ kr_) U7 fl_<|C4 1 [0,5,6] a Z<|UW [(3,3)] Z fun R a=>Uy U6<|Wg 0 (Lib.nDigits u) 24 U12 (fun _=>⟨.inl ⟨Z,Z⟩,.inr ⟨_,Z⟩,.inl ⟨Z,Z⟩,by omega,by omega,by decide⟩) U2<|Uy U6<|D.call (yO Tryz.fmt10 i 24 u 372 (List.replicate 24 (Value.int .u8 0)) om_ (fun j d=>(by rw [SG,aW om_])) om_ _ kr_) Z (.inr dc_) U6 (QW _) fl_ fun w _ z _ m=>UA [5,6] a Z ?_;obtain ⟨_,rfl,cs,rfl,A,n⟩:=m;refine G.freeze 0 Z (fun o _ p=>?_);have q:(bq u).length=Lib.nDigits u:=(BD u).symm;have k:Sl o 1 (.slice (some ⟨i,0,none⟩) ((bq u).map fun b=>[Value.int .u8 b.toNat]).length 24) ((bq u).map fun b=>[Value.int .u8 b.toNat]) :=
   Sl.ofBlock p (by intro r hr;obtain ⟨y,_,rfl⟩:=QX.1 hr;rfl) (fun j v d=>by
    rw [gl,QU] at d;cases f:(bq u)[j]? with
    | none=>rw [f] at d;cases d
    | some x=>rw [f] at d;cases d;simpa using n j x f) ap (by simp [maxLen])
  rw [al,q] at k;exact Uv 1 Z fun R a=>Wg 0 (Lib.nDigits u) 24 U12 (fun _=>⟨.inl ⟨Z,Z⟩,.inr ⟨_,Z⟩,.inl ⟨Z,Z⟩,by omega,by omega,by decide⟩) U2<|VY k.m_ U11 fl_<|C4 1 [4] a Z<|UC U2<|⟨Z,Z⟩
 exact absurd g dc_
theorem DX (C:Mem)(a:Tabs C)(u:Nat)(b:u<9223372036854775808):Gives cx.P 255 [.int .u64 u,.int .i64 10] C (ai (bq u)):=by
 exact UD func255 8 U3 fun w0=>Uu 1 [0,1] Z<|Uv 2 Z fun R c=>UI (DW _ a.m_ u b) U7<|C4 1 [4] c Z<|UC U2<|⟨Z,Z⟩
theorem jF (C:Mem)(z:Int)(m:Nat)(d:m<=18):Gives cx.P 213 [ai (txt z),.int .i64 m] C (.tuple #[.int .i64 (if (txt z).length<=m then z else 0),.bool (decide ((txt z).length<=m))]):=by
 refine UD func213 20 U3 fun w0=>Uu 2 [0,1] Z<|Uu 4 [0,11] Z<|Ux (fun b=>?_) fun b=>?_
 ·have a:¬ (txt z).length<=m:=by
   have:(m:Int)<((txt z).length:Int):=by simpa using b
   omega
  refine Uu 2 [4,5] Z<|UJ (G.dropAll (UX U3 ?_));exact ⟨by rw [az a,Rj a],Z⟩
 have a:(txt z).length<=m:=by
  have:¬ (m:Int)<((txt z).length:Int):=by simpa using b
  omega
 refine Uv 1 Z fun R c=>UM (zu Tryz.atoi z om_ _ kr_) U7 fl_<|C4 5 [6,7] c Z<|US [0,1,2,3,4] [] Z kr_ fun R e c=>UB 2 Z<|Wt true Z Z Z Z Z (.inl ⟨Z,Z⟩) kr_ Z Z<|C4 2 [4,5] c Z<|UJ (G.dropAll (UX U3 ?_));exact ⟨by rw [aW a,Ra a],Z⟩
theorem jb (C:Mem)(z:Int)(t:(bq z.natAbs).length<=1000000):Pur cx.P 214 [ai (txt z)] C fun u D=>∃ p,u=.agg ⟨[.bool (decide (z<0)),p]⟩/\NineC D p z.natAbs:=by
 obtain ⟨S,hS⟩:∃ S,bq z.natAbs=S:=⟨_,rfl⟩;have b:=(bC z.natAbs).1;have i:=(bC z.natAbs).2;rw [hS] at t b i;refine UD func214 44 U3 fun w0=>Uz fun R a=>UP U5 fun d=>UA [0,2] a Z<|Uv 1 Z fun R a=>UI (HJ _ (txt z) 45) U7 ?_;rw [dE,hS];refine C4 5 [2,3,4] a Z<|Uv 2 Z fun R a=>VD (S.length) (9) U6 om_ (.inl ⟨Z,by omega⟩) U2<|Vf (((S.length / 9+1:Nat):Int)) U4 om_ om_ om_ U2<|Vy U9 (QT _) (by show 8*(S.length / 9+1)<=281474976710656;omega) (by simp only [maxLen];omega) fl_ fun L=>C4 1 [2,3,4,5] a Z ?_;rw [show (ai S:Value)=ai (S.take S.length) by rw [Q2]];refine G.loop (fun fr C' k v=>∃ (q j:Nat)(out:List Nat)(w:Value),(q<=S.length/\(q=0∨q+9*j=S.length)/\out.length=j/\j<=S.length/\(q=0∨j<S.length)/\Dig9 out/\bB out=bX (S.drop q))/\fr=[(2,[],.pointer (some ⟨d,0,none⟩)),(3,[],ai (S.take q)),(4,[],.bool (decide (z<0))),(5,[],w)]/\k=[.arr w 160 1 j (out.map cm).flatten,.obj d (.cells ⟨[.bool false,.slice none 0 0]⟩ 307 (0,0))]/\v=q+1) (hn_ [2,3,4,5] Z) ⟨S.length,0,[],_,⟨QO _,by omega,Z,QT _,by have:=RD.2 b.2.1;omega,(fun x y=>(by cases y)),by rw [RM];rfl⟩,Z,Z,Z⟩ (fun fr M N m _ A=>?_);obtain ⟨q,j,out,w,⟨O,Q,e,T,U,l,f⟩,rfl,rfl,rfl⟩:=A;refine Uu 3 [2,3,4,5,21] Z<|Ux (fun g=>?_) fun g=>?_
 ·have B:(⟨(S.take q).toArray⟩:ByteArray).data.toList.length=q:=by
   show (S.take q).length=q;rw [Q5];omega
  have E:(S.take q).length=q:=B;have o:0<q:=by
   have h:(0:Int)<(((⟨(S.take q).toArray⟩:ByteArray).data.toList.length:Nat):Int):=by simpa using g
   omega
  have F:(gK S (q-9) q).length<=9/\0<(gK S (q-9) q).length:=by
   unfold gK;rw [Sv,Q5];omega
  have H:∀ c∈gK S (q-9) q,eR c=true:=fun c I=>b.1 c (RZ (TL I));refine Uv 2 Z fun R a=>Vf (((q:Int)-9)) U4 om_ om_ om_ U2<|D.max (((q-9:Nat):Int)) U6 om_ U2<|C4 1 [2,3,4,5,6] a Z<|Uv 2 Z fun R a=>Vw (q-9) (S.take q).length U9 (fun _=>⟨.inr ⟨_,Z⟩,.inl ⟨Z,Z⟩,.inl ⟨Z,Z⟩,by omega,QO _,QO _⟩) U2 ?_;rw [show (((S.take q).take (S.take q).length).drop (q-9))=gK S (q-9) q from by rw [Q2];rfl];refine UM (F9 _ (gK S (q-9) q) H (RD.1 F.2) om_) U7 fl_<|C4 5 [2,3,4,5,6,7] a Z<|US [0,1,4,5,6,2,3,7,8] [] Z kr_ fun R V a=>UB 4 Z<|Vw 0 (q-9) U9 (fun _=>⟨.inl ⟨Z,Z⟩,.inr ⟨_,Z⟩,.inl ⟨Z,Z⟩,by omega,by omega,QO _⟩) U2<|UR [cm (bX (gK S (q-9) q))] U12 fun W _ _ J=>D.append (j:=0) U11 J Z ax (by show (j+1)*8<=_;omega) fl_ fun r=>C4 2 [2,3,4,5] a Z ?_;rw [show ((S.take q).take (q-9)).drop 0=S.take (q-9) from by rw [R0,TG,Sa om_]];refine UN (L':=[.arr r 160 1 (j+1) ((out++[bX (gK S (q-9) q)]).map cm).flatten,.obj d (.cells ⟨[.bool false,.slice none 0 0]⟩ 307 (0,0))]) (by simp [cm])<|UH (m':=q-9+1) om_ mup (hn_ [2,3,4,5] Z) ⟨q-9,j+1,out++[bX (gK S (q-9) q)],r,⟨by omega,by omega,by simp [e],by omega,by omega,l.snoc (KJ b.1 om_),CS om_ e om_ f⟩,Z,Z,Z⟩
 have o:q=0:=by
  have E:(S.take q).length=q:=by rw [Q5];omega
  have h:¬ (0:Int)<(((S.take q).length:Nat):Int):=by simpa using g
  omega
 subst o;rw [R0,i] at f;refine UW [(2,3)] Z fun R a=>UB 2 Z<|D.call (gv _ _ out (n:=j) e) Z (.inr dc_) U6 (QW _) fl_ (fun X _ Y _ K=>?_);obtain ⟨rfl,s⟩:=K;obtain ⟨Au,cu,rfl,_⟩:=id s;refine UO [.bool (decide (z<0)),_] U8<|UG (j:=0) U12<|UA [2] a Z<|UJ (Vm af U4 ?_);exact ⟨Z,_,Z,EG out,iw l,by rw [iv,f],s⟩
theorem D7 (k:Nat)(s:Str):bX (List.replicate k 48++s)=bX s:=by
 induction k with
 | zero=>rfl
 | succ k a=>rw [Se,SD,dF,a];simp
theorem Nh (h:x<1000000000):mG 9 x=List.replicate (9-(bq x).length) 48++bq x:=by
 obtain ⟨h1,h2,h3⟩:=kK 9 x h;obtain ⟨h4,h5⟩:=bC x;have b:(bq x).length<=9:=eH om_ om_;refine yZ h2 (fun c a=>?_) (by rw [h1];simp;omega) (by rw [h3,D7,h5]);rcases Q6.1 a with a | a
 ·rw [S1 a];rfl
 exact h4.1 c a
def Le (l:List Nat)(j:Nat)(s:Str):Prop:=(j=0/\s=[])∨(0<j/\vB s/\bX s=bB (l.drop (l.length-j))/\0<bX s)
theorem DH (b:xZ l)(d:j<l.length)(h:Le l j s):Le l (j+1) (s++if j=0 then bq (g9 l (l.length-1-j)) else mG 9 (g9 l (l.length-1-j))):=by
 have a:l[l.length-1-j]?=some (g9 l (l.length-1-j)):=xd om_;refine .inr ⟨by omega, ?_⟩;rw [show l.length-(j+1)=l.length-1-j by omega];rcases h with ⟨rfl,rfl⟩ | ⟨h0,h1,h2,h3⟩
 ·rw [aW rfl,SI];obtain ⟨h4,h5⟩:=bC (g9 l (l.length-1-0));have c:bB (l.drop (l.length-1-0))=g9 l (l.length-1-0):=by
   rw [Rh om_,show l.length-1-0+1=l.length by omega,RM];rw [aj om_] at a;rw [Ss a];show _+B9*0=_;omega
  refine ⟨h4,by rw [h5,c], ?_⟩;rw [h5];rcases Sh (g9 l (l.length-1-0)) with h | h
  ·rw [h] at a;exact absurd (by rw [S8];exact a) b.2
  exact h
 rw [az om_];rw [show l.length-j=l.length-1-j+1 by omega] at h2;exact DS b.1 a h1 h2 h3
theorem jU (C:Mem)(V:Tabs C)(m:Bool)(v:Value)(n:Nat)(W:NineC C v n)(X:n<B9 ^ 100000):Gives cx.P 216 [.agg ⟨[.bool m,v]⟩] C (ai (txt (sgZ m n))):=by
 obtain ⟨ls,J,K,aj,hs⟩:=W.get X;obtain ⟨A,c,rfl,_⟩:=id hs;simp only [al] at hs ⊢;refine VS kr_ func216 Z 34 Z Z fun w0=>Uz fun R a=>UQ U6 fun L=>C4 1 [1] a Z<|G.freeze 0 Z fun _ _ o=>Uv 1 Z fun R a=>Uw (PtrTo.block (Mem.get o mup) _) U8<|C4 2 [1,10] a Z<|Ux (fun y=>?_) fun y=>?_
 ·have M:ls=[]:=by
   have:(ls.length:Int)=0:=by simpa using y
   exact RB om_
  refine Uu 1 [2] Z<|UJ (V2 (LG Z Z) ?_ Ky);subst M;refine ⟨?_,Z⟩;rw [<- K,(Ai (sgZ m (bB []))).2 (by cases m <;> rfl)];rfl
 have M:0<ls.length:=by
  have:¬ (ls.length:Int)=0:=by simpa using y
  omega
 obtain ⟨d,g⟩:∃ d:Str,(if m then [45] else [])=d:=⟨_,rfl⟩;have ak:d.length<=1:=by rw [<- g];split <;> simp
 refine Uz fun R a=>UP U5 fun b=>UA [1,3] a Z<|G.nilArr 5 1<|G.perm (L':=[.obj b (.cells ⟨[.pointer none,.slice none 0 0]⟩ 354 (0,0)),.arr (.slice none 0 0) 5 1 0 []]) (List.Perm.swap _ _ _)<|Uv 1 Z fun R a=>Uw (PtrTo.block (Mem.get o mup) _) U8<|UA [1,3,12] a Z<|G.cut (fun fr C' e z=>∃ (q:Option Addr)(w:Value),(q=none∨q=some ⟨b,0,none⟩)/\fr=[(1,[],.pointer (some ⟨L,0,none⟩)),(3,[],.pointer (some ⟨b,0,none⟩))]/\e=[.obj b (.cells ⟨[.pointer q,w]⟩ 354 (0,0)),.arr w 5 1 d.length (u8s d)]) ?_ (fun fr _ an z _ f=>?_)
 ·refine Ux (fun B=>?_) fun B=>?_
  ·rw [aW B] at g;subst g;refine UW [(0,3)] Z fun R a=>D.call (vC _ b none (.slice none 0 0) [] 45 (.inl Z) am) Z (.inr dc_) U6 (QW _) fl_ fun ao _ aq _ Y=>UA [1,3] a Z ?_;obtain ⟨w1,rfl⟩:=Y;refine UL 0 mup (hn_ [1,3] Z) ⟨some ⟨b,0,none⟩,w1,.inr Z,Z,Z⟩
  rw [az (by rw [B];decide)] at g;subst g;refine UL 0 mup (hn_ [1,3] Z) ⟨none,.slice none 0 0,.inl Z,Z,Z⟩
 obtain ⟨q ,w,hq,rfl,rfl⟩:=f;refine Uv 1 Z fun R a=>Uw (PtrTo.block (Mem.get o mup) _) U8<|Ve (CA _ A ls.length c) U7 fun ar _ _ aa=>UA [1,3,16] a Z ?_;obtain ⟨bb,rfl,ab⟩:=aa;refine UN (L':=[.obj b (.cells ⟨[.pointer q,w]⟩ 354 (0,0)),.arr w 5 1 (d++[]).length (u8s (d++[]))]) (by rw [Rf])<|G.rangeFunc Z Z Z kr_ (tf _ bb _ _ ls ab hs.m_ om_) (fun j e=>∃ (q:Option Addr)(w:Value)(s:Str),((q=none∨q=some ⟨b,0,none⟩)/\Le ls j s/\s.length<=9*j)/\e=[.obj b (.cells ⟨[.pointer q,w]⟩ 354 (0,0)),.arr w 5 1 (d++s).length (u8s (d++s))]) ⟨q,w,[],⟨hq,.inl ⟨Z,Z⟩,by simp⟩,Z⟩ Z (fun _ _=>rfl) (fun u v=>[(1,[],.pointer (some ⟨L,0,none⟩)),(3,[],.pointer (some ⟨b,0,none⟩)),(4,[],u),(5,[],v)]) (fun l u v W1 e=>?_) (fun l j u v e W1 f E=>?_) (fun bD e f=>?_)
 ·exact Uu 1 [1,3,4,18] Z<|Uu 1 [1,3,4,5] Z<|Wz ⟨Z,Z,Z,Z,trivial⟩
 ·obtain ⟨q,w,s,⟨F,p,N⟩,rfl⟩:=f;have O:j<ls.length:=by have:=(aD.1 E).1;rwa [fR] at this
  rw [vg O] at E;cases E
  have Q:=DH J O p;obtain ⟨x,H⟩:∃ x,g9 ls (ls.length-1-j)=x:=⟨_,rfl⟩;have i:x<B9:=by rw [<- H];exact kP J.1 _
  rw [show ls.getD (ls.length-1-j) 0=x from H];rw [H] at Q;have au:(bq x).length<=9:=eH (by rw [B9v] at i;omega) om_;have ac:=Nh (x:=x) (by rw [B9v] at i;exact i);have av:(mG 9 x).length=9:=(kK 9 x (by rw [B9v] at i;omega)).1;refine Uv 1 Z fun R a=>UM (DX _ V.m_ x (by rw [B9v] at i;omega)) U7 fl_<|C4 1 [1,3,4,6] a Z<|Uv 2 Z fun R a=>Uw (PtrTo.block (Mem.get o mup) _) U8<|Uy U6<|UF _ U7<|C4 1 [3,6,26] a Z<|G.cut (fun fr C' e z=>∃ (k:Option Addr)(r:Value)(t:Str),((k=none∨k=some ⟨b,0,none⟩)/\t++bq x=d++(s++if j=0 then bq x else mG 9 x)/\t.length<=9*j+10)/\fr=[(3,[],.pointer (some ⟨b,0,none⟩)),(6,[],ai (bq x))]/\e=[.obj b (.cells ⟨[.pointer k,r]⟩ 354 (0,0)),.arr r 5 1 t.length (u8s t)]) ?_ (fun fr _ aw z _ f=>?_)
  ·refine Ux (fun I=>?_) fun I=>?_
   ·have S:0<j:=by
     have:((ls.length-1-j:Nat):Int)<(ls.length:Int)-1:=by simpa using I
     omega
    refine UW [(3,3)] Z fun R a=>UB 2 Z<|Vw (bq x).length 9 U9 (fun _=>⟨.inr ⟨_,Z⟩,.inl ⟨Z,Z⟩,.inl ⟨Z,Z⟩,by omega,QO _,QO _⟩) U2 ?_;rw [show ((([48,48,48,48,48,48,48,48,48]:Str).take 9).drop (bq x).length)=List.replicate (9-(bq x).length) 48 from by rw [show (([48,48,48,48,48,48,48,48,48]:Str).take 9)=List.replicate 9 48 from rfl,List.drop_replicate]];refine D.call (ko _ b q w (d++s) (List.replicate (9-(bq x).length) 48) F ap) Z (.inr dc_) U6 (QW _) fl_ fun ax _ ay _ ad=>UA [3,6] a Z ?_;obtain ⟨w1,rfl⟩:=ad;refine UL 0 mup (hn_ [3,6] Z) ⟨some ⟨b,0,none⟩,w1,_,⟨.inr Z,by rw [az om_,ac];simp [],by simp;omega⟩,Z,Z⟩
   have S:j=0:=by
    have:¬ ((ls.length-1-j:Nat):Int)<(ls.length:Int)-1:=by simpa using I
    omega
   refine UL 0 mup (hn_ [3,6] Z) ⟨q,w,d++s,⟨F,by rw [aW S,Rk],by simp;omega⟩,Z,Z⟩
  obtain ⟨k ,r ,t,⟨ae,af,aA⟩,rfl,rfl⟩:=f;refine UW [(1,3)] Z fun R a=>Uy U6<|D.call (ko _ b k r t (bq x) ae om_) Z (.inr dc_) U6 (QW _) fl_ fun aB _ aC _ ag=>VE [] trivial (a _ _ _ Z ?_);obtain ⟨w4,rfl⟩:=ag;rw [af];exact Wc (R:=fun e=>∃ (q:Option Addr)(w:Value)(s:Str),((q=none∨q=some ⟨b,0,none⟩)/\Le ls (j+1) s/\s.length<=9*(j+1))/\e=[.obj b (.cells ⟨[.pointer q,w]⟩ 354 (0,0)),.arr w 5 1 (d++s).length (u8s (d++s))]) (QW _) ⟨some ⟨b,0,none⟩,w4,_,⟨.inr Z,Q,by rw [QV];split <;> omega⟩,Z⟩
 obtain ⟨q,w,s,⟨F,p,N⟩,rfl⟩:=f;rw [fR] at p;obtain ⟨aE,T,U,aF⟩:0<ls.length/\vB s/\bX s=bB (ls.drop (ls.length-ls.length))/\0<bX s:=p.elim (fun h=>by omega) id;rw [SZ,R0,K] at U;refine G.perm (L':=[.obj b (.cells ⟨[.pointer q,w]⟩ 354 (0,0)),.arr w 5 1 (d++s).length (u8s (d++s)),.obj bD (.deferred (some []))]) (pkL [1,1,0] Z)<|UW [(0,3)] Z fun R a=>D.call (Ef _ b q w (d++s) (fun h=>T.2.1 (T4.1 h).2) (by simp;rw [fR] at N;omega)) Z (.inr dc_) U6 (QW _) fl_ fun aG _ aH _ ah=>C4 1 [2] a Z ?_;obtain ⟨rfl,rfl⟩:=ah;refine UJ (Wy (LG Z Z) ?_);refine ⟨?_,Z⟩;have es:s=bq n:=by rw [<- U];exact ou T
 rw [Aj m n (fun _=>by omega),es,<- g];cases m <;> rfl
theorem sJ (a:0<Q):(x+B9*t) / Q=B9*(t / Q)+(x+B9*(t % Q)) / Q/\(x+B9*t) % Q=(x+B9*(t % Q)) % Q:=by
 have h:x+B9*t=(x+B9*(t % Q))+Q*(B9*(t / Q)):=by
  have h1:=TU t Q;have h2:B9*t=B9*(t % Q)+B9*(Q*(t / Q)):=by rw [<- Sb,h1]
  rw [h2,Uq];omega
 rw [h,TN _ _ a,Nat.add_mul_mod_self_left];exact ⟨by omega,Z⟩
theorem mg (a:0<Q)(b:x<B9):(x+B9*(t % Q)) / Q<B9:=by
 rw [SX a];have h1:=Ry t a;have h2:B9*(t % Q+1)<=B9*Q:=Sk _ h1;rw [Sb] at h2;omega
theorem fA (h:j<l.length):bB (l.drop j)=g9 l j+B9*bB (l.drop (j+1)):=by
 rw [Rh h,bB,yM (aj h)]
theorem li (h:j<l.length):bB ((l.set j x).drop j)=x+B9*bB (l.drop (j+1)):=by
 rw [Rh (by simpa using h),bB,List.getElem_set_self,List.drop_set_of_lt om_]
theorem sI (C:Mem)(Y M:Value)(m d:Nat)(ha:NineC C Y m)(hm:m<B9 ^ 200000)(F:Sl C 1 M ([d].map cm))(H:0<d)(hd:d<B9) :
  Pur cx.P 248 [Y,M] C fun u D=>∃ q r,u=.tuple #[q,r]/\NineC D q (m / d)/\NineC D r (m % d):=by
 have aa:NineC C M d:=⟨[d],⟨fun x o=>(by rw [Rc.1 o];exact hd),by simp;omega⟩,by show d+B9*0=d;omega,F⟩;have N:=ha;obtain ⟨a,ao,ab,aG,O⟩:=ha.get hm;obtain ⟨A0,c0,rfl,_⟩:=id O;obtain ⟨B0,d0,rfl,aH⟩:=id F;simp only [al,aK] at F aa O N ⊢;have p:=B9v;refine VS kr_ func248 Z 146 Z Z fun w0=>Uz fun R b=>UQ U6 fun b3=>UP U5 fun g=>C4 1 [0,3,4,5] b Z<|G.freeze 1 Z fun _ _ K=>Uv 1 Z fun R b=>Uw (PtrTo.block (Mem.get K mup) _) U8<|UI (pG _ N.m_ aa.m_) U7<|C4 1 [0,3,4,5,17] b Z<|Ux (fun Q=>?_) fun Q=>?_
 ·have S:m<d:=by
   have:jG m d<0:=by simpa using Q
   exact ja.1 this
  refine Uv 1 Z fun R b=>UG (j:=0) U12<|C4 1 [4,5] b Z<|UJ (V2 (AU af Z Z Z Z Z) ?_ Ky);refine ⟨Z,_,_,Z, ?_, ?_⟩
  ·rw [Tj S];exact NineC.zero _
  rw [Ti S];exact N.mono mup
 have S:d<=m:=by
  have h:¬ jG m d<0:=by simpa using Q
  rw [ja] at h;omega
 obtain ⟨n,hn⟩:∃ n,a.length=n:=⟨_,rfl⟩;refine Uz fun R b=>Uw (PtrTo.block (Mem.get K mup) _) U8<|C4 2 [0,3,4,5,21] b Z<|Ux (fun ad=>?_) fun ad=>?_
 ·refine Uv 2 Z fun R b=>Vy U9 (QO _) (by show 8*a.length<=281474976710656;omega) (by simp only [maxLen];omega) fl_ fun f=>UG (j:=1) U12<|UA [0,3,4] b Z<|Uz fun R b=>UP U5 fun k=>UG (j:=0) U12<|UA [0,3,4,6] b Z<|Uv 1 Z fun R b=>Ve (CA _ A0 a.length c0) U7 fun aI _ _ ap=>UA [3,4,6,26] b Z ?_;obtain ⟨bb,rfl,aq⟩:=ap;refine UN (L':=[.obj k (.cells ⟨[.int .u64 ((bB (a.drop (a.length-0)) % d:Nat):Int)]⟩ 160 (0,0)),.obj g (.cells ⟨[qU f a.length a.length]⟩ 305 (0,0)),.arr (qU f a.length a.length) 160 1 a.length ((List.replicate a.length 0).map cm).flatten]) (by rw [<- EH,TF,RM,show bB []=0 from Z,Nat.zero_mod];rfl)<|G.rangeFunc Z Z Z kr_ (tf _ bb _ _ a aq O.m_ om_) (fun j e=>∃ (c:List Nat),(c.length=a.length/\Dig9 c/\bB (c.drop (a.length-j))=bB (a.drop (a.length-j)) / d)/\e=[.obj k (.cells ⟨[.int .u64 ((bB (a.drop (a.length-j)) % d:Nat):Int)]⟩ 160 (0,0)),.obj g (.cells ⟨[qU f a.length a.length]⟩ 305 (0,0)),.arr (qU f a.length a.length) 160 1 a.length (c.map cm).flatten]) ⟨List.replicate a.length 0,⟨Sj,(fun x o=>by rw [S1 o];decide),by rw [TF,RM,TC am];simp [bB]⟩,Z⟩ Z (fun _ _=>rfl) (fun u v=>[(3,[],.pointer (some ⟨b3,0,none⟩)),(4,[],.pointer (some ⟨g,0,none⟩)),(6,[],.pointer (some ⟨k,0,none⟩)),(7,[],u),(8,[],v)]) (fun l u v W1 e=>?_) (fun l j u v e W1 s U=>?_) (fun bD e s=>?_)
  ·exact Uu 1 [3,4,6,7,28] Z<|Uu 1 [3,4,6,7,8] Z<|Wz ⟨Z,Z,Z,Z,Z,trivial⟩
  ·obtain ⟨c,⟨I,L,B⟩,rfl⟩:=s;have ar:j<a.length:=by have:=(aD.1 U).1;rwa [fR] at this
   rw [vg ar] at U;cases U
   obtain ⟨i,hi⟩:∃ i,a.length-1-j=i:=⟨_,rfl⟩;have ag:a.length-j=i+1:=by omega
   obtain ⟨T,hT⟩:∃ T,bB (a.drop (i+1))=T:=⟨_,rfl⟩;have au:=kP ao.1 i;have aJ:=Ry T H;have hX:T % d*B9+g9 a i<18446744073709551616:=by
    have:=RQ B9 (show T % d<=999999999 by omega);rw [p] at this ⊢;omega
   rw [hi,ag,hT,show a.getD i 0=g9 a i from rfl];rw [ag,hT] at B;have av:T % d*B9+g9 a i=g9 a i+B9*(T % d):=by rw [RF,Tn]
   have V:=sJ (t:=T) (x:=g9 a i) H;have ai:=mg (t:=T) H au;rw [<- av] at V ai;refine Uz fun R b=>UE af U9<|D.int (((T % d*B9:Nat):Int)) U4 (by rw [show (1000000000:Int)=((B9:Nat):Int) from Z,<- RN,IntKind.wrap_u64];omega) U2<|Uy U6<|D.int (((T % d*B9+g9 a i:Nat):Int)) U4 (by rw [IntKind.wrap_u64];omega) U2<|UG (j:=0) U12<|UA [3,4,6,7] b Z<|G.cut (fun fr C' e W=>(True)/\fr=[]/\e=[.obj k (.cells ⟨[.int .u64 (((T % d*B9+g9 a i) % d:Nat):Int)]⟩ 160 (0,0)),.arr (qU f a.length a.length) 160 1 a.length (aE (c.map cm).flatten [Value.int .u64 (((T % d*B9+g9 a i) / d:Nat):Int)] (i*1)),.obj g (.cells ⟨[qU f a.length a.length]⟩ 305 (0,0))]) ?_ (fun fr aL aM W aN s=>?_)
   ·refine Vp (.cut [0,1,2,3,4,5,6,8,9,10,12] (.alt 7 (.fin [11,13,14]) (.alt 13 (.fin [7,11,14]) .stop))) [] Z Z kr_ fun R p b w=>UE ae U9<|Uy U6<|UE af U9<|Uw (PtrTo.block (Mem.get K mup) _) U8<|UK F.m_ U10 om_ (rfl:([d].map cm)[(0:Int).toNat]?=some (cm d)) fl_ fun aO aw=>Uw aw U8<|VD (T % d*B9+g9 a i) (d) U6 om_ (.inr ⟨Z,by omega⟩) U2<|Uw (PtrTo.block (Mem.get K mup) _) U8<|UK F.m_ U10 om_ (rfl:([d].map cm)[(0:Int).toNat]?=some (cm d)) fl_ fun aP ax=>Uw ax U8<|Va (i*1) U10 ah U2<|Vd w Z ⟨?_, ?_,trivial⟩
    ·first | refine VR af U9 ?_ | refine VR ae U9 ?_
     refine Vt (T % d*B9+g9 a i) (d) U6 om_ U2<|Vc (j:=2) U11 (by show i*1+1<=_;rw [bS eG,I];omega)<|UG (j:=1) U12<|VE [] trivial (b _ _ _ Z ?_);clear b p w R;exact UL 0 (Mem.le.refl _) (fr':=[]) trivial ⟨trivial,Z,Z⟩
    refine Vc (j:=2) U11 (by show i*1+1<=_;rw [bS eG,I];omega) ?_
    first | refine VR af U9 ?_ | refine VR ae U9 ?_
    refine Vt (T % d*B9+g9 a i) (d) U6 om_ U2<|UG (j:=1) U12<|VE [] trivial (b _ _ _ Z ?_);clear b p w R;exact UL 0 (Mem.le.refl _) (fr':=[]) trivial ⟨trivial,Z,Z⟩
   obtain ⟨_,rfl,rfl⟩:=s;refine G.perm (L':=[.obj k (.cells ⟨[.int .u64 (((T % d*B9+g9 a i) % d:Nat):Int)]⟩ 160 (0,0)),.obj g (.cells ⟨[qU f a.length a.length]⟩ 305 (0,0)),.arr (qU f a.length a.length) 160 1 a.length (aE (c.map cm).flatten [Value.int .u64 (((T % d*B9+g9 a i) / d:Nat):Int)] (i*1))]) (pkL [0,1,0] Z) ?_;have aj:bB (a.drop i)=g9 a i+B9*T:=by rw [fA om_,hT]
   have ay:bB (a.drop (a.length-(j+1))) % d=(T % d*B9+g9 a i) % d:=by rw [show a.length-(j+1)=i by omega,aj,V.2]
   exact UN (L':=[.obj k (.cells ⟨[.int .u64 ((bB (a.drop (a.length-(j+1))) % d:Nat):Int)]⟩ 160 (0,0)),.obj g (.cells ⟨[qU f a.length a.length]⟩ 305 (0,0)),.arr (qU f a.length a.length) 160 1 a.length ((c.set i ((T % d*B9+g9 a i) / d)).map cm).flatten]) (by rw [ay,<- bN eG _ (by omega:i<c.length)];rfl)<|Wc (R:=fun e=>∃ (c:List Nat),(c.length=a.length/\Dig9 c/\bB (c.drop (a.length-(j+1)))=bB (a.drop (a.length-(j+1))) / d)/\e=[.obj k (.cells ⟨[.int .u64 ((bB (a.drop (a.length-(j+1))) % d:Nat):Int)]⟩ 160 (0,0)),.obj g (.cells ⟨[qU f a.length a.length]⟩ 305 (0,0)),.arr (qU f a.length a.length) 160 1 a.length (c.map cm).flatten]) (QW _) ⟨c.set i ((T % d*B9+g9 a i) / d),⟨by simp [I],L.set ai,by rw [show a.length-(j+1)=i by omega,aj,li om_,B,V.1];omega⟩,Z⟩
  obtain ⟨c,⟨I,L,B⟩,rfl⟩:=s;rw [fR,SZ,R0,R0,ab] at B;rw [fR,SZ,R0,ab];refine G.freezeArr 3 (c.map cm) rfl rfl (by intro r hr;obtain ⟨y,_,rfl⟩:=QX.1 hr;rfl) (by rw [al,I]) fun Cq aQ ak=>G.cut (fun fr C' e W=>∃ (E z:Value),(NineC C' E (m / d)/\NineC C' z (m % d))/\fr=[(4,[],.pointer (some ⟨g,0,none⟩)),(5,[],z)]/\e=[.obj g (.cells ⟨[E]⟩ 305 (0,0)),.obj bD (.deferred (some [])),.obj k (.cells ⟨[.int .u64 ((m % d:Nat):Int)]⟩ 160 (0,0))]) ?_ (fun fr aR aS W aT s=>?_)
  ·refine Vp (.cut [0,2] (.alt 1 (.fin [3,4,5,6]) (.alt 3 (.fin [1,4,5,6]) .stop))) [] Z Z kr_ fun R p b w=>UE ac U9<|UE ae U9<|Vd w Z ⟨?_, ?_,trivial⟩
   ·refine Ve (vL _ L ak.m_) U7 fun E az _ A=>UR [cm (m % d)] U12 fun aA aB _ X=>U0 (vL _ (l:=[m % d]) (fun x o=>by rw [Rc.1 o];have:=Ry m H;omega) X.m_) U7 fl_ (fun z aC _ J=>?_);obtain ⟨A7,m7,c7,rfl⟩:=A.form;refine UG (j:=2) U12<|Uy U6<|UA [4,5] b Z ?_;clear b p w R;rw [show bB [m % d]=m % d from (by show m % d+B9*0=m % d;omega)] at J;rw [B] at A;exact UL 0 mup (hn_ [4,5] Z) ⟨_,z,⟨A.mono mup,J.mono mup⟩,Z,Z⟩
   refine UR [cm (m % d)] U12 fun aA aB _ X=>Ve (vL _ L ak.m_) U7 fun E az _ A=>U0 (vL _ (l:=[m % d]) (fun x o=>by rw [Rc.1 o];have:=Ry m H;omega) X.m_) U7 fl_ (fun z aC _ J=>?_);obtain ⟨A7,m7,c7,rfl⟩:=A.form;refine UG (j:=2) U12<|Uy U6<|UA [4,5] b Z ?_;clear b p w R;rw [show bB [m % d]=m % d from (by show m % d+B9*0=m % d;omega)] at J;rw [B] at A;exact UL 0 mup (hn_ [4,5] Z) ⟨_,z,⟨A.mono mup,J.mono mup⟩,Z,Z⟩
  obtain ⟨E,z,⟨an,aF⟩,rfl,rfl⟩:=s;refine G.perm (L':=[.obj bD (.deferred (some [])),.obj g (.cells ⟨[E]⟩ 305 (0,0)),.obj k (.cells ⟨[.int .u64 ((m % d:Nat):Int)]⟩ 160 (0,0))]) (pkL [1,0,0] Z) ?_;obtain ⟨A7,m7,c7,rfl⟩:=an.form;refine UJ (Wy (AU af Z Z Z Z Z) ?_);exact ⟨Z,_,_,Z,an,aF⟩
 exact absurd ad dc_
theorem vH (h:Dig9 l)(a:k<=l.length):bB l / B9 ^ k=bB (l.drop k):=by
 have e:bB l=bB (l.take k)+B9 ^ k*bB (l.drop k):=by
  conv=>lhs;rw [<- RW k l]
  rw [fE,Q5,Sa a]
 have h1:=iS (h.take k);rw [Q5,Sa a] at h1;rw [e,TN _ _ (Tm dc_),Tj h1,Sd]
theorem uC {b a:List Nat}(f:xZ b)(c:xZ a)(j:0<a.length)(m:a.length<=b.length):bB b / bB a<=bB (b.drop (a.length-1)) / g9 a (a.length-1)/\0<g9 a (a.length-1):=by
 have d:bB (a.drop (a.length-1))=g9 a (a.length-1):=by
  rw [fA om_,show a.length-1+1=a.length by omega,RM];show _+B9*0=_;omega
 have h1:=vH c.1 (k:=a.length-1) om_;have h2:=vH f.1 (k:=a.length-1) om_;have e:0<g9 a (a.length-1):=by
  rcases Sh (g9 a (a.length-1)) with h | h
  ·have h3:=xd (l:=a) (i:=a.length-1) om_;rw [h] at h3;exact absurd (by rw [S8];exact h3) c.2
  exact h
 refine ⟨?_,e⟩;rw [<- h2,<- d,<- h1,Nat.div_div_eq_div_mul];have g:0<B9 ^ (a.length-1):=Tm dc_;rw [d] at h1;refine Nat.div_le_div_left (Nat.mul_div_le _ _) ?_;rw [h1];exact Tt g e
theorem BJ (h:l.length=k+1):bB (l.drop k)=g9 l k:=by
 rw [fA om_,show k+1=l.length by omega,RM];show _+B9*0=_;omega
theorem Ka (h:l.length=k+2):bB (l.drop k)=g9 l (k+1)*B9+g9 l k:=by
 rw [fA om_,BJ (k:=k+1) om_,RF];omega
theorem zp (c:xZ a)(d:xZ b)(h:bB b<=bB a):b.length<=a.length:=by
 rcases Rr a.length b.length with h1 | h1
 ·have:=uv c.1 d h1;omega
 exact h1
theorem xF (c:xZ a)(d:xZ b)(h:bB a<B9*bB b):a.length<=b.length+1:=by
 have h2:=iS d.1;refine sY c (Sc h ?_);rw [R8,RF];exact RQ _ (Nat.le_of_lt h2)
theorem jB {f:Nat}(a:m<B9 ^ k)(b:f<B9):m*f<B9 ^ (k+1):=by
 rw [R8];exact SS a b
theorem PN {a:Nat}(h:x<B9*a)(b:a<B9 ^ k):x<B9 ^ (k+1):=by
 rw [R8,RF _ B9];exact Tb h (Nat.mul_lt_mul_of_pos_left b dc_)
theorem Ld (l:List Nat):(l.map cm).all (fun r=>r.all lH)=true:=by
 rw [List.all_map,Q4];intro x _;rfl
theorem D6 (C:Mem)(va vb:Value)(m n:Nat)(ha:NineC C va m)(hb:NineC C vb n)(hm:m<B9 ^ 100000)(aF:B9<=n) :
  Pur cx.P 248 [va,vb] C fun u D=>∃ q r,u=.tuple #[q,r]/\NineC D q (m / n)/\NineC D r (m % n):=by
 have aG:0<n:=Sc dc_ aF;have ac:=ha;have ad:=hb;obtain ⟨B,Q,bE,ag⟩:=hb;obtain ⟨A0,a0,c0,rfl⟩:=ha.form;obtain ⟨B0,d0,rfl,a2,bF,_⟩:=id ag;simp only [al] at ag ad a2 ⊢;have bG:maxLen<=9223372036854775807:=by simp [maxLen]
 have S:=B9v;have bH:2<=B.length:=by
  rcases Rr B.length 2 with h | h
  ·have h2:=iS Q.1;have h3:B9 ^ B.length<=B9 ^ 1:=Rn dc_ om_;rw [Nat.pow_one] at h3;omega
  exact h
 refine VS kr_ func248 Z 146 Z Z (fun w0=>?_);refine Uz fun R a=>?_;refine UQ U6 (fun b3=>?_);refine UP U5 (fun e=>?_);refine C4 1 [0,3,4,5] a Z ?_;clear a R;refine Uv 1 Z fun R a=>?_
 skip
 refine UE ae U9 ?_;refine UI (pG _ ac.m_ ad.m_) U7 ?_;refine C4 1 [0,3,4,5,17] a Z ?_;clear a R;refine Ux (fun ah=>?_) fun ah=>?_
 ·have U:m<n:=by
   have:jG m n<0:=by simpa using ah
   exact ja.1 this
  refine Uv 1 Z fun R a=>?_;refine UG (j:=0) U12 ?_;refine C4 1 [4,5] a Z ?_;clear a R;refine UJ (V2 (AU af Z Z Z Z Z) ?_ Ky);refine ⟨Z,_,_,Z, ?_, ?_⟩
  ·rw [Tj U];exact NineC.zero _
  rw [Ti U];exact ac.mono mup
 have U:n<=m:=by
  have h:¬ jG m n<0:=by simpa using ah
  rw [ja] at h;omega
 refine Uz fun R a=>?_;refine UE ae U9 ?_;refine C4 2 [0,3,4,5,21] a Z ?_;clear a R;refine Ux (fun aH=>?_) fun aH=>?_
 ·exact absurd aH ap
 have bI:=kP Q.1 (B.length-1);have a3:(B.map cm)[((B.length:Int)-1).toNat]?=some (cm (g9 B (B.length-1))):=by
  rw [show ((B.length:Int)-1).toNat=B.length-1 by omega];exact jn om_
 obtain ⟨f,hf⟩:∃ f,B9 / (g9 B (B.length-1)+1)=f:=⟨_,rfl⟩;refine Uz fun R a=>?_;refine UE ae U9 ?_;refine UE ae U9 ?_;refine Uy U6 ?_;refine UF _ U7 ?_;refine UK ag.m_ U10 om_ a3 fl_ (fun bJ a4=>?_);refine Uw a4 U8 ?_;refine D.int (((g9 B (B.length-1)+1:Nat):Int)) U4 (by rw [IntKind.wrap_u64];omega) U2 ?_;refine VD (B9) (g9 B (B.length-1)+1) U6 om_ (.inr ⟨Z,by omega⟩) U2 ?_;refine C4 1 [0,3,4,5,9] a Z ?_;clear a R;rw [hf];have w:0<f:=by rw [<- hf];exact Nat.div_pos om_ om_
 have o:f<B9:=by
  rw [<- hf];have h1:=(uC Q Q om_ (QO _)).2;exact Nat.div_lt_self dc_ om_
 have y:n<B9 ^ 100000:=RJ U hm;refine US [0,1,3,4,2,5,6,7] [] Z kr_ (fun R S a=>?_);refine UB 2 Z ?_;refine UE ae U9 ?_;refine Uy U6 ?_;refine U0 (yi (k:=100000) _ ac.m_ hm o om_) U7 fl_ (fun bK _ _ a5=>?_);refine U0 (yi (k:=100000) _ ad.m_ y o om_) U7 fl_ (fun bL _ a6 aI=>?_);refine Uy U6 ?_;obtain ⟨a7,bM,a8,rfl⟩:=aI.form;refine UG (j:=1) U12 ?_;refine UA [0,3,4,5,9] a Z ?_;clear a S R;have aJ:=a5.mono a6;have aL:=aI;refine G.freeze 0 Z (fun C3 aM v=>?_);obtain ⟨P,a9,ai,bO,aj⟩:=(aJ.mono aM).get (jB hm o);obtain ⟨W,p,z,bP,V⟩:=(aL.mono aM).get (jB y o);obtain ⟨PA,pc,rfl,_⟩:=id aj;obtain ⟨bQ,bR,ba,_⟩:=id V;cases ba
 simp only [al] at aj V v aJ aL ⊢;have ak:NineC C3 (.slice a7 W.length a8) (n*f):=⟨W,p,z,V⟩;have A:0<n*f:=Tt aG w;have an:n*f<B9 ^ 100001:=dB (k:=100001) (n:=100000+1) (jB (k:=100000) y o) (QO _);have bT:2<=W.length:=by
  have h1:B9<=bB W:=by rw [z];exact Rb aF (S2 _ w)
  rcases Rr W.length 2 with h | h
  ·have h2:=iS p.1;have h3:B9 ^ W.length<=B9 ^ 1:=Rn dc_ om_;rw [Nat.pow_one] at h3;omega
  exact h
 have bU:1<=P.length:=by
  rcases Sh P.length with h | h
  ·have:P=[]:=RB h;subst this;have h1:m*f=0:=by rw [<- ai];rfl
   have h2:0<m*f:=Tt om_ w;omega
  exact h
 have bb:=(uC p p om_ (QO _)).2;have bV:=kP p.1 (W.length-1);refine Uv 2 Z fun R a=>?_;refine Vy U9 (QO _) (by show 8*P.length<=281474976710656;omega) (by simp only [maxLen];omega) fl_ (fun d=>?_);refine UG (j:=1) U12 ?_;refine UA [0,3,4,5,9] a Z ?_;clear a R;refine Uz fun R a=>?_;refine Uw (PtrTo.block (Mem.get v mup) _) U8 ?_;refine Uw (PtrTo.block (Mem.get v mup) _) U8 ?_;refine Uy U6 ?_;refine UF _ U7 ?_;refine UK V.m_ U10 om_ (by rw [show ((W.length:Int)-1).toNat=W.length-1 by omega];exact jn om_:(W.map cm)[((W.length:Int)-1).toNat]?=some (cm (g9 W (W.length-1)))) fl_ (fun bW bc=>?_);refine Uw bc U8 ?_;refine C4 1 [0,3,4,5,9,10] a Z ?_;clear a R;refine Uv 2 Z fun R a=>?_;refine UF _ U7 ?_;refine C4 1 [0,3,4,5,9,10,11] a Z ?_;clear a R;refine UN (L':=[.obj e (.cells ⟨[qU d P.length P.length]⟩ 305 (0,0)),.arr (qU d P.length P.length) 160 1 P.length ((List.replicate P.length 0).map cm).flatten]) (by rw [<- EH];rfl) ?_;refine G.loop (fun fr C' g E=>∃ (i:Nat)(c:List Nat)(v5:Value),(i<=P.length/\c.length=P.length/\Dig9 c/\bB (c.drop i)=bB (P.drop i) / (n*f)/\NineC C' v5 (bB (P.drop i) % (n*f))/\∀ j,j<i->g9 c j=0)/\fr=[(0,[],.slice PA P.length pc),(3,[],.pointer (some ⟨b3,0,none⟩)),(4,[],.pointer (some ⟨e,0,none⟩)),(5,[],v5),(9,[],.int .u64 f),(10,[],.int .u64 (g9 W (W.length-1))),(11,[],.int .i64 ((i:Int)-1))]/\g=[.obj e (.cells ⟨[qU d P.length P.length]⟩ 305 (0,0)),.arr (qU d P.length P.length) 160 1 P.length (c.map cm).flatten]/\E=i+1) (hn_ [0,3,4,5,9,10,11] Z) ⟨P.length,List.replicate P.length 0,_,⟨QO _,Sj,(fun x hx=>by rw [S1 hx];decide),by rw [RM,TC am];simp [bB],by rw [RM,show bB []=0 from Z,Nat.zero_mod];exact NineC.zero _,fun j _=>BS _ j⟩,Z,Z,Z⟩ (fun fr bX bY m _ F=>?_);obtain ⟨i,c,v5,⟨hi,Y,ao,H,aa,aq⟩,rfl,rfl,rfl⟩:=F;refine Uu 2 [0,3,4,5,9,10,11,78] Z ?_;refine Ux (fun ar=>?_) fun ar=>?_
 ·have aN:0<i:=by
   have:(0:Int)<=(i:Int)-1:=by simpa using ar
   omega
  obtain ⟨j,rfl⟩:∃ j,i=j+1:=⟨i-1,by omega⟩;obtain ⟨T,hT⟩:∃ T,bB (P.drop (j+1))=T:=⟨_,rfl⟩;rw [hT] at H aa;have aO:=Ry T A;obtain ⟨I,bd,be,bZ,aP⟩:=aa.get (m:=100001) (Tb aO (dB (k:=100001) (n:=100000+1) (jB (k:=100000) y o) (QO _)));obtain ⟨RA,rc,aQ,_⟩:=id aP;rw [al] at aQ;subst aQ;obtain ⟨X,hX⟩:∃ X,g9 P j+B9*(T % (n*f))=X:=⟨_,rfl⟩;have aR:=kP a9.1 j;have bf:bB (g9 P j::I)=X:=by rw [bB,be,hX]
  have J:=sJ (t:=T) (x:=g9 P j) A;have bg:=mg (t:=T) A aR;rw [hX] at J bg;have ab:bB (P.drop j)=g9 P j+B9*T:=by rw [fA om_,hT]
  refine UW [(7,3)] Z (fun R a=>?_);refine UB 2 Z ?_;refine UK aj.m_ U10 om_ (by rw [show ((((j+1:Nat):Int)-1)).toNat=j by omega];exact jn om_:(P.map cm)[((((j+1:Nat):Int)-1)).toNat]?=some (cm (g9 P j))) fl_ (fun b0 bh=>?_);refine Uw bh U8 ?_;refine VA [cm (g9 P j)] U12 fl_ (fun b1=>?_);refine Uy U6 ?_;refine D.append (j:=0) U11 aP.m_ (Ld I) (by simp only [al,aK,maxLen];omega) (by simp only [al,aK];omega) fl_ (fun b2=>?_);refine D.call (gv _ _ (g9 P j::I) (n:=1+(I.map cm).length) (by rw [al];simp;omega)) Z (.inr dc_) U6 (QW _) fl_ (fun bi bj b5 _ bk=>?_);refine C4 1 [0,3,4,5,9,10,11] a Z ?_;clear a R;obtain ⟨rfl,hu⟩:=bk;have K:NineC bj bi X:=⟨EG (g9 P j::I),iw (fun x hx=>(Q3.1 hx).elim (fun h=>by rw [h];exact aR) (bd.1 x)),by rw [iv,bf],hu⟩;have aS:X<B9*(n*f):=by
   have h1:B9*(T % (n*f)+1)<=B9*(n*f):=Sk _ aO;rw [Sb] at h1;omega
  have aT:X<B9 ^ 100002:=dB (k:=100002) (n:=100001+1) (PN (k:=100001) aS an) (QO _);obtain ⟨b,L,au,b6,av⟩:=K.get aT;obtain ⟨XA,xc,aU,_⟩:=id av;rw [al] at aU;subst aU;refine Uv 1 Z fun R a=>?_;refine Uw (PtrTo.block (Mem.get v mup) _) U8 ?_;refine UI (pG _ K.m_ ak.m_) U7 ?_;refine C4 1 [0,3,4,5,9,10,11,92] a Z ?_;clear a R;refine Ux (fun aw=>?_) fun aw=>?_
  ·have aV:X<n*f:=by
    have:jG X (n*f)<0:=by simpa using aw
    exact ja.1 this
   refine Uv 1 Z fun R a=>?_;refine UF _ U7 ?_;refine C4 1 [0,3,4,5,9,10,11] a Z ?_;clear a R;rw [show ((j+1:Nat):Int)-1-1=(j:Int)-1 by omega];refine UH (m':=j+1) om_ mup (hn_ [0,3,4,5,9,10,11] Z) ⟨j,c,_,⟨by omega,Y,ao,by rw [fA (l:=c) om_,aq j om_,H,ab,J.1,Tj aV];omega,by rw [ab,J.2,Ti aV];exact K.mono mup,fun j' h=>aq j' om_⟩,Z,Z,Z⟩
  have bl:n*f<=X:=by
   have h:¬ jG X (n*f)<0:=by simpa using aw
   rw [ja] at h;omega
  have bm:=zp L p (by rw [au,z];exact bl);have b7:=xF L p (by rw [au,z];exact aS);have ax:=(uC L p om_ bm).1;obtain ⟨s,ay⟩:∃ s,bB (b.drop (W.length-1))=s:=⟨_,rfl⟩;rw [au,z,ay] at ax;have b8:=kP L.1 (b.length-1);have b9:=kP L.1 (b.length-2);refine Uv 3 Z fun R a=>?_;refine UF _ U7 ?_;refine UK av.m_ U10 om_ (by rw [show ((b.length:Int)-1).toNat=b.length-1 by omega];exact jn om_:(b.map cm)[((b.length:Int)-1).toNat]?=some (cm (g9 b (b.length-1)))) fl_ (fun ca bn=>?_);refine Uw bn U8 ?_;refine C4 1 [0,3,4,5,9,10,11,12] a Z ?_;clear a R;refine Uv 2 Z fun R a=>?_;refine Uw (PtrTo.block (Mem.get v mup) _) U8 ?_;refine C4 2 [0,3,4,5,9,10,11,12,103] a Z ?_;clear a R;refine G.cut (fun fr C' g E=>(s<1000000000000000000)/\fr=[(0,[],.slice PA P.length pc),(3,[],.pointer (some ⟨b3,0,none⟩)),(4,[],.pointer (some ⟨e,0,none⟩)),(5,[],.slice XA b.length xc),(9,[],.int .u64 f),(10,[],.int .u64 (g9 W (W.length-1))),(11,[],.int .i64 (((j+1:Nat):Int)-1)),(12,[],.int .u64 (s:Nat))]/\g=[.obj e (.cells ⟨[qU d P.length P.length]⟩ 305 (0,0)),.arr (qU d P.length P.length) 160 1 P.length (c.map cm).flatten]) ?_ (fun fr _ cb E _ F=>?_)
  ·refine Ux (fun az=>?_) fun az=>?_
   ·have bo:b.length=W.length-1+2:=by
     have:(W.length:Int)<(b.length:Int):=by simpa using az
     omega
    have M:=Ka bo;rw [ay,show W.length-1+1=b.length-1 by omega,show W.length-1=b.length-2 by omega] at M;have bp:g9 b (b.length-1)*B9<=999999999*B9:=RQ _ om_;rw [show 999999999*B9=999999999000000000 from rfl] at bp;refine Uv 1 Z fun R a=>?_;refine D.int (((g9 b (b.length-1)*B9:Nat):Int)) U4 (by rw [show (1000000000:Int)=((B9:Nat):Int) from Z,<- RN,IntKind.wrap_u64];omega) U2 ?_;refine UB 3 Z ?_;refine UF _ U7 ?_;refine UK av.m_ U10 om_ (by rw [show ((b.length:Int)-2).toNat=b.length-2 by omega];exact jn om_:(b.map cm)[((b.length:Int)-2).toNat]?=some (cm (g9 b (b.length-2)))) fl_ (fun cc bq=>?_);refine Uw bq U8 ?_;refine D.int (((s:Nat):Int)) U4 (by rw [M,IntKind.wrap_u64];omega) U2 ?_;refine C4 1 [0,3,4,5,9,10,11,12] a Z ?_;clear a R;refine UL 0 mup (hn_ [0,3,4,5,9,10,11,12] Z) ⟨by omega,Z,Z⟩
   have br:b.length=W.length-1+1:=by
    have:¬ (W.length:Int)<(b.length:Int):=by simpa using az
    omega
   have M:=BJ br;rw [ay,show W.length-1=b.length-1 by omega] at M;rw [<- M];refine UL 0 mup (hn_ [0,3,4,5,9,10,11,12] Z) ⟨by omega,Z,Z⟩
  obtain ⟨cd,rfl,rfl⟩:=F;obtain ⟨N,aA⟩:∃ N,s / g9 W (W.length-1)=N:=⟨_,rfl⟩;rw [aA] at ax;have ce:N<=s:=by rw [<- aA];exact RR _ _
  refine Uv 2 Z fun R a=>?_;refine VD (s) (g9 W (W.length-1)) U6 bb (.inr ⟨Z,by omega⟩) U2 ?_;rw [aA];refine D.min (((min N 999999999:Nat):Int)) Z Z Z Z Z Z om_ Z Z ?_;refine C4 1 [0,3,4,5,9,10,11,12] a Z ?_;clear a R;refine Uz fun R a=>?_;refine Uw (PtrTo.block (Mem.get v mup) _) U8 ?_;refine Uy U6 ?_;refine U0 (yi (k:=100001) _ ak.m_ an om_ om_) U7 fl_ (fun bs _ _ bt=>?_);refine C4 1 [0,3,4,5,9,10,11,12,13] a Z ?_;clear a R;refine G.loop (fun fr C' g E=>∃ (dd:Nat)(aB:Value),(X / (n*f)<=dd/\dd<B9/\NineC C' aB (n*f*dd))/\fr=[(0,[],.slice PA P.length pc),(3,[],.pointer (some ⟨b3,0,none⟩)),(4,[],.pointer (some ⟨e,0,none⟩)),(5,[],.slice XA b.length xc),(9,[],.int .u64 f),(10,[],.int .u64 (g9 W (W.length-1))),(11,[],.int .i64 (((j+1:Nat):Int)-1)),(12,[],.int .u64 (dd:Nat)),(13,[],aB)]/\g=[.obj e (.cells ⟨[qU d P.length P.length]⟩ 305 (0,0)),.arr (qU d P.length P.length) 160 1 P.length (c.map cm).flatten]/\E=dd+1) (hn_ [0,3,4,5,9,10,11,12,13] Z) ⟨min N 999999999,bs,⟨by have h:=Nat.le_min.2 ⟨ax,(by omega:X / (n*f)<=999999999)⟩;exact h,by omega,bt.mono mup⟩,Z,Z,Z⟩ (fun fr cf cg m _ F=>?_);obtain ⟨dd,aB,⟨bu,aW,aC⟩,rfl,rfl,rfl⟩:=F;refine Uv 2 Z fun R a=>?_;refine UI (pG _ aC.m_ K.m_) U7 ?_;refine C4 1 [0,3,4,5,9,10,11,12,13,123] a Z ?_;clear a R;refine Ux (fun aD=>?_) fun aD=>?_
  ·have O:X<n*f*dd:=by
    have:0<jG (n*f*dd) X:=by simpa using aD
    exact Gf.1 this
   have bv:1<=dd:=by
    rcases Sh dd with h | h
    ·rw [h] at O;omega
    exact h
   refine Uv 1 Z fun R a=>?_;refine Uw (PtrTo.block (Mem.get v mup) _) U8 ?_;refine U0 (ur (k:=100002) _ aC.m_ ak.m_ (dB (k:=100002) (n:=100001+1) (jB (k:=100001) an aW) (QO _)) (S2 _ bv) om_) U7 fl_ (fun bw _ _ aX=>?_);refine C4 1 [0,3,4,5,9,10,11,12,13] a Z ?_;clear a R;refine Uv 1 Z fun R a=>?_;refine D.int (((dd-1:Nat):Int)) U4 (by rw [IntKind.wrap_u64];omega) U2 ?_;refine C4 1 [0,3,4,5,9,10,11,12,13] a Z ?_;clear a R;rw [show n*f*dd-n*f=n*f*(dd-1) from by rw [Nat.mul_sub,SK]] at aX;refine UH (m':=dd-1+1) om_ mup (hn_ [0,3,4,5,9,10,11,12,13] Z) ⟨dd-1,bw,⟨by have h:=(SX A).2 (by rw [RF];exact O);omega,by omega,aX.mono mup⟩,Z,Z,Z⟩
  have O:n*f*dd<=X:=by
   have h:¬ 0<jG (n*f*dd) X:=by simpa using aD
   rw [Gf] at h;omega
  have aY:dd=X / (n*f):=Nat.le_antisymm ((Nat.le_div_iff_mul_le A).2 (by rw [RF];exact O)) bu;have bx:X-n*f*dd=X % (n*f):=by rw [aY];have:=TU X (n*f);omega
  refine US [0,1,2,3,4,5,6,7,8] [] Z kr_ (fun R S a=>?_);refine UE af U9 ?_;refine UB 4 Z ?_;refine U0 (ur (k:=100002) _ K.m_ aC.m_ aT O om_) U7 fl_ (fun bz _ _ aZ=>?_);refine Va (j*1) U10 (fun _=>⟨by omega,by omega,(by rw [show (((j+1:Nat):Int)-1).toNat=j by omega])⟩) U2 ?_;refine Vc (j:=1) U11 (by show j*1+1<=_;rw [bS eG,Y];omega) ?_;refine Uy U6 ?_;refine UA [0,3,4,5,9,10,11] a Z ?_;clear a S R;refine Uv 1 Z fun R a=>?_;refine UF _ U7 ?_;refine C4 1 [0,3,4,5,9,10,11] a Z ?_;clear a R;rw [show ((j+1:Nat):Int)-1-1=(j:Int)-1 by omega];refine G.perm (L':=[.obj e (.cells ⟨[qU d P.length P.length]⟩ 305 (0,0)),.arr (qU d P.length P.length) 160 1 P.length (aE (c.map cm).flatten (cm dd) (j*1))]) (List.Perm.swap _ _ _) ?_;refine UN (L':=[.obj e (.cells ⟨[qU d P.length P.length]⟩ 305 (0,0)),.arr (qU d P.length P.length) 160 1 P.length ((c.set j dd).map cm).flatten]) (by rw [<- bN eG _ (by omega:j<c.length)]) ?_;rw [bx] at aZ;refine UH (m':=j+1) om_ mup (hn_ [0,3,4,5,9,10,11] Z) ⟨j,c.set j dd,bz,⟨by omega,by simp [Y],ao.set aW,by rw [li om_,H,ab,J.1,aY];omega,by rw [ab,J.2];exact aZ.mono mup,fun j' h=>by rw [qi om_];exact aq j' om_⟩,Z,Z,Z⟩
 have aN:i=0:=by
  have:¬ (0:Int)<=(i:Int)-1:=by simpa using ar
  omega
 subst aN;rw [R0,R0,ai,Nat.mul_div_mul_right _ _ w] at H;rw [R0,ai,Nat.mul_mod_mul_right] at aa;refine Uv 2 Z fun R a=>?_;refine UR [cm f] U12 (fun ch _ _ bA=>?_);refine U0 (sI _ _ _ (m % n*f) f aa.m_ (by
  have h1:=jB (k:=100000) (Tb (Ry m aG) y) o;exact dB (k:=200000) (n:=100000+1) h1 dc_) bA.m_ w o) U7 fl_ (fun ci _ _ bC=>?_)
 obtain ⟨q2,r2,rfl,a1,cj⟩:=bC;rw [Nat.mul_div_cancel _ w] at a1;refine C4 4 [4,5] a Z ?_;clear a R;refine G.perm (L':=[.arr (qU d P.length P.length) 160 1 P.length (c.map cm).flatten,.obj e (.cells ⟨[qU d P.length P.length]⟩ 305 (0,0))]) (List.Perm.swap _ _ _) ?_;refine UW [(1,3)] Z (fun R a=>?_);refine UE ae U9 ?_;refine D.call (gv _ _ c Y) Z (.inr dc_) U6 (QW _) fl_ (fun ck _ cl _ bD=>?_);refine Uy U6 ?_;obtain ⟨rfl,hu⟩:=bD;obtain ⟨Au,cu,rfl,_⟩:=id hu;refine UG (j:=0) U12 ?_;refine C4 1 [4,5] a Z ?_;clear a R;refine UJ (V2 (AU af Z Z Z Z Z) ?_ Ky);exact ⟨Z,_,_,Z,⟨EG c,iw ao,by rw [iv,H],hu⟩,a1.mono mup⟩
theorem xj (C:Mem)(a b:Value)(m n:Nat)(g:NineC C a m)(h:NineC C b n)(i:m<B9 ^ 100000)(f:0<n) :
  Pur cx.P 248 [a,b] C fun u D=>∃ q r,u=.tuple #[q,r]/\NineC D q (m / n)/\NineC D r (m % n):=by
 rcases Rr n B9 with c | c
 ·obtain ⟨l,h1,h2,h3,h4⟩:=h.get (m:=1) (by rw [Nat.pow_one];exact c);have j:l≠[]:=fun e=>by rw [e] at h2;rw [<- h2] at f;exact absurd f dc_
  obtain ⟨d,rfl⟩:∃ d,l=[d]:=by
   cases l with
   | nil=>exact absurd rfl j
   | cons d l=>cases l with
    | nil=>exact ⟨d,rfl⟩
    | cons e l=>simp at h3
  have o:d=n:=by rw [<- h2];show d=d+B9*0;omega
  subst o;exact sI C a b m d g (dB (k:=200000) (n:=100000) i dc_) h4 f c
 exact D6 C a b m n g h i c
theorem Kl (C:Mem)(s:Str)(c:UInt8):Gives cx.P 249 [ai s,ai [c]] C (.bool (cM c s).2):=by
 exact UD func249 8 U3 fun w0=>Uu 1 [0,1] Z<|Uv 2 Z fun R a=>UI (yK _ s c) U7<|C4 1 [4] a Z<|UC U2<|⟨Z,Z⟩
theorem EY (C:Mem)(s:Str)(c:UInt8):Gives cx.P 266 [ai s,ai [c]] C (ai (cM c s).1):=by
 refine UD func266 13 U3 fun w0=>Uu 1 [0,1] Z<|Uv 2 Z fun R d=>UI (yK _ s c) U7<|UA [0,1,7] d Z<|Ux (fun a=>?_) fun a=>?_
 ·have h:s.head?=some c:=Rq fun h=>by unfold cM at a;rw [az h] at a;cases a
  have e:1<=s.length:=by cases s with
   | nil=>cases h
   | cons b s=>simp
  refine Uv 3 Z fun R d=>Vw 1 s.length U9 (fun _=>⟨.inr ⟨_,Z⟩,.inl ⟨Z,Z⟩,.inl ⟨Z,Z⟩,by omega,QO _,QO _⟩) U2<|C4 1 [4] d Z<|UC U2 ?_;unfold cM;rw [aW h];refine ⟨?_,Z⟩;rw [Q2,List.drop_one];rfl
 have h:¬ s.head?=some c:=fun h=>by unfold cM at a;rw [aW h] at a;cases a
 refine Uu 2 [4] Z<|UC U2 ?_;unfold cM;rw [az h];exact ⟨Z,Z⟩
theorem Ak (C:Mem)(s:Str)(c:UInt8):Gives cx.P 232 [ai s,ai [c]] C (ai (cM c s).1):=by
 exact UD func232 8 U3 fun w0=>Uu 1 [0,1] Z<|Uv 2 Z fun R a=>UI (EY _ s c) U7<|C4 1 [4] a Z<|UC U2<|⟨Z,Z⟩
def eN (z:Int):Int:=if z<0 then -1 else if z=0 then 0 else 1
theorem lT (C:Mem)(z:Int):Gives cx.P 209 [ai (txt z)] C (.int .i64 (eN z)):=by
 refine UD func209 9 U3 fun w0=>Uu 1 [0] Z ?_
 skip
 refine Uu 3 [0,3] Z<|Ux (fun h3=>?_) fun h3=>?_
 ·have b:z=0:=by
   have h:=lj z;rw [h] at h3;exact aJ h3
  exact Uu 1 [2] Z<|UC U2<|⟨by rw [b];rfl,Z⟩
 have b:z≠0:=by
  have h:=lj z;rw [h] at h3;exact QS h3
 refine Uv 1 Z fun R d=>UI (Kl _ (txt z) 45) U7<|C4 1 [6] d Z<|Ux (fun a=>?_) fun a=>?_
 ·have c:z<0:=by
   rw [dE] at a;exact aJ a
  exact Uu 1 [2] Z<|UC U2<|⟨by rw [eN,aW c],Z⟩
 have c:¬ z<0:=by
  rw [dE] at a;exact QS a
 exact Uu 1 [2] Z<|UC U2<|⟨by rw [eN,az c,az b],Z⟩
theorem so (C:Mem)(a:Tabs C)(z:Int)(b:-9223372036854775808<=z)(c:z<=9223372036854775807):Gives cx.P 79 [.int .i64 z] C (ai (txt z)):=by
 exact UD func79 5 U3 fun w0=>Uu 1 [0] Z<|Uv 1 Z fun R d=>UI (jl _ a.m_ z b c) U7<|C4 1 [2] d Z<|UC U2<|⟨Z,Z⟩
theorem mL (z:Int):(txt z).length<=(bq z.natAbs).length+1:=by unfold txt;split <;> simp
theorem uy (C:Mem)(z:Int)(e:(bq z.natAbs).length<=1000000):Gives cx.P 210 [ai (txt z)] C (ai (txt (-z))):=by
 have f:=mL z;refine UD func210 14 U3 fun w0=>Uu 1 [0] Z<|Uv 1 Z fun R a=>UI (lT _ z) U7<|UA [0,4] a Z<|Uu 2 [0,4,5] Z<|Ux (fun h5=>?_) fun h5=>?_
 ·have d:0<z:=by
   have h:eN z=1:=by simpa using h5
   unfold eN at h;split at h
   ·cases h
   split at h
   ·cases h
   omega
  refine Uv 1 Z fun R a=>Vu U6 (fun _=>(by simp only [Q8,Q7];omega)) U2<|C4 1 [2] a Z<|UC U2<|⟨?_,Z⟩;unfold txt;rw [az om_,aW om_,T0];rfl
 have d:¬ 0<z:=fun h=>by
  have h2:eN z=1:=by unfold eN;rw [az om_,az om_]
  rw [h2] at h5;cases h5
 refine Uu 2 [0,9] Z<|Ux (fun b=>?_) fun b=>?_
 ·have c:z<0:=by
   have h:eN z=-1:=by simpa using b
   unfold eN at h;split at h
   ·assumption
   split at h <;> cases h
  refine Uv 1 Z fun R a=>Vw 1 (txt z).length U9 (fun _=>⟨.inr ⟨_,Z⟩,.inl ⟨Z,Z⟩,.inl ⟨Z,Z⟩,(by unfold txt;rw [aW c];simp),QO _,QO _⟩) U2<|C4 1 [2] a Z<|UC U2<|⟨?_,Z⟩;rw [Q2];unfold txt;rw [aW c,az om_,T0];rfl
 have c:¬ z<0:=fun h=>by
  have h2:eN z=-1:=by unfold eN;rw [aW h]
  rw [h2] at b;cases b
 refine Uu 2 [2] Z<|UC U2<|⟨?_,Z⟩;rw [show z=0 by omega];rfl
theorem HO:∀ {s t:Str},(∀ c∈s,eR c=true)->(∀ c∈t,eR c=true)->s.length=t.length->Lib.compareBytes s t=jG (bX s) (bX t)
 | [],[],_,_,_=>rfl
 | [],_::_,_,_,h=>by simp at h
 | _::_,[],_,_,h=>by simp at h
 | c::s,d::t,hs,g,k=>by
  have e:s.length=t.length:=by simpa using k
  have i:∀ x∈s,eR x=true:=fun x f=>hs x (by simp [f]);have j:∀ x∈t,eR x=true:=fun x f=>g x (by simp [f]);have l:=HO i j e;have h1:=dW i;have h2:=dW j;have m:=hs c am;have n:=g d am;simp only [eR,QZ] at m n;rw [dF,dF,e];rw [e] at h1;simp only [Lib.compareBytes];obtain ⟨p,o⟩:∃ p,10 ^ t.length=p:=⟨_,rfl⟩;rw [o] at h1 h2 ⊢;by_cases a:c<d
  ·rw [aW a];have r:c.toNat<d.toNat:=a;have h3:(c.toNat-48+1)*p<=(d.toNat-48)*p:=RQ _ om_;rw [SJ] at h3;unfold jG;rw [aW om_]
  rw [az a];by_cases b:d<c
  ·rw [aW b];have u:d.toNat<c.toNat:=b;have h3:(d.toNat-48+1)*p<=(c.toNat-48)*p:=RQ _ om_;rw [SJ] at h3;unfold jG;rw [az om_,aW om_]
  rw [az b,l];have q:c.toNat=d.toNat:=by
   have h3:¬ c.toNat<d.toNat:=a;have h4:¬ d.toNat<c.toNat:=b;omega
  rw [q];unfold jG;split <;> rename_i h5
  ·rw [aW om_]
  split <;> rename_i v
  ·rw [az om_,aW om_]
  rw [az om_,az om_]
theorem qC {a b:Nat}(h:(bq a).length<(bq b).length):a<b:=by
 obtain ⟨h1,h2⟩:=bC a;obtain ⟨h3,h4⟩:=bC b;have c:=RD.2 h1.2.1;have h5:=dW h1.1;have d:=ot h3 om_;have e:10 ^ (bq a).length<=10 ^ ((bq b).length-1):=Rn dc_ om_;omega
theorem N8 {a b:Nat}(h:(bq a).length=(bq b).length):Lib.compareBytes (bq a) (bq b)=jG a b:=by
 obtain ⟨h1,h2⟩:=bC a;obtain ⟨h3,h4⟩:=bC b;rw [HO h1.1 h3.1 h,h2,h4]
def vz (z w:Int):Int:=if z<w then -1 else if w<z then 1 else 0
theorem ep (z:Int):(z<0/\eN z=-1)∨(z=0/\eN z=0)∨(0<z/\eN z=1):=by
 unfold eN;split
 ·exact .inl ⟨by assumption,Z⟩
 split
 ·exact .inr (.inl ⟨by assumption,Z⟩)
 exact .inr (.inr ⟨by omega,Z⟩)
theorem zk (h:eN z=eN w):vz z w=eN z*jG z.natAbs w.natAbs:=by
 have a:=ep w;rw [<- h] at a;unfold vz jG;rcases ep z with ⟨h1,h2⟩ | ⟨h1,h2⟩ | ⟨h1,h2⟩ <;> rw [h2] at a ⊢
 ·have h3:w<0:=by omega
  split <;> split <;> (try split) <;> omega
 ·have h3:w=0:=by omega
  subst h1 h3;simp
 have h3:0<w:=by omega
 split <;> split <;> (try split) <;> omega
theorem Jf (z:Int):IntKind.i64.wrap (-(eN z))=-(eN z):=by
 rcases ep z with ⟨h1,h2⟩ | ⟨h1,h2⟩ | ⟨h1,h2⟩ <;> rw [h2] <;> rfl
theorem Fb (C:Mem)(a b:Str):Gives cx.P 233 [ai a,ai b] C (.int .i64 (Lib.compareBytes a b)):=yo Tryz.scmp a b C kr_
theorem pZ (C:Mem)(z w:Int)(_m:(bq z.natAbs).length<=1000000)(_n:(bq w.natAbs).length<=1000000):Gives cx.P 161 [ai (txt z),ai (txt w)] C (.int .i64 (vz z w)):=by
 have ez:(cM 45 (txt z)).1=bq z.natAbs:=by rw [dE]
 have j:(cM 45 (txt w)).1=bq w.natAbs:=by rw [dE]
 refine UD func161 41 U3 fun w0=>Uu 1 [0,1] Z<|Uv 1 Z fun R b=>UI (lT _ z) U7<|Uy U6<|UI (lT _ w) U7<|C4 2 [0,1,5,6] b Z<|Uu 3 [0,1,5,6,15] Z<|Ux (fun c=>?_) fun c=>?_
 ·have k:eN z≠eN w:=by simpa using c
  refine Uu 3 [18] Z<|Ux (fun d=>?_) fun d=>?_
  ·have a:eN z<eN w:=by simpa using d
   refine Uu 1 [4] Z<|UC U2<|⟨?_,Z⟩;rw [vz,aW (by unfold eN at a;split at a <;> split at a <;> (try split at a) <;> omega)]
  have a:¬ eN z<eN w:=by simpa using d
  refine Uu 1 [4] Z<|UC U2<|⟨?_,Z⟩;have h:w<z:=by
   have h2:eN w<eN z:=by omega
   unfold eN at h2;split at h2 <;> split at h2 <;> (try split at h2) <;> omega
  rw [vz,az om_,aW h]
 have f:eN z=eN w:=by simpa using c
 refine Uv 1 Z fun R b=>UI (Ak _ (txt z) 45) U7<|Uy U6<|UI (Ak _ (txt w) 45) U7 ?_;rw [ez,j];refine C4 2 [5,7,8] b Z<|Uu 5 [5,7,8,27] Z<|Ux (fun g=>?_) fun g=>?_
 ·have k:(bq z.natAbs).length≠(bq w.natAbs).length:=fun e=>by
   have h:(((bq z.natAbs).length:Nat):Int)≠(((bq w.natAbs).length:Nat):Int):=by simpa using g
   exact h (by rw [e])
  refine Uu 5 [5,32] Z<|Ux (fun i=>?_) fun i=>?_
  ·have a:z.natAbs<w.natAbs:=qC (by
    have h:(((bq z.natAbs).length:Nat):Int)<(((bq w.natAbs).length:Nat):Int):=by simpa using i
    omega)
   refine Uu 3 [4] Z<|UC U2<|⟨?_,Z⟩;rw [Int.zero_sub,Jf,zk f,show jG z.natAbs w.natAbs=-1 from aW a];congr 1;omega
  have a:w.natAbs<z.natAbs:=qC (by
   have h:¬ (((bq z.natAbs).length:Nat):Int)<(((bq w.natAbs).length:Nat):Int):=by simpa using i
   omega)
  refine Uu 2 [4] Z<|UC U2<|⟨?_,Z⟩;rw [zk f,show jG z.natAbs w.natAbs=1 from by unfold jG;rw [az om_,aW a]];congr 1;omega
 have l:(bq z.natAbs).length=(bq w.natAbs).length:=by
  have h:(((bq z.natAbs).length:Nat):Int)=(((bq w.natAbs).length:Nat):Int):=by simpa using g
  omega
 refine Uv 3 Z fun R b=>UI (Fb _ (bq z.natAbs) (bq w.natAbs)) U7 ?_;rw [N8 l];refine Vf ((vz z w)) U4 (by rw [zk f]) (by unfold vz;split <;> (try split) <;> omega) (by unfold vz;split <;> (try split) <;> omega) U2 ?_
 exact C4 1 [4] b Z<|UC U2<|⟨Z,Z⟩
def qK (b:Bool):Int:=if b then 0 else 2
theorem wZ (C:Mem)(s:Str):Gives cx.P 207 [ai s] C (.int .i64 (qK (cK s))):=by
 obtain ⟨t,neg,p⟩:∃ t b,cM 45 s=(t,b):=⟨_,_,rfl⟩;have g:cK s=(t.all eR && !(t == []) && !(t.head? == some 48 && (neg || decide (1<t.length))) && decide (t.length<=200)):=by unfold cK xD;rw [p]
 refine UD func207 47 U3 fun w0=>Uu 1 [0] Z<|Uv 1 Z fun R a=>UM (by have h:=HJ C s 45;rw [p] at h;exact h) U7 fl_<|C4 5 [3,4] a Z<|Uv 6 Z fun R a=>U1 U8<|UB 2 Z<|Vs (b:=t.headD 0) U8 (fun r=>⟨by omega,(by
  cases t with
  | nil=>exact Bool.noConfusion (show true=false from r.1)
  | cons b t=>rfl)⟩) U2 ?_
 refine UB 7 Z<|U1 U8<|UU U8<|U1 U8<|UA [3,30] a Z<|Ux (fun d=>?_) fun d=>?_
 ·have j:cK s=false:=by
   rw [g];cases t with
   | nil=>simp
   | cons b t =>
    simp at d;rcases d with h | ⟨h,h2⟩
    ·simp;intro _ _;omega
    have e:b=48:=Ue.1 (by show b.toNat=48;omega);subst e;have u:(neg || decide (1<((48:UInt8)::t).length))=true:=by
     rcases h2 with h2 | h2
     ·rw [Ra ap];simp
     rw [h2];rfl
    rw [u];simp
  exact Uu 1 [2] Z<|UC U2<|⟨by rw [j];rfl,Z⟩
 have v:t.length<=200:=by
  simp at d;omega
 refine Uu 3 [3,32,33] Z<|G.loop (fun fr C' w y=>∃ (i:Nat),(i<=t.length/\∀ c∈t.take i,eR c=true)/\fr=[(3,[],ai t),(32,[],.int .i64 t.length),(33,[],.int .i64 i)]/\w=[]/\y=t.length-i) (hn_ [3,32,33] Z) ⟨0,⟨QT _,by simp⟩,Z,Z,Z⟩ (fun fr E F m _ z=>?_);obtain ⟨i,⟨H,k⟩,rfl,rfl,rfl⟩:=z;refine Uu 1 [3,32,33,34] Z<|Ux (fun l=>?_) fun l=>?_
 ·have n:i<t.length:=by simpa using l
  obtain ⟨c,f⟩:∃ c,t[i]?=some c:=⟨t[i],aj n⟩;refine Uu 2 [3,5,32,33] Z<|Uv 2 Z fun R a=>Vs U8 (fun _=>⟨by omega,f⟩) U2<|UB 4 Z<|Vs U8 (fun _=>⟨by omega,f⟩) U2<|Uy U6<|U1 U8<|UA [3,32,33,45] a Z<|Ux (fun o=>?_) fun o=>?_
  ·have j:cK s=false:=by
    have h1:t.all eR=false:=by
     rw [S3];refine ⟨c,QQ f, ?_⟩;simp at o;unfold eR;simp;omega
    rw [g,h1];rfl
   exact Uu 1 [2] Z<|UC U2<|⟨by rw [j];rfl,Z⟩
  have A:eR c=true:=by
   simp at o;unfold eR;simp;omega
  refine Uz fun R a=>UF _ U7<|C4 1 [3,32,33] a Z<|UH (m':=t.length-(i+1)) om_ mup (hn_ [3,32,33] Z) ⟨i+1,⟨by omega,fun x q=>by
   rw [Rm,f] at q;rcases Q6.1 q with h | h
   ·exact k x h
   simp at h;subst h;exact A⟩,rfl,rfl,rfl⟩
 have n:t.length<=i:=by
  have:¬ i<t.length:=by simpa using l
  omega
 rw [Re n] at k;have B:t.all eR=true:=Q4.2 k;have D:cK s=true:=by
  rw [g,B,Ra v];cases t with
  | nil=>simp at d
  | cons b t =>
   simp at d;simp;by_cases e:b=48
   ·subst e;have h5:=d.2;simp at h5;exact .inr ⟨h5.2,RB om_⟩
   exact .inl e
 exact Uu 1 [2] Z<|UC U2<|⟨by rw [D];rfl,Z⟩
end Go.Proofs.YthnpijdjlddpmaaGreatDoor
