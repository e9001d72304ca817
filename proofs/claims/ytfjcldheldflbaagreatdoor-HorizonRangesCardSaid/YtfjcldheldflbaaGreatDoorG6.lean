/- Laws that the proofs of this seat share, part 6. -/
import Derived.Test.YtfjcldheldflbaaGreatDoorG5
import Derived.Test.YtfjcldheldflbaaGreatDoorShelf
set_option maxHeartbeats 4000000
namespace Go.Proofs.YtfjcldheldflbaaGreatDoor
open Go.Proofs.Tryz
open Go Go.Jog
set_option maxRecDepth 100000
variable {Q:Nat}{a b:List Nat}{i j k:Nat}{l:List Nat}{m n:Nat}{o p:List Int}{q:List Nat}{s:Str}{t:Nat}{w:Int}{x:Nat}{z:Int}
def gI (p:List Int)(i:Nat):Int:=p.getD i 0
theorem Gu (h:k<p.length):(p.map pX)[k]?=some (pX (gI p k))/\p[k]?=some (gI p k):=by
 have e:p[k]?=some (gI p k):=by
  unfold gI;rw [ax,aj h];rfl
 exact ⟨by rw [PH,e];rfl,e⟩
theorem rY (h:p.length<=k):gI p k=0:=by
 unfold gI;rw [ax,PO h];rfl
theorem Lc (p:List Int)(k:Nat):iD (p.take (k+1))=iD (p.take k)+(10000:Int) ^ k*gI p k:=by
 rcases P8 k p.length with h | h
 ·exact Ei (Gu h).2
 rw [rY h,Qk h,Qk om_];simp
theorem E6 (o:Int):(o-o % 10000).tdiv 10000=(o-o % 10000) / 10000:=Int.tdiv_eq_ediv_of_dvd (Int.dvd_of_emod_eq_zero om_)
theorem JU (C:Mem)(v:Value)(p:List Int)(g:Sl C 1 v (p.map pX))(H:0<=iD p)(I:∀ x∈p, -1000000000000<=x/\x<=1000000000000)(O:p.length<=100000):Pur cx.P 235 [v] C fun u D=>PieC D u (iD p).toNat:=by
 obtain ⟨k,c0,rfl,_⟩:=id g;simp only [al] at g ⊢;refine Tr func235 43 U3 fun w0=>Th 1 [0] Z<|Th 1 [0,3] Z<|Th 1 [0,3,4] Z<|Th 1 [0,3,4,5] Z<|G.nilArr 3 1<|G.loop (fun fr B b c=>∃ (i:Nat)(o:Int)(out:List Nat)(w:Value),(out.length=i/\DigP out/\-1000000000000<=o/\o<=1000000000000/\iD (p.take i)=(bK out:Nat)+(10000:Int) ^ i*o/\(p.length<=i->(i:Int)+o<=1000000100000))/\fr=[(0,[],.slice k p.length c0),(3,[],w),(4,[],.int .i64 o),(5,[],.int .i64 i)]/\b=[.arr w 3 1 i (out.map aT).flatten]/\c=(p.length-i)*4611686018427387904+o.natAbs) (hn_ [0,3,4,5] Z) ⟨0,0,[],_,⟨Z,(fun x J=>(by cases J)),by omega,by omega,by simp [iD,bK],fun h=>by omega⟩,Z,Z,Z⟩ (fun fr Q S m _ d=>?_);obtain ⟨i,o,out,w,⟨e,l,T,U,n,E⟩,rfl,rfl,rfl⟩:=d;have q:p.length<=i->0<=o:=fun h=>by
  refine IS e l (V:=iD p) H ?_;rw [<- n,Qk h]
 have W:(i:Int)<=1000000100000:=by
  rcases P8 i p.length with h | h
  ·omega
  have:=q h;have:=E h;omega
 refine Ti 7 Z fun R a=>TQ U8<|Tn [0,3,4,5,14] a Z<|G.cd (fun r=>?_) fun r=>?_
 ·have s:i<p.length∨o≠0:=by
   simp at r;omega
  have X:-1000000000000<=gI p i/\gI p i<=1000000000000:=by
   rcases P8 i p.length with h | h
   ·exact I _ (O0 (Gu h).2)
   rw [rY h];omega
  refine Th 4 [0,3,4,5,20] Z<|G.cut (fun fr B b c=>(True)/\fr=[(0,[],.slice k p.length c0),(3,[],w),(4,[],.int .i64 (o+gI p i)),(5,[],.int .i64 i)]/\b=[.arr w 3 1 i (out.map aT).flatten]) ?_ (fun fr _ Y c _ d=>?_)
  ·refine G.cd (fun t=>?_) fun t=>?_
   ·have f:i<p.length:=by simpa using t
    refine Ti 3 Z fun R a=>Ty g.m_ U10 om_ (Gu f).1 fl_ fun aa K=>Tj K U8<|Tq _ Z U6<|C6 1 [0,3,4,5] a Z<|Tx 0 (Mem.le.refl _) (hn_ [0,3,4,5] Z) ⟨trivial,Z,Z⟩
   have f:p.length<=i:=by
    have:¬ i<p.length:=by simpa using t
    omega
   rw [show o=o+gI p i by rw [rY f,Int.add_zero]];refine Tx 0 (Mem.le.refl _) (hn_ [0,3,4,5] Z) ⟨trivial,by rw [rY f];simp,Z⟩
  obtain ⟨_,rfl,rfl⟩:=d;refine Ti 1 Z fun R a=>VK (Int.tmod (o+gI p i) 10000) Z Z Z Z Z Z om_ Z Z Z<|C6 1 [0,3,4,5,6] a Z ?_;have y:=Iv (o+gI p i);have ab:-10000<=Int.tmod (o+gI p i) 10000/\Int.tmod (o+gI p i) 10000<10000:=by
   have:=SY (o+gI p i) (show (10000:Int)≠0 by decide);have:=Int.emod_lt_of_pos (o+gI p i) (show (0:Int)<10000 by decide);split at y <;> omega
  refine Th 2 [0,3,4,5,6,30] Z<|G.cut (fun fr B b c=>(True)/\fr=[(0,[],.slice k p.length c0),(3,[],w),(4,[],.int .i64 (o+gI p i)),(5,[],.int .i64 i),(6,[],.int .i64 (((o+gI p i) % 10000).toNat:Nat))]/\b=[.arr w 3 1 i (out.map aT).flatten]) ?_ (fun fr _ ac c _ d=>?_)
  ·refine G.cd (fun z=>?_) fun z=>?_
   ·have A:Int.tmod (o+gI p i) 10000<0:=by simpa using z
    rw [aK A] at y;refine Ti 1 Z fun R a=>TS (((((o+gI p i) % 10000).toNat:Nat):Int)) U4 om_ om_ om_ U2<|C6 1 [0,3,4,5,6] a Z<|Tx 0 (Mem.le.refl _) (hn_ [0,3,4,5,6] Z) ⟨trivial,Z,Z⟩
   have A:¬ Int.tmod (o+gI p i) 10000<0:=by simpa using z
   rw [aG A] at y;rw [show Int.tmod (o+gI p i) 10000=((((o+gI p i) % 10000).toNat:Nat):Int) by omega];refine Tx 0 (Mem.le.refl _) (hn_ [0,3,4,5,6] Z) ⟨trivial,Z,Z⟩
  obtain ⟨_,rfl,rfl⟩:=d;refine Ti 2 Z fun R a=>TF [aT (((o+gI p i) % 10000).toNat)] U12 fun ad _ _ L=>D.append (j:=0) U11 L Z aw (by show (i+1)*8<=_;omega) fl_ fun F=>C6 1 [0,3,4,5,6] a Z<|Ti 2 Z fun R a=>TS ((o+gI p i-(o+gI p i) % 10000)) U4 om_ om_ om_ U2<|Uy ((o+gI p i-(o+gI p i) % 10000) / 10000) U6 om_ (E6 _) (by rw [IntKind.wrap_i64];omega) U2<|C6 1 [0,3,4,5] a Z<|Ti 1 Z fun R a=>Tq _ Z U6<|C6 1 [0,3,4,5] a Z ?_;have hm:(p.length-(i+1))*4611686018427387904+((o+gI p i-(o+gI p i) % 10000) / 10000).natAbs<(p.length-i)*4611686018427387904+o.natAbs:=by
   rcases P8 i p.length with h2 | h2
   ·omega
   have h3:=q h2;rw [rY h2];omega
  refine Tz (L':=[.arr F 3 1 (i+1) ((out++[((o+gI p i) % 10000).toNat]).map aT).flatten]) (by simp [aT])<|Tv (m':=(p.length-(i+1))*4611686018427387904+((o+gI p i-(o+gI p i) % 10000) / 10000).natAbs) om_ mup (hn_ [0,3,4,5] Z) ⟨i+1,(o+gI p i-(o+gI p i) % 10000) / 10000,out++[((o+gI p i) % 10000).toNat],F,⟨by simp [e],l.snoc (by show ((o+gI p i) % 10000).toNat<10000;omega),by omega,by omega,by
   refine Hf e ?_;rw [Lc,n,SL];omega,fun h=>by
   rcases P8 i p.length with h2 | h2
   ·omega
   have h3:=q h2;have h4:=E h2;rw [rY h2] at *;omega⟩,rfl,rfl,rfl⟩
 have s:p.length<=i/\o=0:=by
  simp at r;omega
 refine TH [(1,3)] Z fun R a=>Tk U6<|D.call (uE _ _ out e) Z (.inr dc_) U6 (PI _) fl_ (fun ae _ af _ M=>?_);obtain ⟨rfl,N⟩:=M;refine C6 1 [2] a Z<|Tp U2<|⟨Z,xm out,lY l, ?_,N⟩;rw [Qk s.1,s.2] at n;rw [ik];omega
theorem zQ:∀ (l:List Int)(i:Nat)(x:Int),i<l.length->iD (l.set i x)=iD l+(10000:Int) ^ i*(x-gI l i)
 | [],i,x,h=>by simp at h
 | a::l,0,x,_=>by
  show x+10000*iD l=a+10000*iD l+1*(x-a);omega
 | a::l,i+1,x,h=>by
  have b:=zQ l i x (by simpa using h);show a+10000*iD (l.set i x)=a+10000*iD l+(10000:Int) ^ (i+1)*(x-gI l i);rw [b,SL,<- Int.mul_assoc,Int.pow_succ,Int.mul_comm ((10000:Int) ^ i) 10000];omega
theorem Eh (l:List Int):iD (l++[0])=iD l:=by rw [vu];omega
structure Joins (p q:List Nat)(k:Int)(i:Nat)(o:List Int):Prop where
 len:o.length=max p.length i
 val:iD o=(bK p:Nat)+k*(bK (q.take i):Nat)
 rest:∀ j,i<=j->gI o j=(gP p j:Nat)
 lim:∀ x∈o, -100000000<=x/\x<=100000000
theorem Ow (p:List Nat)(j:Nat):gI (p.map fun x:Nat=>(x:Int)) j=(gP p j:Nat):=by
 unfold gI gP;rw [ax,ax,PH];cases p[j]? <;> rfl
theorem yI (p q:List Nat)(k:Int)(a:DigP p):Joins p q k 0 (p.map fun x:Nat=>(x:Int)):=by
 refine ⟨by simp,by rw [zR];simp [bK],fun j _=>Ow p j,fun x b=>?_⟩;obtain ⟨y,hy,rfl⟩:=PK.1 b;have:y<10000:=a y hy;omega
theorem Joins.zero {p:List Nat}{k:Int}(h:Joins p q k i o)(c:o.length<=i):iD (o++[0])=(bK p:Nat)+k*(bK (q.take i):Nat)/\(∀ j,i<=j->gI (o++[0]) j=(gP p j:Nat))/\(∀ x∈o++[0], -100000000<=x/\x<=100000000):=by
 refine ⟨by rw [Eh,h.val],fun j a=>?_,fun x b=>?_⟩
 ·have h1:=h.rest j a;have h2:gI o j=0:=by unfold gI;rw [ax,PO om_];rfl
  rw [<- h1,h2];unfold gI;rw [ax,P4 om_];cases j-o.length <;> rfl
 rcases PU.1 b with h1 | h1
 ·exact h.lim x h1
 simp at h1;subst h1;omega
theorem Gt {x:Int}(h:i≠j):gI (o.set i x) j=gI o j:=by
 unfold gI;rw [ax,ax,S2 h]
theorem Dg {p:List Nat}{k:Int}{y:Nat}(d:DigP p)(f:DigP q)(a:-9999<=k/\k<=9999)(b:q[i]?=some y)(g:o.length=max p.length (i+1))
  (h:iD o=(bK p:Nat)+k*(bK (q.take i):Nat)) (c:∀ j,i<=j->gI o j=(gP p j:Nat)) (l:∀ x∈o, -100000000<=x/\x<=100000000) :
  Joins p q k (i+1) (o.set i (gI o i+k*(y:Nat))):=by
 have n:y<10000:=f y (O0 b);have r:gP p i<10000:=Gs d i;have s:-99980001<=k*(y:Int)/\k*(y:Int)<=99980001:=by
  have h0:(0:Int)<=y:=by omega
  have h1:k*(y:Int)<=9999*(y:Int):=RU a.2 h0;have h2:(-9999:Int)*(y:Int)<=k*(y:Int):=RU a.1 h0;omega
 refine ⟨by rw [Qp];exact g, ?_,fun j t=>?_,fun x m=>?_⟩
 ·rw [zQ o i _ om_,h,iC b];have e:((bK (q.take i)+BP ^ i*y:Nat):Int)=(bK (q.take i):Nat)+(10000:Int) ^ i*(y:Int):=by
   rw [Si,Qa,Int.natCast_pow];rfl
  rw [e,SL,show gI o i+k*(y:Int)-gI o i=k*(y:Int) by omega,Int.mul_left_comm];omega
 ·rw [Gt om_];exact c j om_
 rcases QM m with h1 | h1
 ·exact l x h1
 subst h1;rw [c i (PE _)];omega
theorem BD (h:k<p.length):p[k]?=some (gI p k):=by
 unfold gI;rw [ax,aj h];rfl
theorem mT (h:Co l)(a:bK l<BP ^ m):l.length<=m:=by
 apply P5;intro b;have h1:=uN h om_;have h2:BP ^ m<=BP ^ (l.length-1):=P2 dc_ om_;omega
theorem ux (x:Int):(pX x).length=1:=rfl
theorem ft (x:Nat):(aT x).length=1:=rfl
theorem Hg (C:Mem)(v:Value)(p:List Int)(b:p.length=n)(c:0<=iD p)(d:∀ x∈p, -1000000000000<=x/\x<=1000000000000)(e:p.length<=100000):Jog.Fn cx.P 235 [v] C [.arr v 3 1 n (p.map pX).flatten] fun u a f=>f=[]/\PieC a u (iD p).toNat :=
 Jog.Fn.give (p.map pX) kr_ (by intro r hr;obtain ⟨y,_,rfl⟩:=PK.1 hr;rfl) (by rw [al,b]) (fun a _ hs=>JU a v p hs c d e)
theorem wN (C:Mem)(J K:Value)(p q:List Nat)(k:Int)(W:Sl C 1 J (p.map aT))(f:Sl C 1 K (q.map aT))(L:DigP p)(M:DigP q)(g:-9999<=k/\k<=9999)(X:0<=(bK p:Int)+k*(bK q:Int))(aq:p.length<=50000)(ar:q.length<=50000) :
  Pur cx.P 175 [J,K,.int .i64 k,.int .i64 0] C fun u D=>PieC D u ((bK p:Int)+k*(bK q:Int)).toNat:=by
 obtain ⟨N,c0,rfl,_⟩:=id f;simp only [al] at f ⊢;refine Tr func175 45 U3 fun w0=>Th 1 [0,1,2,3] Z<|Tl fun R b=>Uu [] U12 fl_ fun au=>Tk U6<|D.append (j:=0) U11 W (by rw [PY];intro r hr;obtain ⟨y,_,rfl⟩:=PK.1 hr;rfl) (by rw [al];simp only [Qf,maxLen];omega) (by rw [al];show (0+p.length)*8<=_;omega) fl_ fun Y=>C6 1 [1,2,3,9] b Z<|Th 1 [1,2,3,9,10] Z<|Tz (L':=[.arr Y 3 1 (p.map fun x:Nat=>(x:Int)).length (((p.map fun x:Nat=>(x:Int)).map pX).flatten)]) (by rw [QC];simp;rfl)<|G.loop (fun fr C' d n=>∃ (i:Nat)(o:List Int)(w:Value),(i<=q.length/\Joins p q k i o)/\fr=[(1,[],.slice N q.length c0),(2,[],.int .i64 k),(3,[],.int .i64 0),(9,[],w),(10,[],.int .i64 i)]/\d=[.arr w 3 1 o.length (o.map pX).flatten]/\n=q.length-i) (hn_ [1,2,3,9,10] Z) ⟨0,_,_,⟨PL _,yI p q k L⟩,Z,Z,Z⟩ (fun fr av ax m _ z=>?_);obtain ⟨i,o,w,⟨hi,c⟩,rfl,rfl,rfl⟩:=z;refine Th 4 [1,2,3,9,10,17] Z<|G.cd (fun A=>?_) fun A=>?_
 ·have B:i<q.length:=by simpa using A
  have ay:=c.len;refine G.loop (fun fr C' d n=>∃ (a:List Int)(E:Value),((a=o∨(a=o++[0]/\o.length<=i)))/\fr=[(1,[],.slice N q.length c0),(2,[],.int .i64 k),(3,[],.int .i64 0),(9,[],E),(10,[],.int .i64 i)]/\d=[.arr E 3 1 a.length (a.map pX).flatten]/\n=i+1-a.length) (hn_ [1,2,3,9,10] Z) ⟨o,w,.inl Z,Z,Z,Z⟩ (fun fr az aA m _ z=>?_);obtain ⟨a,E,F,rfl,rfl,rfl⟩:=z;refine VU 0 Z (fun Aw O he=>?_);subst he;have aB:a.length<=50002:=by
   have h1:a.length<=o.length+1:=by
    have h2:=F.imp (fun e=>congrArg List.length e) (fun e=>congrArg List.length e.1);rw [PM,PD] at h2;omega
   omega
  refine Ti 4 Z fun R b=>TS (((i:Nat):Int)) U4 om_ om_ om_ U2<|C6 1 [1,2,3,9,10,25] b Z<|G.cd (fun H=>?_) fun H=>?_
  ·have Q:a.length<=i:=by
    have:(a.length:Int)<=i:=by simpa using H
    omega
   have aa:a=o:=by
    refine F.elim id fun h=>?_;have:=h.1 ▸ Q;rw [PM,PD] at this;omega
   subst aa;refine Ti 1 Z fun R b=>TF [pX 0] U12 fun aC _ _ ab=>D.append (j:=0) U11 ab Z aw (by show (a.length+1)*8<=_;omega) fl_ fun S=>C6 1 [1,2,3,9,10] b Z<|Tz (L':=[.arr S 3 1 (a++[0]).length ((a++[0]).map pX).flatten]) (by simp [pX]) ?_;have aD:i+1-(a++[0]).length<i+1-a.length:=by rw [PM,PD];omega
   refine Tv (m':=i+1-(a++[0]).length) om_ mup (hn_ [1,2,3,9,10] Z) ⟨a++[0],S,.inr ⟨Z,Q⟩,Z,Z,Z⟩
  have I:i<a.length:=by
   have:¬ (a.length:Int)<=i:=by simpa using H
   omega
  have ac:a.length=max p.length (i+1)/\iD a=(bK p:Nat)+k*(bK (q.take i):Nat)/\(∀ j,i<=j->gI a j=(gP p j:Nat))/\(∀ x∈a, -100000000<=x/\x<=100000000):=by
   refine F.elim (fun h=>?_) fun h=>?_
   ·subst h;exact ⟨by omega,c.val,c.rest,c.lim⟩
   obtain ⟨h1,h2⟩:=h;subst h1;have h3:=c.zero h2;exact ⟨by rw [PM,PD];omega,h3⟩
  obtain ⟨ad,ae,af,T⟩:=ac;obtain ⟨ah,aj⟩:=pQ (l:=q) (k:=i) B;have aE:gP q i<10000:=Gs M i;have aF:-99980001<=k*((gP q i:Nat):Int)/\k*((gP q i:Nat):Int)<=99980001:=by
   have h0:(0:Int)<=((gP q i:Nat):Int):=by omega
   have h1:k*((gP q i:Nat):Int)<=9999*((gP q i:Nat):Int):=RU g.2 h0;have h2:(-9999:Int)*((gP q i:Nat):Int)<=k*((gP q i:Nat):Int):=RU g.1 h0;omega
  have aG:=T _ (O0 (BD I));refine Vx 0 (m:=a.length-1) (v:=.slice Aw a.length O) (t:=3) (s:=1) (xs:=(a.map pX).flatten) (by rw [show a.length-1+1=a.length by omega];rfl) (fun g0 cc ak=>?_);injection ak with am aH an;subst am an;refine TD [0,1,2,3,4,5,6,7,8,9,10,11,12,13,14] [] Z kr_ fun R hB b=>Tm 3 Z<|TS (((i:Nat):Int)) U4 om_ om_ om_ U2<|TL (i*1) U10 ai U2<|Ue ag U6 (fun _=>(by rw [eD ux (BD I)];rfl)) U2<|Tm 3 Z<|Ty f.m_ U10 om_ ah fl_ fun aI ao=>Tj ao U8<|Tq _ Z U6<|Tq _ Z U6<|TL (i*1) U10 ai U2<|TP (j:=0) U11 (by show i*1+1<=_;rw [bW ux];omega)<|Tn [1,2,3,9,10] b Z<|Ti 1 Z fun R b=>Tq _ Z U6<|C6 1 [1,2,3,9,10] b Z<|Tz (L':=[.arr (.slice (some ⟨g0,0,none⟩) a.length O) 3 1 (a.set i (gI a i+k*((gP q i:Nat):Int))).length ((a.set i (gI a i+k*((gP q i:Nat):Int))).map pX).flatten]) (by rw [<- bN ux _ I,Qp];rfl)<|Tv (m':=q.length-(i+1)) om_ mup (hn_ [1,2,3,9,10] Z) ⟨i+1,_,_,⟨by omega,Dg L M g aj ad ae af T⟩,Z,Z,Z⟩
 have B:i=q.length:=by
  have:¬ i<q.length:=by simpa using A
  omega
 have U:iD o=(bK p:Int)+k*(bK q:Int):=by rw [c.val,B,PT]
 refine TH [(1,3)] Z fun R b=>Tk U6<|D.call (Hg _ _ o Z (by rw [U];exact X) (fun x hx=>by have:=c.lim x hx;omega) (by have:=c.len;omega)) Z (.inr dc_) U6 (PI _) fl_ (fun aJ _ aK _ ap=>?_);obtain ⟨rfl,V⟩:=ap;refine C6 1 [8] b Z<|Tp U2 ?_;rw [U] at V;exact ⟨Z,V⟩
theorem Nq (n:Nat):kA ([.int .i64 0]:List Value) n=((List.replicate n 0).map aT).flatten:=by
 rw [eU,R4];rfl
theorem vo (h:j<l.length):bK (l.drop j)=gP l j+BP*bK (l.drop (j+1)):=by
 rw [P1 h,(aJ.1 (pQ h).2).2];rfl
theorem tk (h:j<l.length):bK ((l.set j x).drop j)=x+BP*bK (l.drop (j+1)):=by
 rw [vo (by rw [Qp];exact h),List.drop_set_of_lt om_];congr 1;unfold gP;rw [ax,SM h];rfl
theorem JD (h:DigP l)(a:x<BP):DigP (l.set j x):=fun y hy=>by
 rcases QM hy with h1 | h1
 ·exact h y h1
 rw [h1];exact a
theorem Bg (C:Mem)(O Q:Value)(p q:List Nat)(v:Sl C 1 O (p.map aT))(g:Sl C 1 Q (q.map aT))(aj:DigP p)(w:Co q)(i:0<bK q)(aH:p.length<=10000)(aI:q.length<=10000) :
  Pur cx.P 230 [O,Q] C fun u D=>∃ u1 S,u=.tuple #[u1,S]/\PieC D u1 (bK p / bK q)/\PieC D S (bK p % bK q):=by
 obtain ⟨T,c0,rfl,_⟩:=id v;obtain ⟨U,V,rfl,_⟩:=id g;simp only [al] at v g ⊢;refine Tr func230 58 U3 fun w0=>Th 2 [0,1] Z<|Ti 2 Z fun R b=>Up U9 (PE _) (by show 8*p.length<=281474976710656;omega) (by simp only [maxLen];omega) fl_ fun d=>C6 1 [0,1,6] b Z<|Th 1 [0,1,6,7] Z<|Ti 2 Z fun R b=>Tq _ Z U6<|C6 1 [0,1,6,7,8] b Z<|Tz (L':=[.arr (qW d p.length p.length) 3 1 p.length ((List.replicate p.length 0).map aT).flatten]) (by rw [<- Nq];rfl)<|G.loop (fun fr W e z=>∃ (k:Nat)(o l:List Nat)(A:Value),(k<=p.length/\o.length=p.length/\DigP o/\bK (o.drop k)=bK (p.drop k) / bK q/\Sl W 1 A (l.map aT)/\Co l/\bK l=bK (p.drop k) % bK q)/\fr=[(0,[],.slice T p.length c0),(1,[],.slice U q.length V),(6,[],qW d p.length p.length),(7,[],A),(8,[],.int .i64 ((k:Int)-1))]/\e=[.arr (qW d p.length p.length) 3 1 p.length (o.map aT).flatten]/\z=k+1) (hn_ [0,1,6,7,8] Z) ⟨p.length,List.replicate p.length 0,[],.slice none 0 0,⟨PE _,Qd,(fun x c=>by rw [RI c];decide),by rw [QI,Sn am];simp [bK],Sl.nil _ _,⟨fun x c=>(by cases c),by simp⟩,by rw [QI];simp [bK]⟩,Z,Z,Z⟩ (fun fr aJ aK m _ B=>?_);obtain ⟨k,o,l,A,⟨hk,X,Y,aa,hs,E,F⟩,rfl,rfl,rfl⟩:=B;refine Th 2 [0,1,6,7,8,19] Z<|G.cd (fun H=>?_) fun H=>?_
 ·have ab:0<k:=by
   have:(0:Int)<=(k:Int)-1:=by simpa using H
   omega
  obtain ⟨j,rfl⟩:∃ j,k=j+1:=⟨k-1,by omega⟩;rw [show ((j+1:Nat):Int)-1=(j:Int) by omega];obtain ⟨ak,aL⟩:=pQ (l:=p) (k:=j) om_;have c:gP p j<BP:=Gs aj j;have aM:gP p j<10000:=c;have aN:l.length<=q.length:=mT E (by rw [F];exact RT (Qj _ i) (mm w.1));have an:DigP (gP p j::l):=fun y hy=>by
   rcases PQ.1 hy with h | h
   ·rw [h];exact c
   exact E.1 y h
  refine TH [(7,3)] Z fun R b=>Tm 2 Z<|Ty v.m_ U10 om_ ak fl_ fun aO ao=>Tj ao U8<|Uu [aT (gP p j)] U12 fl_ fun aP=>Tk U6<|D.append (j:=0) U11 hs.m_ (by rw [PY];intro r hr;obtain ⟨y,_,rfl⟩:=PK.1 hr;rfl) (by rw [al];simp only [PD,maxLen];omega) (by rw [al];show (1+l.length)*8<=_;omega) fl_ fun aQ=>D.call (uE _ _ (gP p j::l) (n:=1+(l.map aT).length) (by rw [al];simp;omega)) Z (.inr dc_) U6 (PI _) fl_ (fun ac ap aR _ aq=>?_);obtain ⟨rfl,I⟩:=aq;refine C6 1 [0,1,6,7,8] b Z ?_;obtain ⟨r,ad,J,ae,aS⟩:∃ r,Co r/\bK r=gP p j+BP*(bK (p.drop (j+1)) % bK q)/\Sl ap 1 ac (r.map aT)/\r.length<=20000:=⟨xm (gP p j::l),lY an,by rw [ik];show gP p j+BP*bK l=_;rw [F],I,by unfold xm;rw [PS,PW];omega⟩;have K:=GJ (t:=bK (p.drop (j+1))) (x:=gP p j) i;rw [<- vo om_,<- J] at K;have ar:bK r / bK q<BP:=by rw [J];exact xj i c
  have aU:bK r / bK q<10000:=ar;refine Th 2 [0,1,6,7,8,9,10] Z<|G.loop (fun fr W e z=>∃ (low a:Nat),(low<=bK r / bK q/\bK r / bK q<=a/\a<=9999)/\fr=[(0,[],.slice T p.length c0),(1,[],.slice U q.length V),(6,[],qW d p.length p.length),(7,[],ac),(8,[],.int .i64 j),(9,[],.int .i64 low),(10,[],.int .i64 a)]/\e=[.arr (qW d p.length p.length) 3 1 p.length (o.map aT).flatten]/\z=a-low) (hn_ [0,1,6,7,8,9,10] Z) ⟨0,9999,⟨PL _,by omega,PE _⟩,Z,Z,Z⟩ (fun fr aV aW m _ B=>?_);obtain ⟨low,a,⟨au,av,aw⟩,rfl,rfl,rfl⟩:=B;refine Th 3 [0,1,6,7,8,9,10,32] Z<|G.cd (fun L=>?_) fun L=>?_
  ·have s:low<a:=by simpa using L
   obtain ⟨ax,ay⟩:=MC i au av s;refine Ti 2 Z fun R b=>Tq _ Z U6<|Tq _ Z U6<|Uy ((((low+a+1) / 2:Nat):Int)) U6 om_ (by rw [R8 om_];omega) (by rw [IntKind.wrap_i64];omega) U2<|C6 1 [0,1,6,7,8,9,10,11] b Z<|Ti 3 Z fun R b=>TO (wN _ _ _ [] q ((((low+a+1) / 2:Nat):Int)) (Sl.nil _ _) g.m_ (fun x c=>(by cases c)) w.1 om_ (by rw [<- Qa];omega) am om_) U7 fl_ (fun aX _ _ az=>?_);obtain ⟨l2,aA,aB,aC⟩:=az;have af:bK l2=bK q*((low+a+1) / 2):=by
    have h0:((bK ([]:List Nat):Nat):Int)=0:=rfl;rw [aB,h0,Int.zero_add,<- Qa,Rr,Qn]
   refine Tt (IN _ _ _ r l2 ae.m_ aC.m_ ad aA) U7<|Tn [0,1,6,7,8,9,10,11,42] b Z<|G.cd (fun M=>?_) fun M=>?_
   ·have N:bK r<bK q*((low+a+1) / 2):=by
     rw [<- af];simpa using M
    have f:=ax N;refine Ti 1 Z fun R b=>Tq _ Z U6<|C6 1 [0,1,6,7,8,9,10] b Z ?_;rw [show ((((low+a+1) / 2:Nat):Int))-1=(((low+a+1) / 2-1:Nat):Int) by omega];refine Tv (m':=(low+a+1) / 2-1-low) om_ mup (hn_ [0,1,6,7,8,9,10] Z) ⟨low,(low+a+1) / 2-1,⟨f.1,f.2,by omega⟩,Z,Z,Z⟩
   have N:¬ bK r<bK q*((low+a+1) / 2):=by
    rw [<- af];simpa using M
   have f:=ay N;refine Th 2 [0,1,6,7,8,9,10] Z<|Tv (m':=a-(low+a+1) / 2) om_ mup (hn_ [0,1,6,7,8,9,10] Z) ⟨(low+a+1) / 2,a,⟨f.1,f.2,aw⟩,Z,Z,Z⟩
  have s:low=bK r / bK q:=by
   have:¬ low<a:=by simpa using L
   omega
  have ag:((bK r:Nat):Int) + -(low:Int)*((bK q:Nat):Int)=((bK r % bK q:Nat):Int):=by
   have h1:=Sh (bK r) (bK q);rw [<- s] at h1;have h2:((bK q*low+bK r % bK q:Nat):Int)=(bK r:Nat):=by rw [h1]
   rw [Si,Qa] at h2;rw [Int.neg_mul,Int.mul_comm (low:Int)];omega
  refine Ti 3 Z fun R b=>TL (j*1) U10 ai U2<|TP (j:=0) U11 (by show j*1+1<=_;rw [bW ft];omega)<|Tn [0,1,6,7,8,9] b Z<|Ti 4 Z fun R b=>?_;rw [show IntKind.i64.wrap (0-(low:Int))=-(low:Int) by rw [IntKind.wrap_i64];omega];refine TO (wN _ _ _ r q (-(low:Int)) ae.m_ g.m_ ad.1 w.1 om_ (by rw [ag];omega) om_ om_) U7 fl_ (fun aY _ _ aD=>?_);obtain ⟨l3,aE,ah,aF⟩:=aD;rw [ag,Rr] at ah;refine C6 1 [0,1,6,7,8] b Z<|Ti 1 Z fun R b=>Tq _ Z U6<|C6 1 [0,1,6,7,8] b Z<|Tz (L':=[.arr (qW d p.length p.length) 3 1 p.length ((o.set j low).map aT).flatten]) (by rw [<- bN ft _ (by omega:j<o.length)];rfl)<|Tv (m':=j+1) om_ mup (hn_ [0,1,6,7,8] Z) ⟨j,o.set j low,l3,_,⟨by omega,by rw [Qp];exact X,JD Y (by show low<BP;omega),by rw [tk om_,aa,K.1,s];omega,aF.mono mup,aE,by rw [ah,K.2,J]⟩,Z,Z,Z⟩
 have ab:k=0:=by
  have:¬ (0:Int)<=(k:Int)-1:=by simpa using H
  omega
 subst ab;refine TH [(1,3)] Z fun R b=>Tk U6<|D.call (uE _ _ o X) Z (.inr dc_) U6 (PI _) fl_ (fun aZ _ a0 _ aG=>?_);obtain ⟨rfl,I⟩:=aG;refine C6 3 [4,5] b Z<|Tu (G.dropAll (TM U3 ?_));exact ⟨Z,_,_,Z,⟨xm o,lY Y,by rw [ik,<- QV (l:=o),aa,QV],I⟩,⟨l,E,by rw [F,QV],hs.mono mup⟩⟩
theorem dI (z:Int):cJ 45 (txt z)=(bj z.natAbs,decide (z<0)):=by
 unfold txt;split
 ·rename_i h;rw [P0 h];rfl
 rename_i h;rw [Qc h];unfold cJ;rw [aG];intro h0;have h1:=(bx z.natAbs).1.1 45 (List.mem_of_mem_head? h0);revert h1;decide
theorem zU (z:Int):txt z=[48] ↔ z=0:=by
 constructor
 ·intro h;have h1:(cJ 45 (txt z)).1=[48]:=by rw [h];rfl
  rw [dI] at h1;have h2:=(bx z.natAbs).2;have h3:bj z.natAbs=[48]:=h1;rw [h3] at h2;have h4:bY [48]=0:=rfl;omega
 rintro rfl;unfold txt;rw [aG om_,show bj (0:Int).natAbs=bj 0 from rfl,bj];rfl
theorem lg (z:Int):((⟨(txt z).toArray⟩:ByteArray).data.toList == (⟨#[48]⟩:ByteArray).data.toList)=decide (z=0):=by
 show (txt z == [48])=_;rw [OB,Qy];exact zU z
theorem de (n:Nat):txt (n:Int)=bj n:=by
 unfold txt;rw [aG om_];rfl
theorem fD (C:Mem)(z:Int):Gives cx.P 172 [af (txt z)] C (.tuple #[.bool (decide (z<0)),af (bj z.natAbs)]):=by
 have h:=split_fn C (txt z)
 rwa [dI] at h
theorem GV {c:UInt8}(h:s[i]?=some c):bY (s.take (i+1))=10*bY (s.take i)+(c.toNat-48):=by
 rw [GW h];omega
theorem xl (a:∀ c∈s,eQ c=true)(d:s.length<=17)(i:Nat):bY (s.take i)<100000000000000000:=by
 have h1:=dJ (s:=s.take i) (fun c b=>a c (QX b));have h2:10 ^ (s.take i).length<=10 ^ 17:=P2 dc_ (by rw [PS];omega);omega
theorem H6 (C:Mem)(z:Int)(b:(bj z.natAbs).length<=17):Gives cx.P 177 [af (txt z)] C (.tuple #[.int .i64 z,.bool true]):=by
 obtain ⟨s,k⟩:∃ s,bj z.natAbs=s:=⟨_,rfl⟩;have hs:=(bx z.natAbs).1.1;have d:=(bx z.natAbs).2;rw [k] at b hs d;refine Tr func177 45 U3 fun w0=>Th 2 [0] Z<|Ti 1 Z fun R a=>Tw (by have h:=fD C z;rw [k] at h;exact h) U7 fl_<|C6 5 [4,5] a Z<|Th 3 [4,5,16] Z<|G.cd (fun l=>?_) fun l=>?_
 ·exfalso;have:(s.length:Int) > 19:=by simpa using l
  omega
 refine Th 1 [4,5,6] Z<|Th 1 [4,5,6,7] Z<|G.loop (fun fr w p q=>∃ (i:Nat),(i<=s.length)/\fr=[(4,[],.bool (decide (z<0))),(5,[],af s),(6,[],.int .i64 (-((bY (s.take i):Nat):Int))),(7,[],.int .i64 i)]/\p=[]/\q=s.length-i) (hn_ [4,5,6,7] Z) ⟨0,PL _,Z,Z,Z⟩ (fun fr x y m _ r=>?_);obtain ⟨i,A,rfl,rfl,rfl⟩:=r;refine Th 4 [4,5,6,7,20] Z<|G.cd (fun e=>?_) fun e=>?_
 ·have f:i<s.length:=by simpa using e
  obtain ⟨c,g⟩:∃ c,s[i]?=some c:=⟨s[i],aj f⟩;have t:=hs c (O0 g);have B:48<=c.toNat/\c.toNat<=57:=by simpa [eQ] using t
  have D:=xl hs b i;have u:(-9223372036854775808+(((c.toNat:Nat):Int)-48)).tdiv 10=-((9223372036854775808-(((c.toNat:Nat):Int)-48)) / 10):=by
   rw [show (-9223372036854775808+(((c.toNat:Nat):Int)-48))=-(9223372036854775808-(((c.toNat:Nat):Int)-48)) by omega,Int.neg_tdiv,R8 om_]
  refine Ti 2 Z fun R a=>Uh U8 (fun _=>⟨by omega,g⟩) U2<|TX (c:=((c.toNat:Nat):Int)) U8 (by rw [IntKind.wrap_i64];omega) fl_<|Tq _ Z U6<|C6 1 [4,5,6,7,8] a Z<|Ti 2 Z fun R a=>Tq _ Z U6<|Uy (-((9223372036854775808-(((c.toNat:Nat):Int)-48)) / 10)) U6 om_ u (by rw [IntKind.wrap_i64];omega) U2<|C6 1 [4,5,6,7,8,32] a Z<|G.cd (fun n=>?_) fun n=>?_
  ·exfalso;simp only [PN] at n;omega
  refine Ti 1 Z fun R a=>Tq _ Z U6<|Tk U6<|Tq _ Z U6<|C6 1 [4,5,6,7] a Z<|Ti 1 Z fun R a=>Tq _ Z U6<|C6 1 [4,5,6,7] a Z ?_;rw [show 10 * -((bY (s.take i):Nat):Int)-(((c.toNat:Nat):Int)-48)=-((bY (s.take (i+1)):Nat):Int) by rw [GV g];omega];refine Tv (m':=s.length-(i+1)) om_ mup (hn_ [4,5,6,7] Z) ⟨i+1,om_,Z,Z,Z⟩
 have f:i=s.length:=by
  have:¬ i<s.length:=by simpa using e
  omega
 rw [f,PT,d];refine Th 2 [6,37] Z<|G.cd (fun j=>?_) fun j=>?_
 ·have v:z<0:=by simpa using j
  refine Th 3 [2,3] Z<|Tu (G.dropAll (TM U3 ?_));refine ⟨?_,Z⟩;rw [show -((z.natAbs:Nat):Int)=z by omega]
 have v:¬ z<0:=by simpa using j
 have E:z.natAbs<100000000000000000:=by
  have:=xl hs b s.length
  rwa [PT,d] at this
 refine Th 3 [6,40] Z<|G.cd (fun o=>?_) fun o=>?_
 ·exfalso;simp at o;omega
 refine Th 4 [2,3] Z<|Tu (G.dropAll (TM U3 ?_));refine ⟨?_,Z⟩;rw [show IntKind.i64.wrap (0 - -((z.natAbs:Nat):Int))=z by rw [IntKind.wrap_i64];omega]
theorem BZ (C:Mem)(z:Int):Gives cx.P 171 [af (txt z)] C (.tuple #[.int .i64 (if (bj z.natAbs).length<=17 then z else 0),.bool (decide ((bj z.natAbs).length<=17))]):=by
 refine Tr func171 18 U3 fun w0=>Th 2 [0] Z<|Ti 1 Z fun R b=>Tt (fD C z) U7<|C6 5 [0,5] b Z<|Th 3 [0,13] Z<|G.cd (fun c=>?_) fun c=>?_
 ·have a:¬ (bj z.natAbs).length<=17:=by
   have:((bj z.natAbs).length:Int) > 17:=by simpa using c
   omega
  refine Th 2 [2,3] Z<|Tu (G.dropAll (TM U3 ?_));rw [aG a,Qc a];exact ⟨Z,Z⟩
 have a:(bj z.natAbs).length<=17:=by
  have:¬ ((bj z.natAbs).length:Int) > 17:=by simpa using c
  omega
 refine Ti 1 Z fun R b=>Tt (H6 _ z a) U7<|C6 4 [2,3] b Z<|Tu (G.dropAll (TM U3 ?_));rw [aK a,P0 a];exact ⟨Z,Z⟩
theorem lB (C:Mem)(a:Tabs C)(z:Int)(b:-9223372036854775808<=z)(c:z<=9223372036854775807):Gives cx.P 106 [.int .i64 z] C (af (txt z)):=by
 exact Tr func106 5 U3 fun w0=>Th 1 [0] Z<|Ti 1 Z fun R d=>Tt (iZ _ a z b c) U7<|C6 1 [2] d Z<|Tp U2<|⟨Z,Z⟩
theorem yj (C:Mem)(z:Int):Gives cx.P 165 [af (txt z)] C (.int .i64 (if z<0 then -1 else if z=0 then 0 else 1)):=by
 refine Tr func165 13 U3 fun w0=>Th 1 [0] Z<|Ti 1 Z fun R e=>Tt (fD C z) U7<|C6 5 [0,3] e Z<|Th 1 [0,10] Z<|G.cd (fun b=>?_) fun b=>?_
 ·have c:z<0:=by simpa using b
  refine Th 1 [2] Z<|Tp U2 ?_;rw [aK c];exact ⟨Z,Z⟩
 have c:¬ z<0:=by simpa using b
 rw [aG c];refine Th 2 [12] Z<|G.cd (fun a=>?_) fun a=>?_
 ·rw [lg] at a;have d:z=0:=by simpa using a
  refine Th 1 [2] Z<|Tp U2 ?_;rw [aK d];exact ⟨Z,Z⟩
 rw [lg] at a;have d:¬ z=0:=by simpa using a
 refine Th 1 [2] Z<|Tp U2 ?_;rw [aG d];exact ⟨Z,Z⟩
theorem rN (C:Mem)(z:Int)(d:(bj z.natAbs).length<=1000000):Gives cx.P 166 [af (txt z)] C (af (txt (-z))):=by
 refine Tr func166 18 U3 fun w0=>Th 1 [0] Z<|Ti 1 Z fun R a=>Tt (fD C z) U7<|C6 5 [0,3,4] a Z<|Ti 4 Z fun R a=>TQ U8<|Tn [4,14] a Z<|G.cd (fun b=>?_) fun b=>?_
 ·rw [lg] at b;have c:z<=0:=by simp at b;omega
  refine Th 2 [2] Z<|Tp U2<|⟨?_,Z⟩;rw [show txt (-z)=bj z.natAbs by rw [show -z=((z.natAbs:Nat):Int) by omega,de]]
 rw [lg] at b;have c:0<z:=by simp at b;omega
 refine Ti 1 Z fun R a=>Ul U6 (fun _=>(by simp only [PW,Qf];omega)) U2<|C6 1 [2] a Z<|Tp U2<|⟨?_,Z⟩;rw [show txt (-z)=45::bj z.natAbs by unfold txt;rw [aK om_];congr 2;omega];rfl
theorem sM (C:Mem)(z:Int):Gives cx.P 229 [af (txt z)] C (af (bj z.natAbs)):=by
 exact Tr func229 11 U3 fun w0=>Th 1 [0] Z<|Ti 1 Z fun R a=>Tt (fD C z) U7<|C6 5 [4] a Z<|Th 2 [2] Z<|Tp U2<|⟨Z,Z⟩
theorem PF:BP ^ 200=10 ^ 800:=by decide +kernel
theorem gC (h:n<BP ^ 200):(bj n).length<=800:=eH (by rw [<- PF];exact h) om_
theorem PieC.take {D:Mem}{u:Value}(h:PieC D u n)(a:n<BP ^ 201):∃ l,Co l/\bK l=n/\l.length<=201/\Sl D 1 u (l.map aT):=by
 obtain ⟨l,h1,h2,h3⟩:=h;exact ⟨l,h1,h2,mT h1 (by rw [h2];exact a),h3⟩
theorem nF (C:Mem)(n:Nat)(h:n<BP ^ 200):Pur cx.P 173 [af (bj n)] C fun u D=>∃ l,Co l/\bK l=n/\l.length<=200/\Sl D 1 u (l.map aT) :=
 (Li C (bj n) (bx n).1.1 (by have:=gC h;omega)).mono fun u D _ _ ⟨h0,l,h1,h2,h3⟩=>⟨h0,l,h1,by rw [h2,(bx n).2],mT h1 (by rw [h2,(bx n).2];exact h),h3⟩
theorem OQ:BP ^ 200+BP ^ 200<BP ^ 201:=by decide +kernel
theorem BY (h:(bj z.natAbs).length<=17):z.natAbs<100000000000000000:=by
 have h1:=dJ (bx z.natAbs).1.1;rw [(bx z.natAbs).2] at h1;have h2:10 ^ (bj z.natAbs).length<=10 ^ 17:=P2 dc_ h;omega
theorem Lt (h:decide (z<0)=decide (w<0)):sgZ (decide (z<0)) (z.natAbs+w.natAbs)=z+w:=by
 rw [Qy] at h;unfold sgZ;by_cases a:z<0
 ·have:=h.1 a;rw [P0 a,aK rfl];omega
 have:¬ w<0:=fun h1=>a (h.2 h1);rw [Qc a,aG am];omega
theorem Lu (h:decide (z<0)≠decide (w<0))(b:¬ z.natAbs<w.natAbs):sgZ (decide (z<0)) (z.natAbs-w.natAbs)=z+w:=by
 rw [ne_eq,Qy] at h;unfold sgZ;by_cases a:z<0
 ·have:¬ w<0:=fun h1=>h ⟨fun _=>h1,fun _=>a⟩;rw [P0 a,aK rfl];omega
 have:w<0:=P5 fun h1=>h ⟨fun h2=>absurd h2 a,fun h2=>absurd h2 h1⟩;rw [Qc a,aG am];omega
theorem oG (C:Mem)(n:Nat):Gives cx.P 172 [af (bj n)] C (.tuple #[.bool false,af (bj n)]):=by
 have h:=fD C (n:Int);rw [de,Qc om_] at h;exact h
theorem qB (C:Mem)(n:Nat):Gives cx.P 171 [af (bj n)] C (.tuple #[.int .i64 (if (bj n).length<=17 then (n:Int) else 0),.bool (decide ((bj n).length<=17))]):=by
 have h:=BZ C (n:Int);rw [de] at h;exact h
theorem qC (h:(bj n).length<=17):n<100000000000000000:=BY (z:=(n:Int)) h
theorem FC (C:Mem)(a:Tabs C)(n:Nat)(h:n<=9223372036854775807):Gives cx.P 106 [.int .i64 n] C (af (bj n)):=by
 have h:=lB C a (n:Int) om_ om_
 rwa [de] at h
theorem tZ (C:Mem)(a:Tabs C)(v:Value)(l:List Nat)(b:Sl C 1 v (l.map aT))(c:DigP l)(d:l.length<=100000):Gives cx.P 174 [.bool false,v] C (af (bj (bK l))):=by
 have h:=FW C a false v l b c d;rw [show sgZ false (bK l)=((bK l:Nat):Int) from rfl,de] at h;exact h
theorem Pb {q:Nat}(h:q<=9223372036854775807):IntKind.i64.wrap ((q:Nat):Int)=(q:Nat):=by rw [IntKind.wrap_i64];omega
theorem lU (C:Mem)(d:Tabs C)(a b:Nat)(l:a<BP ^ 200)(m:b<BP ^ 200)(e:0<b):Gives cx.P 168 [af (bj a),af (bj b)] C (.tuple #[af (bj (a / b)),af (bj (a % b))]):=by
 have D:=OQ;refine Tr func168 93 U3 fun w0=>Th 2 [0,1] Z<|Ti 1 Z fun R c=>Tt (qB C a) U7<|C6 5 [0,1,6,7] c Z<|Ti 1 Z fun R c=>Tt (qB _ b) U7<|C6 5 [0,1,6,7,8,9] c Z<|Ti 3 Z fun R c=>TJ U8<|Tn [0,1,6,8,31] c Z<|G.cd (fun f=>?_) fun f=>?_
 ·have hs:(bj a).length<=17/\(bj b).length<=17:=by simpa using f
  have h1:=qC hs.1;have h2:=qC hs.2;rw [aK hs.1,aK hs.2];have h0:=QL a b;refine TD [0,1,2,3,4,5,6,7] [] Z kr_ fun R E c=>Tm 2 Z<|Uy (((a / b:Nat):Int)) U6 om_ (by rw [R8 om_];rfl) (Pb om_) U2<|Tm 2 Z<|Uw U6 om_ om_ U2<|C6 2 [6,8,10,11] c Z<|Th 2 [6,8,10,11,39] Z<|G.cd (fun g=>?_) fun g=>?_
  ·exfalso;have h3:=SY (a:Int) (show (b:Int)≠0 by omega);simp only [PN] at g;omega
  rw [<- Int.natCast_emod];have h3:=QL a b;have h4:=Qj a e;refine Ti 1 Z fun R c=>Tw (FC _ d (a / b) om_) U7 fl_<|Tk U6<|Tw (FC _ d (a % b) om_) U7 fl_<|C6 2 [4,5] c Z<|Tu (G.dropAll (TM U3 ?_));exact ⟨Z,Z⟩
 refine Ti 1 Z fun R c=>Tt (oG _ a) U7<|C6 5 [1,12,13] c Z<|Ti 1 Z fun R c=>Tt (oG _ b) U7<|C6 5 [12,13,14,15] c Z<|Ti 1 Z fun R c=>TT (nF _ a l) U7 (fun F _ _ n=>?_);obtain ⟨lp,o,p,H,q⟩:=n;refine Tk U6<|TT (nF _ b m) U7 (fun I _ _ r=>?_);obtain ⟨s,t,u,J,v⟩:=r;refine TO (Bg _ _ _ lp s q.m_ v.m_ o.1 t om_ om_ om_) U7 fl_ (fun K _ _ w=>?_);obtain ⟨u1,L,rfl,h,i⟩:=w;rw [p,u] at h i;obtain ⟨l1,x,y,M,z⟩:=PieC.take h (by have:=QL a b;omega);obtain ⟨l2,A,B,N,j⟩:=PieC.take i (by have:=Qj a e;omega);obtain ⟨A2,c2,rfl,_⟩:=id j;refine C6 5 [12,14,15,16,17] c Z<|Ti 5 Z fun R c=>TJ U8<|Tn [12,14,15,16,17,78] c Z<|G.cd (fun k=>?_) fun k=>?_
 ·exfalso;simp at k
 refine Ti 4 Z fun R c=>Tw (tZ _ d.m_ _ l1 z.m_ x.1 om_) U7 fl_<|Tk U6<|Tw (tZ _ d.m_ _ l2 j.m_ A.1 om_) U7 fl_<|C6 2 [4,5] c Z<|Tu (G.dropAll (TM U3 ?_));rw [y,B];exact ⟨Z,Z⟩
theorem KS (n:Nat):((⟨(bj n).toArray⟩:ByteArray).data.toList == (⟨#[48]⟩:ByteArray).data.toList)=decide (n=0):=by
 have h:=lg (n:Int);rw [de] at h;rw [h,Qy];omega
theorem Dn (C:Mem)(h:Tabs C)(z w:Int)(i:z.natAbs<BP ^ 200)(j:w.natAbs<BP ^ 200):Gives cx.P 167 [af (txt z),af (txt w)] C (af (bj (Nat.gcd z.natAbs w.natAbs))):=by
 refine Tr func167 22 U3 fun w0=>Th 1 [0,1] Z<|Ti 1 Z fun R e=>Tt (sM _ z) U7<|Tk U6<|Tt (sM _ w) U7<|C6 2 [0,1] e Z<|G.loop (fun fr p k l=>∃ (a b:Nat),(a<BP ^ 200/\b<BP ^ 200/\Nat.gcd a b=Nat.gcd z.natAbs w.natAbs)/\fr=[(0,[],af (bj a)),(1,[],af (bj b))]/\k=[]/\l=b+1) (hn_ [0,1] Z) ⟨z.natAbs,w.natAbs,⟨i,j,Z⟩,Z,Z,Z⟩ (fun fr q r m _ n=>?_);obtain ⟨a,b,⟨o,f,g⟩,rfl,rfl,rfl⟩:=n;refine Th 2 [0,1,12] Z<|G.cd (fun c=>?_) fun c=>?_
 ·have d:0<b:=by
   rw [KS] at c;have:b≠0:=by simpa using c
   omega
  have s:=Qj a d;refine Ti 2 Z fun R e=>Tt (lU _ h.m_ a b o f d) U7<|C6 5 [1,6] e Z<|Th 4 [0,1] Z<|Tv (m':=a % b+1) om_ mup (hn_ [0,1] Z) ⟨b,a % b,⟨f,by omega,by rw [<- g,Oy a b d]⟩,Z,Z,Z⟩
 have d:b=0:=by
  rw [KS] at c;simpa using c
 refine Th 2 [4] Z<|Tp U2<|⟨?_,Z⟩;rw [<- g,d,Sj]
def iy (s:Str):Int:=sgZ (cJ 45 s).2 (bY (cJ 45 s).1)
theorem xy {t:Str}(h:vj t):t.head?=some 48 ↔ bY t=0:=by
 constructor
 ·intro h0;have h1:=h.2.2 h0;cases t with
  | nil=>cases h0
  | cons b t =>
   have a:b=48:=by simpa using h0
   have d:t=[]:=by cases t with
    | nil=>rfl
    | cons c t=>simp at h1
   subst a d;rfl
 intro h0;have:=qA h (bx 0).1 (by rw [h0,(bx 0).2]);rw [this,bj];rfl
theorem xw :xx s=true ↔ vj (cJ 45 s).1/\((cJ 45 s).2=true->0<bY (cJ 45 s).1):=by
 obtain ⟨t,neg,d⟩:∃ t b,cJ 45 s=(t,b):=⟨_,_,rfl⟩;unfold xx;rw [d];simp only [PR,R9,Rp,ne_eq,PY,Bool.and_eq_false_imp,Rb,Rk,P7];constructor
 ·rintro ⟨⟨h1,h2⟩,h3⟩;have a:vj t:=⟨h1,h2,fun h=>by
   have:=(h3 h).2;have:0<t.length:=Qq.2 h2;omega⟩
  refine ⟨a,fun c=>?_⟩;rcases QH (bY t) with h | h
  ·have:=(h3 ((xy a).2 h)).1;rw [c] at this;cases this
  exact h
 rintro ⟨a,h⟩;refine ⟨⟨a.1,a.2.1⟩,fun h0=>?_⟩;have h1:=(xy a).1 h0;have h2:=a.2.2 h0;refine ⟨?_,by omega⟩;cases c:neg with
 | false=>rfl
 | true=>have:=h c;omega
theorem GI (s:Str):s=if (cJ 45 s).2 then 45::(cJ 45 s).1 else (cJ 45 s).1:=by
 unfold cJ;split
 ·rename_i h;cases s with
  | nil=>cases h
  | cons b s =>
   have a:b=45:=by simpa using h
   subst a;rfl
 rfl
theorem Hj (h:xx s=true):s=txt (iy s):=by
 obtain ⟨h1,h2⟩:=xw.1 h;unfold iy;rw [zV _ _ h2,<- oa h1];exact GI s
def oV (zn:Int):Option Str->Bool
 | none=>true
 | some b=>decide (1<iy b) && !(zn == 0) && (Nat.gcd zn.natAbs (iy b).natAbs == 1)
def aS (s:Str):Bool:=cH (jR 47 s).1 && cH ((jR 47 s).2.getD [49]) && oV (iy (jR 47 s).1) (jR 47 s).2
theorem rE :cH s=true ↔ okD (cJ 45 s).1=true/\((cJ 45 s).2=true->0<bY (cJ 45 s).1):=by
 unfold cH;rw [PR,xw,yx,PN];constructor
 ·rintro ⟨⟨h1,h2⟩,h3⟩;exact ⟨⟨h1,h3⟩,h2⟩
 rintro ⟨⟨h1,h3⟩,h2⟩;exact ⟨⟨h1,h2⟩,h3⟩
theorem JG (s:Str):(iy s).natAbs=bY (cJ 45 s).1:=by
 unfold iy sgZ;split <;> omega
theorem E0 (h:s.length<=n):(jR 47 s).1.length<=n/\((jR 47 s).2.getD [49]).length<=n+1:=by
 rcases gE 47 s with ⟨h1,_⟩ | ⟨a,post,h1,h2,_⟩
 ·rw [h1];exact ⟨h,by simp⟩
 have e:=congrArg List.length h2;rw [PM,PW] at e;rw [h1];simp only [QW];omega
theorem one_val:([49]:Str)=txt 1:=by
 unfold txt;rw [aG om_,show bj (1:Int).natAbs=bj 1 from rfl,bj];rfl
theorem sw (n:Nat):((⟨(bj n).toArray⟩:ByteArray).data.toList == (⟨#[49]⟩:ByteArray).data.toList)=(n == 1):=by
 show (bj n == [49])=_;rw [OB,S5,PN,Rb];constructor
 ·intro h;have h2:=(bx n).2;rw [h] at h2;exact h2.symm
 rintro rfl;rw [bj];rfl
theorem Fs (C:Mem)(s:Str)(d:∀ c∈s,eQ c=true)(e:s≠[])(f:s.length<=18):Gives cx.P 251 [af s,.int .i64 10,.int .i64 64] C (.tuple #[.int .u64 (bY s),.nilIface]):=by
 refine Tr func251 26 U3 fun w0=>Th 2 [0,1,2] Z<|Ti 3 Z fun R a=>Tw (Fq Tryz.parseU s d e f _ kr_) U7 fl_<|C6 5 [0,1,2,8,9] a Z<|Ti 1 Z fun R a=>Vm false Z Z Z Z Z (.inr ⟨Z,Z⟩) kr_ Z Z<|Tn [0,1,2,8,9,18] a Z<|G.cd (fun b=>?_) fun b=>?_
 ·cases b
 refine Th 3 [6,7] Z<|Tu (G.dropAll (TM U3 ?_));exact ⟨Z,Z⟩
theorem CF (C:Mem)(i:Nat)(h:i<100):Gives cx.P 313 [.int .i64 i] C (af (bj i)):=by
 have h1:=Gives.ofCalls (f:=313) (args:=[.int .i64 i]) (P:=cx.P) kr_ (fun w=>Any.internal_strconv_small Tryz.small10 i h w) C;rw [dO] at h1;exact h1
theorem Bt (u:Nat):Lib.nDigits u=(bj u).length:=by rw [<- dO,Lib.decDigits_length]
theorem Do (C:Mem)(l:Tabs C)(u:Nat)(s:u<9223372036854775808):Gives cx.P 298 [.int .u64 u,.int .i64 10] C (af (bj u)):=by
 refine Tr func298 32 U3 fun w0=>Th 1 [0,1] Z<|Th 2 [0,1,10] Z<|G.cd (fun g=>?_) fun g=>?_
 ·refine Th 2 [0,12] Z<|G.cd (fun e=>?_) fun e=>?_
  ·have h:u<100:=by
    have:(u:Int)<100:=by simpa using e
    omega
   exact Ti 1 Z fun R a=>TX (c:=(u:Int)) U8 (by rw [IntKind.wrap_i64];omega) fl_<|Tt (CF _ u h) U7<|C6 1 [4] a Z<|Tp U2<|⟨Z,Z⟩
  have h:100<=u:=by
   have:¬ (u:Int)<100:=by simpa using e
   omega
  have t:Lib.nDigits u<=19:=by
   rw [Bt];exact eH om_ om_
  refine Tl fun R a=>TB U5 fun i=>Tn [0,5] a Z<|Ti 1 Z fun R a=>Tw (wz Tryz.nDig u om_ om_ _ l.pow.m_ kr_) U7 fl_<|C6 1 [0,5,6] a Z<|TH [(3,3)] Z fun R a=>Tk U6<|UI 0 (Lib.nDigits u) 24 U12 (fun _=>⟨.inl ⟨Z,Z⟩,.inr ⟨_,Z⟩,.inl ⟨Z,Z⟩,by omega,by omega,by decide⟩) U2<|Tk U6<|D.call (yO Tryz.fmt10 i 24 u 393 (List.replicate 24 (Value.int .u8 0)) om_ (fun j d=>(by rw [Q6,aK om_])) om_ _ kr_) Z (.inr dc_) U6 (PI _) fl_ fun w _ z _ m=>Tn [5,6] a Z ?_;obtain ⟨_,rfl,cs,rfl,A,n⟩:=m;refine G.freeze 0 Z (fun o _ p=>?_);have q:(bj u).length=Lib.nDigits u:=(Bt u).symm;have k:Sl o 1 (.slice (some ⟨i,0,none⟩) ((bj u).map fun b=>[Value.int .u8 b.toNat]).length 24) ((bj u).map fun b=>[Value.int .u8 b.toNat]) :=
   Sl.ofBlock p (by intro r hr;obtain ⟨y,_,rfl⟩:=PK.1 hr;rfl) (fun j v d=>by
    rw [gg,PH] at d;cases f:(bj u)[j]? with
    | none=>rw [f] at d;cases d
    | some x=>rw [f] at d;cases d;simpa using n j x f) ap (by simp [maxLen])
  rw [al,q] at k;exact Ti 1 Z fun R a=>UI 0 (Lib.nDigits u) 24 U12 (fun _=>⟨.inl ⟨Z,Z⟩,.inr ⟨_,Z⟩,.inl ⟨Z,Z⟩,by omega,by omega,by decide⟩) U2<|UK k.m_ U11 fl_<|C6 1 [4] a Z<|Tp U2<|⟨Z,Z⟩
 exact absurd g dc_
theorem Dp (C:Mem)(a:Tabs C)(u:Nat)(b:u<9223372036854775808):Gives cx.P 255 [.int .u64 u,.int .i64 10] C (af (bj u)):=by
 exact Tr func255 8 U3 fun w0=>Th 1 [0,1] Z<|Ti 2 Z fun R c=>Tt (Do _ a.m_ u b) U7<|C6 1 [4] c Z<|Tp U2<|⟨Z,Z⟩
theorem jE (C:Mem)(z:Int)(m:Nat)(d:m<=18):Gives cx.P 188 [af (txt z),.int .i64 m] C (.tuple #[.int .i64 (if (txt z).length<=m then z else 0),.bool (decide ((txt z).length<=m))]):=by
 refine Tr func188 20 U3 fun w0=>Th 2 [0,1] Z<|Th 4 [0,11] Z<|G.cd (fun b=>?_) fun b=>?_
 ·have a:¬ (txt z).length<=m:=by
   have:(m:Int)<((txt z).length:Int):=by simpa using b
   omega
  refine Th 2 [4,5] Z<|Tu (G.dropAll (TM U3 ?_));exact ⟨by rw [aG a,Qc a],Z⟩
 have a:(txt z).length<=m:=by
  have:¬ (m:Int)<((txt z).length:Int):=by simpa using b
  omega
 refine Ti 1 Z fun R c=>Tw (zt Tryz.atoi z om_ _ kr_) U7 fl_<|C6 5 [6,7] c Z<|TD [0,1,2,3,4] [] Z kr_ fun R e c=>Tm 2 Z<|Vm true Z Z Z Z Z (.inl ⟨Z,Z⟩) kr_ Z Z<|C6 2 [4,5] c Z<|Tu (G.dropAll (TM U3 ?_));exact ⟨by rw [aK a,P0 a],Z⟩
theorem iP (C:Mem)(z:Int)(v:(bj z.natAbs).length<=1000000):Pur cx.P 189 [af (txt z)] C fun u D=>∃ p,u=.agg ⟨[.bool (decide (z<0)),p]⟩/\NineC D p z.natAbs:=by
 obtain ⟨S,i⟩:∃ S,bj z.natAbs=S:=⟨_,rfl⟩;have b:=(bx z.natAbs).1;have k:=(bx z.natAbs).2;rw [i] at v b k;refine Tr func189 44 U3 fun w0=>Tl fun R a=>TB U5 fun d=>Tn [0,2] a Z<|Ti 1 Z fun R a=>Tt (G2 _ (txt z) 45) U7 ?_;rw [dI,i];refine C6 5 [2,3,4] a Z<|Ti 2 Z fun R a=>Ur (S.length) (9) U6 om_ (.inl ⟨Z,by omega⟩) U2<|TS (((S.length / 9+1:Nat):Int)) U4 om_ om_ om_ U2<|Up U9 (PL _) (by show 8*(S.length / 9+1)<=281474976710656;omega) (by simp only [maxLen];omega) fl_ fun M=>C6 1 [2,3,4,5] a Z ?_;rw [show (af S:Value)=af (S.take S.length) by rw [PT]];refine G.loop (fun fr N l y=>∃ (q j:Nat)(out:List Nat)(w:Value),(q<=S.length/\(q=0∨q+9*j=S.length)/\out.length=j/\j<=S.length/\(q=0∨j<S.length)/\Dig9 out/\bA out=bY (S.drop q))/\fr=[(2,[],.pointer (some ⟨d,0,none⟩)),(3,[],af (S.take q)),(4,[],.bool (decide (z<0))),(5,[],w)]/\l=[.arr w 285 1 j (out.map cP).flatten,.obj d (.cells ⟨[.bool false,.slice none 0 0]⟩ 273 (0,0))]/\y=q+1) (hn_ [2,3,4,5] Z) ⟨S.length,0,[],_,⟨PE _,by omega,Z,PL _,by have:=Qq.2 b.2.1;omega,(fun x A=>(by cases A)),by rw [QI];rfl⟩,Z,Z,Z⟩ (fun fr O Q m _ B=>?_);obtain ⟨q,j,out,w,⟨T,U,e,V,W,o,f⟩,rfl,rfl,rfl⟩:=B;refine Th 3 [2,3,4,5,21] Z<|G.cd (fun g=>?_) fun g=>?_
 ·have E:(⟨(S.take q).toArray⟩:ByteArray).data.toList.length=q:=by
   show (S.take q).length=q;rw [PS];omega
  have F:(S.take q).length=q:=E;have r:0<q:=by
   have h:(0:Int)<(((⟨(S.take q).toArray⟩:ByteArray).data.toList.length:Nat):Int):=by simpa using g
   omega
  have H:(gD S (q-9) q).length<=9/\0<(gD S (q-9) q).length:=by
   unfold gD;rw [RH,PS];omega
  have I:∀ c∈gD S (q-9) q,eQ c=true:=fun c J=>b.1 c (QX (Ss J));refine Ti 2 Z fun R a=>TS (((q:Int)-9)) U4 om_ om_ om_ U2<|D.max (((q-9:Nat):Int)) U6 om_ U2<|C6 1 [2,3,4,5,6] a Z<|Ti 2 Z fun R a=>Un (q-9) (S.take q).length U9 (fun _=>⟨.inr ⟨_,Z⟩,.inl ⟨Z,Z⟩,.inl ⟨Z,Z⟩,by omega,PE _,PE _⟩) U2 ?_;rw [show (((S.take q).take (S.take q).length).drop (q-9))=gD S (q-9) q from by rw [PT];rfl];refine Tw (Fs _ (gD S (q-9) q) I (Qq.1 H.2) om_) U7 fl_<|C6 5 [2,3,4,5,6,7] a Z<|TD [0,1,4,5,6,2,3,7,8] [] Z kr_ fun R X a=>Tm 4 Z<|Un 0 (q-9) U9 (fun _=>⟨.inl ⟨Z,Z⟩,.inr ⟨_,Z⟩,.inl ⟨Z,Z⟩,by omega,by omega,PE _⟩) U2<|TF [cP (bY (gD S (q-9) q))] U12 fun Y _ _ K=>D.append (j:=0) U11 K Z aw (by show (j+1)*8<=_;omega) fl_ fun s=>C6 2 [2,3,4,5] a Z ?_;rw [show ((S.take q).take (q-9)).drop 0=S.take (q-9) from by rw [QV,SF,QK om_]];refine Tz (L':=[.arr s 285 1 (j+1) ((out++[bY (gD S (q-9) q)]).map cP).flatten,.obj d (.cells ⟨[.bool false,.slice none 0 0]⟩ 273 (0,0))]) (by simp [cP])<|Tv (m':=q-9+1) om_ mup (hn_ [2,3,4,5] Z) ⟨q-9,j+1,out++[bY (gD S (q-9) q)],s,⟨by omega,by omega,by simp [e],by omega,by omega,o.snoc (JI b.1 om_),Cv om_ e om_ f⟩,Z,Z,Z⟩
 have r:q=0:=by
  have F:(S.take q).length=q:=by rw [PS];omega
  have h:¬ (0:Int)<(((S.take q).length:Nat):Int):=by simpa using g
  omega
 subst r;rw [QV,k] at f;refine TH [(2,3)] Z fun R a=>Tm 2 Z<|D.call (gp _ _ out (n:=j) e) Z (.inr dc_) U6 (PI _) fl_ (fun aa _ ab _ L=>?_);obtain ⟨rfl,t⟩:=L;obtain ⟨Au,cu,rfl,_⟩:=id t;refine TA [.bool (decide (z<0)),_] U8<|Ts (j:=0) U12<|Tn [2] a Z<|Tu (Uc ag U4 ?_);exact ⟨Z,_,Z,D3 out,im o,by rw [il,f],t⟩
theorem Dy (k:Nat)(s:Str):bY (List.replicate k 48++s)=bY s:=by
 induction k with
 | zero=>rfl
 | succ k a=>rw [QJ,Ro,dK,a];simp
theorem Mf (h:x<1000000000):mj 9 x=List.replicate (9-(bj x).length) 48++bj x:=by
 obtain ⟨h1,h2,h3⟩:=kJ 9 x h;obtain ⟨h4,h5⟩:=bx x;have b:(bj x).length<=9:=eH om_ om_;refine yY h2 (fun c a=>?_) (by rw [h1];simp;omega) (by rw [h3,Dy,h5]);rcases PU.1 a with a | a
 ·rw [RI a];rfl
 exact h4.1 c a
def J5 (l:List Nat)(j:Nat)(s:Str):Prop:=(j=0/\s=[])∨(0<j/\vj s/\bY s=bA (l.drop (l.length-j))/\0<bY s)
theorem Df (b:xV l)(d:j<l.length)(h:J5 l j s):J5 l (j+1) (s++if j=0 then bj (g9 l (l.length-1-j)) else mj 9 (g9 l (l.length-1-j))):=by
 have a:l[l.length-1-j]?=some (g9 l (l.length-1-j)):=wV om_;refine .inr ⟨by omega, ?_⟩;rw [show l.length-(j+1)=l.length-1-j by omega];rcases h with ⟨rfl,rfl⟩ | ⟨h0,h1,h2,h3⟩
 ·rw [aK rfl,RD];obtain ⟨h4,h5⟩:=bx (g9 l (l.length-1-0));have c:bA (l.drop (l.length-1-0))=g9 l (l.length-1-0):=by
   rw [P1 om_,show l.length-1-0+1=l.length by omega,QI];rw [aj om_] at a;rw [Rf a];show _+B9*0=_;omega
  refine ⟨h4,by rw [h5,c], ?_⟩;rw [h5];rcases QH (g9 l (l.length-1-0)) with h | h
  ·rw [h] at a;exact absurd (by rw [RQ];exact a) b.2
  exact h
 rw [aG om_];rw [show l.length-j=l.length-1-j+1 by omega] at h2;exact Dm b.1 a h1 h2 h3
theorem jT (C:Mem)(V:Tabs C)(m:Bool)(v:Value)(n:Nat)(W:NineC C v n)(X:n<B9 ^ 100000):Gives cx.P 191 [.agg ⟨[.bool m,v]⟩] C (af (txt (sgZ m n))):=by
 obtain ⟨ls,J,K,ak,hs⟩:=W.get X;obtain ⟨A,c,rfl,_⟩:=id hs;simp only [al] at hs ⊢;refine UM kr_ func191 Z 34 Z Z fun w0=>Tl fun R a=>TC U6 fun L=>C6 1 [1] a Z<|G.freeze 0 Z fun _ _ o=>Ti 1 Z fun R a=>Tj (PtrTo.block (Mem.get o mup) _) U8<|C6 2 [1,10] a Z<|G.cd (fun y=>?_) fun y=>?_
 ·have M:ls=[]:=by
   have:(ls.length:Int)=0:=by simpa using y
   exact Qo om_
  refine Th 1 [2] Z<|Tu (UQ (Kt Z Z) ?_ Jw);subst M;refine ⟨?_,Z⟩;rw [<- K,(zU (sgZ m (bA []))).2 (by cases m <;> rfl)];rfl
 have M:0<ls.length:=by
  have:¬ (ls.length:Int)=0:=by simpa using y
  omega
 obtain ⟨d,g⟩:∃ d:Str,(if m then [45] else [])=d:=⟨_,rfl⟩;have an:d.length<=1:=by rw [<- g];split <;> simp
 refine Tl fun R a=>TB U5 fun b=>Tn [1,3] a Z<|G.nilArr 5 1<|G.perm (L':=[.obj b (.cells ⟨[.pointer none,.slice none 0 0]⟩ 344 (0,0)),.arr (.slice none 0 0) 5 1 0 []]) (List.Perm.swap _ _ _)<|Ti 1 Z fun R a=>Tj (PtrTo.block (Mem.get o mup) _) U8<|Tn [1,3,12] a Z<|G.cut (fun fr Y e z=>∃ (q:Option Addr)(w:Value),(q=none∨q=some ⟨b,0,none⟩)/\fr=[(1,[],.pointer (some ⟨L,0,none⟩)),(3,[],.pointer (some ⟨b,0,none⟩))]/\e=[.obj b (.cells ⟨[.pointer q,w]⟩ 344 (0,0)),.arr w 5 1 d.length (u8s d)]) ?_ (fun fr _ ao z _ f=>?_)
 ·refine G.cd (fun B=>?_) fun B=>?_
  ·rw [aK B] at g;subst g;refine TH [(0,3)] Z fun R a=>D.call (vk _ b none (.slice none 0 0) [] 45 (.inl Z) am) Z (.inr dc_) U6 (PI _) fl_ fun aq _ ar _ aa=>Tn [1,3] a Z ?_;obtain ⟨w1,rfl⟩:=aa;refine Tx 0 mup (hn_ [1,3] Z) ⟨some ⟨b,0,none⟩,w1,.inr Z,Z,Z⟩
  rw [aG (by rw [B];decide)] at g;subst g;refine Tx 0 mup (hn_ [1,3] Z) ⟨none,.slice none 0 0,.inl Z,Z,Z⟩
 obtain ⟨q ,w,hq,rfl,rfl⟩:=f;refine Ti 1 Z fun R a=>Tj (PtrTo.block (Mem.get o mup) _) U8<|TT (B6 _ A ls.length c) U7 fun au _ _ ab=>Tn [1,3,16] a Z ?_;obtain ⟨bb,rfl,ac⟩:=ab;refine Tz (L':=[.obj b (.cells ⟨[.pointer q,w]⟩ 344 (0,0)),.arr w 5 1 (d++[]).length (u8s (d++[]))]) (by rw [P3])<|G.rangeFunc Z Z Z kr_ (sK _ bb _ _ ls ac hs.m_ om_) (fun j e=>∃ (q:Option Addr)(w:Value)(s:Str),((q=none∨q=some ⟨b,0,none⟩)/\J5 ls j s/\s.length<=9*j)/\e=[.obj b (.cells ⟨[.pointer q,w]⟩ 344 (0,0)),.arr w 5 1 (d++s).length (u8s (d++s))]) ⟨q,w,[],⟨hq,.inl ⟨Z,Z⟩,by simp⟩,Z⟩ Z (fun _ _=>rfl) (fun u v=>[(1,[],.pointer (some ⟨L,0,none⟩)),(3,[],.pointer (some ⟨b,0,none⟩)),(4,[],u),(5,[],v)]) (fun l u v W1 e=>?_) (fun l j u v e W1 f E=>?_) (fun bD e f=>?_)
 ·exact Th 1 [1,3,4,18] Z<|Th 1 [1,3,4,5] Z<|Vw ⟨Z,Z,Z,Z,trivial⟩
 ·obtain ⟨q,w,s,⟨F,p,N⟩,rfl⟩:=f;have O:j<ls.length:=by have:=(aJ.1 E).1;rwa [fQ] at this
  rw [uQ O] at E;cases E
  have Q:=Df J O p;obtain ⟨x,H⟩:∃ x,g9 ls (ls.length-1-j)=x:=⟨_,rfl⟩;have i:x<B9:=by rw [<- H];exact kN J.1 _
  rw [show ls.getD (ls.length-1-j) 0=x from H];rw [H] at Q;have av:(bj x).length<=9:=eH (by rw [B9v] at i;omega) om_;have ad:=Mf (x:=x) (by rw [B9v] at i;exact i);have aw:(mj 9 x).length=9:=(kJ 9 x (by rw [B9v] at i;omega)).1;refine Ti 1 Z fun R a=>Tw (Dp _ V.m_ x (by rw [B9v] at i;omega)) U7 fl_<|C6 1 [1,3,4,6] a Z<|Ti 2 Z fun R a=>Tj (PtrTo.block (Mem.get o mup) _) U8<|Tk U6<|Tq _ Z U6<|C6 1 [3,6,26] a Z<|G.cut (fun fr Y e z=>∃ (k:Option Addr)(r:Value)(t:Str),((k=none∨k=some ⟨b,0,none⟩)/\t++bj x=d++(s++if j=0 then bj x else mj 9 x)/\t.length<=9*j+10)/\fr=[(3,[],.pointer (some ⟨b,0,none⟩)),(6,[],af (bj x))]/\e=[.obj b (.cells ⟨[.pointer k,r]⟩ 344 (0,0)),.arr r 5 1 t.length (u8s t)]) ?_ (fun fr _ ax z _ f=>?_)
  ·refine G.cd (fun I=>?_) fun I=>?_
   ·have S:0<j:=by
     have:((ls.length-1-j:Nat):Int)<(ls.length:Int)-1:=by simpa using I
     omega
    refine TH [(3,3)] Z fun R a=>Tm 2 Z<|Un (bj x).length 9 U9 (fun _=>⟨.inr ⟨_,Z⟩,.inl ⟨Z,Z⟩,.inl ⟨Z,Z⟩,by omega,PE _,PE _⟩) U2 ?_;rw [show ((([48,48,48,48,48,48,48,48,48]:Str).take 9).drop (bj x).length)=List.replicate (9-(bj x).length) 48 from by rw [show (([48,48,48,48,48,48,48,48,48]:Str).take 9)=List.replicate 9 48 from rfl,List.drop_replicate]];refine D.call (kf _ b q w (d++s) (List.replicate (9-(bj x).length) 48) F ap) Z (.inr dc_) U6 (PI _) fl_ fun ay _ az _ ae=>Tn [3,6] a Z ?_;obtain ⟨w1,rfl⟩:=ae;refine Tx 0 mup (hn_ [3,6] Z) ⟨some ⟨b,0,none⟩,w1,_,⟨.inr Z,by rw [aG om_,ad];simp [],by simp;omega⟩,Z,Z⟩
   have S:j=0:=by
    have:¬ ((ls.length-1-j:Nat):Int)<(ls.length:Int)-1:=by simpa using I
    omega
   refine Tx 0 mup (hn_ [3,6] Z) ⟨q,w,d++s,⟨F,by rw [aK S,Qb],by simp;omega⟩,Z,Z⟩
  obtain ⟨k ,r ,t,⟨ag,ah,aA⟩,rfl,rfl⟩:=f;refine TH [(1,3)] Z fun R a=>Tk U6<|D.call (kf _ b k r t (bj x) ag om_) Z (.inr dc_) U6 (PI _) fl_ fun aB _ aC _ ai=>Ut [] trivial (a _ _ _ Z ?_);obtain ⟨w4,rfl⟩:=ai;rw [ah];exact UZ (R:=fun e=>∃ (q:Option Addr)(w:Value)(s:Str),((q=none∨q=some ⟨b,0,none⟩)/\J5 ls (j+1) s/\s.length<=9*(j+1))/\e=[.obj b (.cells ⟨[.pointer q,w]⟩ 344 (0,0)),.arr w 5 1 (d++s).length (u8s (d++s))]) (PI _) ⟨some ⟨b,0,none⟩,w4,_,⟨.inr Z,Q,by rw [PM];split <;> omega⟩,Z⟩
 obtain ⟨q,w,s,⟨F,p,N⟩,rfl⟩:=f;rw [fQ] at p;obtain ⟨aD,T,U,aE⟩:0<ls.length/\vj s/\bY s=bA (ls.drop (ls.length-ls.length))/\0<bY s:=p.elim (fun h=>by omega) id;rw [Sf,QV,K] at U;refine G.perm (L':=[.obj b (.cells ⟨[.pointer q,w]⟩ 344 (0,0)),.arr w 5 1 (d++s).length (u8s (d++s)),.obj bD (.deferred (some []))]) (pkL [1,1,0] Z)<|TH [(0,3)] Z fun R a=>D.call (DF _ b q w (d++s) (fun h=>T.2.1 (SK.1 h).2) (by simp;rw [fQ] at N;omega)) Z (.inr dc_) U6 (PI _) fl_ fun aF _ aH _ aj=>C6 1 [2] a Z ?_;obtain ⟨rfl,rfl⟩:=aj;refine Tu (Vu (Kt Z Z) ?_);refine ⟨?_,Z⟩;have es:s=bj n:=by rw [<- U];exact oa T
 rw [zV m n (fun _=>by omega),es,<- g];cases m <;> rfl
theorem sn (a:0<Q):(x+B9*t) / Q=B9*(t / Q)+(x+B9*(t % Q)) / Q/\(x+B9*t) % Q=(x+B9*(t % Q)) % Q:=by
 have h:x+B9*t=(x+B9*(t % Q))+Q*(B9*(t / Q)):=by
  have h1:=SA t Q;have h2:B9*t=B9*(t % Q)+B9*(Q*(t / Q)):=by rw [<- QS,h1]
  rw [h2,Tc];omega
 rw [h,Sv _ _ a,Nat.add_mul_mod_self_left];exact ⟨by omega,Z⟩
theorem lV (a:0<Q)(b:x<B9):(x+B9*(t % Q)) / Q<B9:=by
 rw [Rt a];have h1:=Qj t a;have h2:B9*(t % Q+1)<=B9*Q:=QZ _ h1;rw [QS] at h2;omega
theorem fx (h:j<l.length):bA (l.drop j)=g9 l j+B9*bA (l.drop (j+1)):=by
 rw [P1 h,bA,yM (aj h)]
theorem lf (h:j<l.length):bA ((l.set j x).drop j)=x+B9*bA (l.drop (j+1)):=by
 rw [P1 (by simpa using h),bA,List.getElem_set_self,List.drop_set_of_lt om_]
theorem sk (C:Mem)(va M:Value)(m d:Nat)(ha:NineC C va m)(hm:m<B9 ^ 200000)(F:Sl C 1 M ([d].map cP))(H:0<d)(hd:d<B9) :
  Pur cx.P 227 [va,M] C fun u D=>∃ q r,u=.tuple #[q,r]/\NineC D q (m / d)/\NineC D r (m % d):=by
 have aa:NineC C M d:=⟨[d],⟨fun x o=>(by rw [PZ.1 o];exact hd),by simp;omega⟩,by show d+B9*0=d;omega,F⟩;have N:=ha;obtain ⟨a,ao,ab,aF,O⟩:=ha.get hm;obtain ⟨A0,c0,rfl,_⟩:=id O;obtain ⟨B0,d0,rfl,aG⟩:=id F;simp only [al,PD] at F aa O N ⊢;have p:=B9v;refine UM kr_ func227 Z 146 Z Z fun w0=>Tl fun R b=>TC U6 fun b3=>TB U5 fun g=>C6 1 [0,3,4,5] b Z<|G.freeze 1 Z fun _ _ K=>Ti 1 Z fun R b=>Tj (PtrTo.block (Mem.get K mup) _) U8<|Tt (pn _ N.m_ aa.m_) U7<|C6 1 [0,3,4,5,17] b Z<|G.cd (fun Q=>?_) fun Q=>?_
 ·have S:m<d:=by
   have:jG m d<0:=by simpa using Q
   exact iO.1 this
  refine Ti 1 Z fun R b=>Ts (j:=0) U12<|C6 1 [4,5] b Z<|Tu (UQ (AP ag Z Z Z Z Z) ?_ Jw);refine ⟨Z,_,_,Z, ?_, ?_⟩
  ·rw [RZ S];exact NineC.zero _
  rw [Su S];exact N.mono mup
 have S:d<=m:=by
  have h:¬ jG m d<0:=by simpa using Q
  rw [iO] at h;omega
 obtain ⟨n,hn⟩:∃ n,a.length=n:=⟨_,rfl⟩;refine Tl fun R b=>Tj (PtrTo.block (Mem.get K mup) _) U8<|C6 2 [0,3,4,5,21] b Z<|G.cd (fun ad=>?_) fun ad=>?_
 ·refine Ti 2 Z fun R b=>Up U9 (PE _) (by show 8*a.length<=281474976710656;omega) (by simp only [maxLen];omega) fl_ fun f=>Ts (j:=1) U12<|Tn [0,3,4] b Z<|Tl fun R b=>TB U5 fun k=>Ts (j:=0) U12<|Tn [0,3,4,6] b Z<|Ti 1 Z fun R b=>TT (B6 _ A0 a.length c0) U7 fun aH _ _ ap=>Tn [3,4,6,26] b Z ?_;obtain ⟨bb,rfl,aq⟩:=ap;refine Tz (L':=[.obj k (.cells ⟨[.int .u64 ((bA (a.drop (a.length-0)) % d:Nat):Int)]⟩ 285 (0,0)),.obj g (.cells ⟨[qU f a.length a.length]⟩ 271 (0,0)),.arr (qU f a.length a.length) 285 1 a.length ((List.replicate a.length 0).map cP).flatten]) (by rw [<- D4,Sp,QI,show bA []=0 from Z,Nat.zero_mod];rfl)<|G.rangeFunc Z Z Z kr_ (sK _ bb _ _ a aq O.m_ om_) (fun j e=>∃ (c:List Nat),(c.length=a.length/\Dig9 c/\bA (c.drop (a.length-j))=bA (a.drop (a.length-j)) / d)/\e=[.obj k (.cells ⟨[.int .u64 ((bA (a.drop (a.length-j)) % d:Nat):Int)]⟩ 285 (0,0)),.obj g (.cells ⟨[qU f a.length a.length]⟩ 271 (0,0)),.arr (qU f a.length a.length) 285 1 a.length (c.map cP).flatten]) ⟨List.replicate a.length 0,⟨Qd,(fun x o=>by rw [RI o];decide),by rw [Sp,QI,Sn am];simp [bA]⟩,Z⟩ Z (fun _ _=>rfl) (fun u v=>[(3,[],.pointer (some ⟨b3,0,none⟩)),(4,[],.pointer (some ⟨g,0,none⟩)),(6,[],.pointer (some ⟨k,0,none⟩)),(7,[],u),(8,[],v)]) (fun l u v W1 e=>?_) (fun l j u v e W1 s U=>?_) (fun bD e s=>?_)
  ·exact Th 1 [3,4,6,7,28] Z<|Th 1 [3,4,6,7,8] Z<|Vw ⟨Z,Z,Z,Z,Z,trivial⟩
  ·obtain ⟨c,⟨I,L,B⟩,rfl⟩:=s;have ar:j<a.length:=by have:=(aJ.1 U).1;rwa [fQ] at this
   rw [uQ ar] at U;cases U
   obtain ⟨i,hi⟩:∃ i,a.length-1-j=i:=⟨_,rfl⟩;have af:a.length-j=i+1:=by omega
   obtain ⟨T,hT⟩:∃ T,bA (a.drop (i+1))=T:=⟨_,rfl⟩;have au:=kN ao.1 i;have aI:=Qj T H;have hX:T % d*B9+g9 a i<18446744073709551616:=by
    have:=Qt B9 (show T % d<=999999999 by omega);rw [p] at this ⊢;omega
   rw [hi,af,hT,show a.getD i 0=g9 a i from rfl];rw [af,hT] at B;have av:T % d*B9+g9 a i=g9 a i+B9*(T % d):=by rw [Qn,R3]
   have V:=sn (t:=T) (x:=g9 a i) H;have ah:=lV (t:=T) H au;rw [<- av] at V ah;refine Tl fun R b=>To ag U9<|D.int (((T % d*B9:Nat):Int)) U4 (by rw [show (1000000000:Int)=((B9:Nat):Int) from Z,<- Qa,IntKind.wrap_u64];omega) U2<|Tk U6<|D.int (((T % d*B9+g9 a i:Nat):Int)) U4 (by rw [IntKind.wrap_u64];omega) U2<|Ts (j:=0) U12<|Tn [3,4,6,7] b Z<|G.cut (fun fr W e X=>(True)/\fr=[]/\e=[.obj k (.cells ⟨[.int .u64 (((T % d*B9+g9 a i) % d:Nat):Int)]⟩ 285 (0,0)),.arr (qU f a.length a.length) 285 1 a.length (aE (c.map cP).flatten [Value.int .u64 (((T % d*B9+g9 a i) / d:Nat):Int)] (i*1)),.obj g (.cells ⟨[qU f a.length a.length]⟩ 271 (0,0))]) ?_ (fun fr aK aL X aM s=>?_)
   ·refine Uf (.cut [0,1,2,3,4,5,6,8,9,10,12] (.alt 7 (.fin [11,13,14]) (.alt 13 (.fin [7,11,14]) .stop))) [] Z Z kr_ fun R p b w=>To ae U9<|Tk U6<|To ag U9<|Tj (PtrTo.block (Mem.get K mup) _) U8<|Ty F.m_ U10 om_ (rfl:([d].map cP)[(0:Int).toNat]?=some (cP d)) fl_ fun aN aw=>Tj aw U8<|Ur (T % d*B9+g9 a i) (d) U6 om_ (.inr ⟨Z,by omega⟩) U2<|Tj (PtrTo.block (Mem.get K mup) _) U8<|Ty F.m_ U10 om_ (rfl:([d].map cP)[(0:Int).toNat]?=some (cP d)) fl_ fun aO ax=>Tj ax U8<|TL (i*1) U10 ai U2<|TV w Z ⟨?_, ?_,trivial⟩
    ·first | refine Uo ag U9 ?_ | refine Uo ae U9 ?_
     refine Uj (T % d*B9+g9 a i) (d) U6 om_ U2<|TP (j:=2) U11 (by show i*1+1<=_;rw [bW eG,I];omega)<|Ts (j:=1) U12<|Ut [] trivial (b _ _ _ Z ?_);clear b p w R;exact Tx 0 (Mem.le.refl _) (fr':=[]) trivial ⟨trivial,Z,Z⟩
    refine TP (j:=2) U11 (by show i*1+1<=_;rw [bW eG,I];omega) ?_
    first | refine Uo ag U9 ?_ | refine Uo ae U9 ?_
    refine Uj (T % d*B9+g9 a i) (d) U6 om_ U2<|Ts (j:=1) U12<|Ut [] trivial (b _ _ _ Z ?_);clear b p w R;exact Tx 0 (Mem.le.refl _) (fr':=[]) trivial ⟨trivial,Z,Z⟩
   obtain ⟨_,rfl,rfl⟩:=s;refine G.perm (L':=[.obj k (.cells ⟨[.int .u64 (((T % d*B9+g9 a i) % d:Nat):Int)]⟩ 285 (0,0)),.obj g (.cells ⟨[qU f a.length a.length]⟩ 271 (0,0)),.arr (qU f a.length a.length) 285 1 a.length (aE (c.map cP).flatten [Value.int .u64 (((T % d*B9+g9 a i) / d:Nat):Int)] (i*1))]) (pkL [0,1,0] Z) ?_;have aj:bA (a.drop i)=g9 a i+B9*T:=by rw [fx om_,hT]
   have ay:bA (a.drop (a.length-(j+1))) % d=(T % d*B9+g9 a i) % d:=by rw [show a.length-(j+1)=i by omega,aj,V.2]
   exact Tz (L':=[.obj k (.cells ⟨[.int .u64 ((bA (a.drop (a.length-(j+1))) % d:Nat):Int)]⟩ 285 (0,0)),.obj g (.cells ⟨[qU f a.length a.length]⟩ 271 (0,0)),.arr (qU f a.length a.length) 285 1 a.length ((c.set i ((T % d*B9+g9 a i) / d)).map cP).flatten]) (by rw [ay,<- bN eG _ (by omega:i<c.length)];rfl)<|UZ (R:=fun e=>∃ (c:List Nat),(c.length=a.length/\Dig9 c/\bA (c.drop (a.length-(j+1)))=bA (a.drop (a.length-(j+1))) / d)/\e=[.obj k (.cells ⟨[.int .u64 ((bA (a.drop (a.length-(j+1))) % d:Nat):Int)]⟩ 285 (0,0)),.obj g (.cells ⟨[qU f a.length a.length]⟩ 271 (0,0)),.arr (qU f a.length a.length) 285 1 a.length (c.map cP).flatten]) (PI _) ⟨c.set i ((T % d*B9+g9 a i) / d),⟨by simp [I],L.set ah,by rw [show a.length-(j+1)=i by omega,aj,lf om_,B,V.1];omega⟩,Z⟩
  obtain ⟨c,⟨I,L,B⟩,rfl⟩:=s;rw [fQ,Sf,QV,QV,ab] at B;rw [fQ,Sf,QV,ab];refine G.freezeArr 3 (c.map cP) rfl rfl (by intro r hr;obtain ⟨y,_,rfl⟩:=PK.1 hr;rfl) (by rw [al,I]) fun Cq aP ak=>G.cut (fun fr W e X=>∃ (E z:Value),(NineC W E (m / d)/\NineC W z (m % d))/\fr=[(4,[],.pointer (some ⟨g,0,none⟩)),(5,[],z)]/\e=[.obj g (.cells ⟨[E]⟩ 271 (0,0)),.obj bD (.deferred (some [])),.obj k (.cells ⟨[.int .u64 ((m % d:Nat):Int)]⟩ 285 (0,0))]) ?_ (fun fr aQ aR X aS s=>?_)
  ·refine Uf (.cut [0,2] (.alt 1 (.fin [3,4,5,6]) (.alt 3 (.fin [1,4,5,6]) .stop))) [] Z Z kr_ fun R p b w=>To ac U9<|To ae U9<|TV w Z ⟨?_, ?_,trivial⟩
   ·refine TT (vA _ L ak.m_) U7 fun E az _ A=>TF [cP (m % d)] U12 fun aA aB _ Y=>TO (vA _ (l:=[m % d]) (fun x o=>by rw [PZ.1 o];have:=Qj m H;omega) Y.m_) U7 fl_ (fun z aC _ J=>?_);obtain ⟨A7,m7,c7,rfl⟩:=A.form;refine Ts (j:=2) U12<|Tk U6<|Tn [4,5] b Z ?_;clear b p w R;rw [show bA [m % d]=m % d from (by show m % d+B9*0=m % d;omega)] at J;rw [B] at A;exact Tx 0 mup (hn_ [4,5] Z) ⟨_,z,⟨A.mono mup,J.mono mup⟩,Z,Z⟩
   refine TF [cP (m % d)] U12 fun aA aB _ Y=>TT (vA _ L ak.m_) U7 fun E az _ A=>TO (vA _ (l:=[m % d]) (fun x o=>by rw [PZ.1 o];have:=Qj m H;omega) Y.m_) U7 fl_ (fun z aC _ J=>?_);obtain ⟨A7,m7,c7,rfl⟩:=A.form;refine Ts (j:=2) U12<|Tk U6<|Tn [4,5] b Z ?_;clear b p w R;rw [show bA [m % d]=m % d from (by show m % d+B9*0=m % d;omega)] at J;rw [B] at A;exact Tx 0 mup (hn_ [4,5] Z) ⟨_,z,⟨A.mono mup,J.mono mup⟩,Z,Z⟩
  obtain ⟨E,z,⟨an,aD⟩,rfl,rfl⟩:=s;refine G.perm (L':=[.obj bD (.deferred (some [])),.obj g (.cells ⟨[E]⟩ 271 (0,0)),.obj k (.cells ⟨[.int .u64 ((m % d:Nat):Int)]⟩ 285 (0,0))]) (pkL [1,0,0] Z) ?_;obtain ⟨A7,m7,c7,rfl⟩:=an.form;refine Tu (Vu (AP ag Z Z Z Z Z) ?_);exact ⟨Z,_,_,Z,an,aD⟩
 exact absurd ad dc_
theorem vw (h:Dig9 l)(a:k<=l.length):bA l / B9 ^ k=bA (l.drop k):=by
 have e:bA l=bA (l.take k)+B9 ^ k*bA (l.drop k):=by
  conv=>lhs;rw [<- Qw k l]
  rw [fC,PS,QK a]
 have h1:=iG (h.take k);rw [PS,QK a] at h1;rw [e,Sv _ _ (R2 dc_),RZ h1,Q1]
theorem ul {b a:List Nat}(f:xV b)(c:xV a)(j:0<a.length)(m:a.length<=b.length):bA b / bA a<=bA (b.drop (a.length-1)) / g9 a (a.length-1)/\0<g9 a (a.length-1):=by
 have d:bA (a.drop (a.length-1))=g9 a (a.length-1):=by
  rw [fx om_,show a.length-1+1=a.length by omega,QI];show _+B9*0=_;omega
 have h1:=vw c.1 (k:=a.length-1) om_;have h2:=vw f.1 (k:=a.length-1) om_;have e:0<g9 a (a.length-1):=by
  rcases QH (g9 a (a.length-1)) with h | h
  ·have h3:=wV (l:=a) (i:=a.length-1) om_;rw [h] at h3;exact absurd (by rw [RQ];exact h3) c.2
  exact h
 refine ⟨?_,e⟩;rw [<- h2,<- d,<- h1,Nat.div_div_eq_div_mul];have g:0<B9 ^ (a.length-1):=R2 dc_;rw [d] at h1;refine Nat.div_le_div_left (Nat.mul_div_le _ _) ?_;rw [h1];exact Sb g e
theorem BA (h:l.length=k+1):bA (l.drop k)=g9 l k:=by
 rw [fx om_,show k+1=l.length by omega,QI];show _+B9*0=_;omega
theorem Jc (h:l.length=k+2):bA (l.drop k)=g9 l (k+1)*B9+g9 l k:=by
 rw [fx om_,BA (k:=k+1) om_,Qn];omega
theorem zo (c:xV a)(d:xV b)(h:bA b<=bA a):b.length<=a.length:=by
 rcases P8 a.length b.length with h1 | h1
 ·have:=uc c.1 d h1;omega
 exact h1
theorem xz (c:xV a)(d:xV b)(h:bA a<B9*bA b):a.length<=b.length+1:=by
 have h2:=iG d.1;refine sJ c (QT h ?_);rw [QU,Qn];exact Qt _ (Nat.le_of_lt h2)
theorem jx {f:Nat}(a:m<B9 ^ k)(b:f<B9):m*f<B9 ^ (k+1):=by
 rw [QU];exact Rx a b
theorem OG {a:Nat}(h:x<B9*a)(b:a<B9 ^ k):x<B9 ^ (k+1):=by
 rw [QU,Qn _ B9];exact RT h (Nat.mul_lt_mul_of_pos_left b dc_)
theorem J3 (l:List Nat):(l.map cP).all (fun r=>r.all nk)=true:=by
 rw [List.all_map,PY];intro x _;rfl
theorem Dx (C:Mem)(va vb:Value)(m n:Nat)(ha:NineC C va m)(hb:NineC C vb n)(hm:m<B9 ^ 100000)(aG:B9<=n) :
  Pur cx.P 227 [va,vb] C fun u D=>∃ q r,u=.tuple #[q,r]/\NineC D q (m / n)/\NineC D r (m % n):=by
 have aH:0<n:=QT dc_ aG;have ad:=ha;have af:=hb;obtain ⟨B,Q,bE,ah⟩:=hb;obtain ⟨A0,a0,c0,rfl⟩:=ha.form;obtain ⟨B0,d0,rfl,a2,bF,_⟩:=id ah;simp only [al] at ah af a2 ⊢;have bG:maxLen<=9223372036854775807:=by simp [maxLen]
 have S:=B9v;have bH:2<=B.length:=by
  rcases P8 B.length 2 with h | h
  ·have h2:=iG Q.1;have h3:B9 ^ B.length<=B9 ^ 1:=P2 dc_ om_;rw [Nat.pow_one] at h3;omega
  exact h
 refine UM kr_ func227 Z 146 Z Z (fun w0=>?_);refine Tl fun R a=>?_;refine TC U6 (fun b3=>?_);refine TB U5 (fun e=>?_);refine C6 1 [0,3,4,5] a Z ?_;clear a R;refine Ti 1 Z fun R a=>?_
 skip
 refine To ae U9 ?_;refine Tt (pn _ ad.m_ af.m_) U7 ?_;refine C6 1 [0,3,4,5,17] a Z ?_;clear a R;refine G.cd (fun ai=>?_) fun ai=>?_
 ·have U:m<n:=by
   have:jG m n<0:=by simpa using ai
   exact iO.1 this
  refine Ti 1 Z fun R a=>?_;refine Ts (j:=0) U12 ?_;refine C6 1 [4,5] a Z ?_;clear a R;refine Tu (UQ (AP ag Z Z Z Z Z) ?_ Jw);refine ⟨Z,_,_,Z, ?_, ?_⟩
  ·rw [RZ U];exact NineC.zero _
  rw [Su U];exact ad.mono mup
 have U:n<=m:=by
  have h:¬ jG m n<0:=by simpa using ai
  rw [iO] at h;omega
 refine Tl fun R a=>?_;refine To ae U9 ?_;refine C6 2 [0,3,4,5,21] a Z ?_;clear a R;refine G.cd (fun aI=>?_) fun aI=>?_
 ·exact absurd aI ap
 have bI:=kN Q.1 (B.length-1);have a3:(B.map cP)[((B.length:Int)-1).toNat]?=some (cP (g9 B (B.length-1))):=by
  rw [show ((B.length:Int)-1).toNat=B.length-1 by omega];exact jb om_
 obtain ⟨f,hf⟩:∃ f,B9 / (g9 B (B.length-1)+1)=f:=⟨_,rfl⟩;refine Tl fun R a=>?_;refine To ae U9 ?_;refine To ae U9 ?_;refine Tk U6 ?_;refine Tq _ Z U6 ?_;refine Ty ah.m_ U10 om_ a3 fl_ (fun bJ a4=>?_);refine Tj a4 U8 ?_;refine D.int (((g9 B (B.length-1)+1:Nat):Int)) U4 (by rw [IntKind.wrap_u64];omega) U2 ?_;refine Ur (B9) (g9 B (B.length-1)+1) U6 om_ (.inr ⟨Z,by omega⟩) U2 ?_;refine C6 1 [0,3,4,5,9] a Z ?_;clear a R;rw [hf];have w:0<f:=by rw [<- hf];exact Nat.div_pos om_ om_
 have o:f<B9:=by
  rw [<- hf];have h1:=(ul Q Q om_ (PE _)).2;exact Nat.div_lt_self dc_ om_
 have y:n<B9 ^ 100000:=QA U hm;refine TD [0,1,3,4,2,5,6,7] [] Z kr_ (fun R S a=>?_);refine Tm 2 Z ?_;refine To ae U9 ?_;refine Tk U6 ?_;refine TO (yi (k:=100000) _ ad.m_ hm o om_) U7 fl_ (fun bK _ _ a5=>?_);refine TO (yi (k:=100000) _ af.m_ y o om_) U7 fl_ (fun bL _ a6 aJ=>?_);refine Tk U6 ?_;obtain ⟨a7,bM,a8,rfl⟩:=aJ.form;refine Ts (j:=1) U12 ?_;refine Tn [0,3,4,5,9] a Z ?_;clear a S R;have aK:=a5.mono a6;have aL:=aJ;refine G.freeze 0 Z (fun C3 aM v=>?_);obtain ⟨P,a9,aj,bO,ak⟩:=(aK.mono aM).get (jx hm o);obtain ⟨W,p,z,bP,V⟩:=(aL.mono aM).get (jx y o);obtain ⟨PA,pc,rfl,_⟩:=id ak;obtain ⟨bQ,bR,ba,_⟩:=id V;cases ba
 simp only [al] at ak V v aK aL ⊢;have an:NineC C3 (.slice a7 W.length a8) (n*f):=⟨W,p,z,V⟩;have A:0<n*f:=Sb aH w;have ao:n*f<B9 ^ 100001:=dF (k:=100001) (n:=100000+1) (jx (k:=100000) y o) (PE _);have bS:2<=W.length:=by
  have h1:B9<=bA W:=by rw [z];exact PV aG (RY _ w)
  rcases P8 W.length 2 with h | h
  ·have h2:=iG p.1;have h3:B9 ^ W.length<=B9 ^ 1:=P2 dc_ om_;rw [Nat.pow_one] at h3;omega
  exact h
 have bT:1<=P.length:=by
  rcases QH P.length with h | h
  ·have:P=[]:=Qo h;subst this;have h1:m*f=0:=by rw [<- aj];rfl
   have h2:0<m*f:=Sb om_ w;omega
  exact h
 have bb:=(ul p p om_ (PE _)).2;have bU:=kN p.1 (W.length-1);refine Ti 2 Z fun R a=>?_;refine Up U9 (PE _) (by show 8*P.length<=281474976710656;omega) (by simp only [maxLen];omega) fl_ (fun d=>?_);refine Ts (j:=1) U12 ?_;refine Tn [0,3,4,5,9] a Z ?_;clear a R;refine Tl fun R a=>?_;refine Tj (PtrTo.block (Mem.get v mup) _) U8 ?_;refine Tj (PtrTo.block (Mem.get v mup) _) U8 ?_;refine Tk U6 ?_;refine Tq _ Z U6 ?_;refine Ty V.m_ U10 om_ (by rw [show ((W.length:Int)-1).toNat=W.length-1 by omega];exact jb om_:(W.map cP)[((W.length:Int)-1).toNat]?=some (cP (g9 W (W.length-1)))) fl_ (fun bV bc=>?_);refine Tj bc U8 ?_;refine C6 1 [0,3,4,5,9,10] a Z ?_;clear a R;refine Ti 2 Z fun R a=>?_;refine Tq _ Z U6 ?_;refine C6 1 [0,3,4,5,9,10,11] a Z ?_;clear a R;refine Tz (L':=[.obj e (.cells ⟨[qU d P.length P.length]⟩ 271 (0,0)),.arr (qU d P.length P.length) 285 1 P.length ((List.replicate P.length 0).map cP).flatten]) (by rw [<- D4];rfl) ?_;refine G.loop (fun fr Y g E=>∃ (i:Nat)(c:List Nat)(v5:Value),(i<=P.length/\c.length=P.length/\Dig9 c/\bA (c.drop i)=bA (P.drop i) / (n*f)/\NineC Y v5 (bA (P.drop i) % (n*f))/\∀ j,j<i->g9 c j=0)/\fr=[(0,[],.slice PA P.length pc),(3,[],.pointer (some ⟨b3,0,none⟩)),(4,[],.pointer (some ⟨e,0,none⟩)),(5,[],v5),(9,[],.int .u64 f),(10,[],.int .u64 (g9 W (W.length-1))),(11,[],.int .i64 ((i:Int)-1))]/\g=[.obj e (.cells ⟨[qU d P.length P.length]⟩ 271 (0,0)),.arr (qU d P.length P.length) 285 1 P.length (c.map cP).flatten]/\E=i+1) (hn_ [0,3,4,5,9,10,11] Z) ⟨P.length,List.replicate P.length 0,_,⟨PE _,Qd,(fun x hx=>by rw [RI hx];decide),by rw [QI,Sn am];simp [bA],by rw [QI,show bA []=0 from Z,Nat.zero_mod];exact NineC.zero _,fun j _=>BE _ j⟩,Z,Z,Z⟩ (fun fr bX bY m _ F=>?_);obtain ⟨i,c,v5,⟨hi,aa,aq,H,ab,ar⟩,rfl,rfl,rfl⟩:=F;refine Th 2 [0,3,4,5,9,10,11,78] Z ?_;refine G.cd (fun au=>?_) fun au=>?_
 ·have aN:0<i:=by
   have:(0:Int)<=(i:Int)-1:=by simpa using au
   omega
  obtain ⟨j,rfl⟩:∃ j,i=j+1:=⟨i-1,by omega⟩;obtain ⟨T,hT⟩:∃ T,bA (P.drop (j+1))=T:=⟨_,rfl⟩;rw [hT] at H ab;have aO:=Qj T A;obtain ⟨I,bd,be,bZ,aP⟩:=ab.get (m:=100001) (RT aO (dF (k:=100001) (n:=100000+1) (jx (k:=100000) y o) (PE _)));obtain ⟨RA,rc,aQ,_⟩:=id aP;rw [al] at aQ;subst aQ;obtain ⟨X,hX⟩:∃ X,g9 P j+B9*(T % (n*f))=X:=⟨_,rfl⟩;have aR:=kN a9.1 j;have bf:bA (g9 P j::I)=X:=by rw [bA,be,hX]
  have J:=sn (t:=T) (x:=g9 P j) A;have bg:=lV (t:=T) A aR;rw [hX] at J bg;have ac:bA (P.drop j)=g9 P j+B9*T:=by rw [fx om_,hT]
  refine TH [(7,3)] Z (fun R a=>?_);refine Tm 2 Z ?_;refine Ty ak.m_ U10 om_ (by rw [show ((((j+1:Nat):Int)-1)).toNat=j by omega];exact jb om_:(P.map cP)[((((j+1:Nat):Int)-1)).toNat]?=some (cP (g9 P j))) fl_ (fun b0 bh=>?_);refine Tj bh U8 ?_;refine Uu [cP (g9 P j)] U12 fl_ (fun b1=>?_);refine Tk U6 ?_;refine D.append (j:=0) U11 aP.m_ (J3 I) (by simp only [al,PD,maxLen];omega) (by simp only [al,PD];omega) fl_ (fun b2=>?_);refine D.call (gp _ _ (g9 P j::I) (n:=1+(I.map cP).length) (by rw [al];simp;omega)) Z (.inr dc_) U6 (PI _) fl_ (fun bi bj b5 _ bk=>?_);refine C6 1 [0,3,4,5,9,10,11] a Z ?_;clear a R;obtain ⟨rfl,hu⟩:=bk;have K:NineC bj bi X:=⟨D3 (g9 P j::I),im (fun x hx=>(PQ.1 hx).elim (fun h=>by rw [h];exact aR) (bd.1 x)),by rw [il,bf],hu⟩;have aS:X<B9*(n*f):=by
   have h1:B9*(T % (n*f)+1)<=B9*(n*f):=QZ _ aO;rw [QS] at h1;omega
  have aT:X<B9 ^ 100002:=dF (k:=100002) (n:=100001+1) (OG (k:=100001) aS ao) (PE _);obtain ⟨b,L,av,b6,aw⟩:=K.get aT;obtain ⟨XA,xc,aU,_⟩:=id aw;rw [al] at aU;subst aU;refine Ti 1 Z fun R a=>?_;refine Tj (PtrTo.block (Mem.get v mup) _) U8 ?_;refine Tt (pn _ K.m_ an.m_) U7 ?_;refine C6 1 [0,3,4,5,9,10,11,92] a Z ?_;clear a R;refine G.cd (fun ax=>?_) fun ax=>?_
  ·have aV:X<n*f:=by
    have:jG X (n*f)<0:=by simpa using ax
    exact iO.1 this
   refine Ti 1 Z fun R a=>?_;refine Tq _ Z U6 ?_;refine C6 1 [0,3,4,5,9,10,11] a Z ?_;clear a R;rw [show ((j+1:Nat):Int)-1-1=(j:Int)-1 by omega];refine Tv (m':=j+1) om_ mup (hn_ [0,3,4,5,9,10,11] Z) ⟨j,c,_,⟨by omega,aa,aq,by rw [fx (l:=c) om_,ar j om_,H,ac,J.1,RZ aV];omega,by rw [ac,J.2,Su aV];exact K.mono mup,fun j' h=>ar j' om_⟩,Z,Z,Z⟩
  have bl:n*f<=X:=by
   have h:¬ jG X (n*f)<0:=by simpa using ax
   rw [iO] at h;omega
  have bm:=zo L p (by rw [av,z];exact bl);have b7:=xz L p (by rw [av,z];exact aS);have ay:=(ul L p om_ bm).1;obtain ⟨s,az⟩:∃ s,bA (b.drop (W.length-1))=s:=⟨_,rfl⟩;rw [av,z,az] at ay;have b8:=kN L.1 (b.length-1);have b9:=kN L.1 (b.length-2);refine Ti 3 Z fun R a=>?_;refine Tq _ Z U6 ?_;refine Ty aw.m_ U10 om_ (by rw [show ((b.length:Int)-1).toNat=b.length-1 by omega];exact jb om_:(b.map cP)[((b.length:Int)-1).toNat]?=some (cP (g9 b (b.length-1)))) fl_ (fun ca bn=>?_);refine Tj bn U8 ?_;refine C6 1 [0,3,4,5,9,10,11,12] a Z ?_;clear a R;refine Ti 2 Z fun R a=>?_;refine Tj (PtrTo.block (Mem.get v mup) _) U8 ?_;refine C6 2 [0,3,4,5,9,10,11,12,103] a Z ?_;clear a R;refine G.cut (fun fr Y g E=>(s<1000000000000000000)/\fr=[(0,[],.slice PA P.length pc),(3,[],.pointer (some ⟨b3,0,none⟩)),(4,[],.pointer (some ⟨e,0,none⟩)),(5,[],.slice XA b.length xc),(9,[],.int .u64 f),(10,[],.int .u64 (g9 W (W.length-1))),(11,[],.int .i64 (((j+1:Nat):Int)-1)),(12,[],.int .u64 (s:Nat))]/\g=[.obj e (.cells ⟨[qU d P.length P.length]⟩ 271 (0,0)),.arr (qU d P.length P.length) 285 1 P.length (c.map cP).flatten]) ?_ (fun fr _ cb E _ F=>?_)
  ·refine G.cd (fun aA=>?_) fun aA=>?_
   ·have bo:b.length=W.length-1+2:=by
     have:(W.length:Int)<(b.length:Int):=by simpa using aA
     omega
    have M:=Jc bo;rw [az,show W.length-1+1=b.length-1 by omega,show W.length-1=b.length-2 by omega] at M;have bp:g9 b (b.length-1)*B9<=999999999*B9:=Qt _ om_;rw [show 999999999*B9=999999999000000000 from rfl] at bp;refine Ti 1 Z fun R a=>?_;refine D.int (((g9 b (b.length-1)*B9:Nat):Int)) U4 (by rw [show (1000000000:Int)=((B9:Nat):Int) from Z,<- Qa,IntKind.wrap_u64];omega) U2 ?_;refine Tm 3 Z ?_;refine Tq _ Z U6 ?_;refine Ty aw.m_ U10 om_ (by rw [show ((b.length:Int)-2).toNat=b.length-2 by omega];exact jb om_:(b.map cP)[((b.length:Int)-2).toNat]?=some (cP (g9 b (b.length-2)))) fl_ (fun cc bq=>?_);refine Tj bq U8 ?_;refine D.int (((s:Nat):Int)) U4 (by rw [M,IntKind.wrap_u64];omega) U2 ?_;refine C6 1 [0,3,4,5,9,10,11,12] a Z ?_;clear a R;refine Tx 0 mup (hn_ [0,3,4,5,9,10,11,12] Z) ⟨by omega,Z,Z⟩
   have br:b.length=W.length-1+1:=by
    have:¬ (W.length:Int)<(b.length:Int):=by simpa using aA
    omega
   have M:=BA br;rw [az,show W.length-1=b.length-1 by omega] at M;rw [<- M];refine Tx 0 mup (hn_ [0,3,4,5,9,10,11,12] Z) ⟨by omega,Z,Z⟩
  obtain ⟨ce,rfl,rfl⟩:=F;obtain ⟨N,aB⟩:∃ N,s / g9 W (W.length-1)=N:=⟨_,rfl⟩;rw [aB] at ay;have cf:N<=s:=by rw [<- aB];exact QL _ _
  refine Ti 2 Z fun R a=>?_;refine Ur (s) (g9 W (W.length-1)) U6 bb (.inr ⟨Z,by omega⟩) U2 ?_;rw [aB];refine D.min (((min N 999999999:Nat):Int)) U6 om_ U2 ?_;refine C6 1 [0,3,4,5,9,10,11,12] a Z ?_;clear a R;refine Tl fun R a=>?_;refine Tj (PtrTo.block (Mem.get v mup) _) U8 ?_;refine Tk U6 ?_;refine TO (yi (k:=100001) _ an.m_ ao om_ om_) U7 fl_ (fun bs _ _ bt=>?_);refine C6 1 [0,3,4,5,9,10,11,12,13] a Z ?_;clear a R;refine G.loop (fun fr Y g E=>∃ (dd:Nat)(aC:Value),(X / (n*f)<=dd/\dd<B9/\NineC Y aC (n*f*dd))/\fr=[(0,[],.slice PA P.length pc),(3,[],.pointer (some ⟨b3,0,none⟩)),(4,[],.pointer (some ⟨e,0,none⟩)),(5,[],.slice XA b.length xc),(9,[],.int .u64 f),(10,[],.int .u64 (g9 W (W.length-1))),(11,[],.int .i64 (((j+1:Nat):Int)-1)),(12,[],.int .u64 (dd:Nat)),(13,[],aC)]/\g=[.obj e (.cells ⟨[qU d P.length P.length]⟩ 271 (0,0)),.arr (qU d P.length P.length) 285 1 P.length (c.map cP).flatten]/\E=dd+1) (hn_ [0,3,4,5,9,10,11,12,13] Z) ⟨min N 999999999,bs,⟨by have h:=Nat.le_min.2 ⟨ay,(by omega:X / (n*f)<=999999999)⟩;exact h,by omega,bt.mono mup⟩,Z,Z,Z⟩ (fun fr cg ch m _ F=>?_);obtain ⟨dd,aC,⟨bu,aW,aD⟩,rfl,rfl,rfl⟩:=F;refine Ti 2 Z fun R a=>?_;refine Tt (pn _ aD.m_ K.m_) U7 ?_;refine C6 1 [0,3,4,5,9,10,11,12,13,123] a Z ?_;clear a R;refine G.cd (fun aF=>?_) fun aF=>?_
  ·have O:X<n*f*dd:=by
    have:0<jG (n*f*dd) X:=by simpa using aF
    exact Fw.1 this
   have bv:1<=dd:=by
    rcases QH dd with h | h
    ·rw [h] at O;omega
    exact h
   refine Ti 1 Z fun R a=>?_;refine Tj (PtrTo.block (Mem.get v mup) _) U8 ?_;refine TO (tY (k:=100002) _ aD.m_ an.m_ (dF (k:=100002) (n:=100001+1) (jx (k:=100001) ao aW) (PE _)) (RY _ bv) om_) U7 fl_ (fun bw _ _ aX=>?_);refine C6 1 [0,3,4,5,9,10,11,12,13] a Z ?_;clear a R;refine Ti 1 Z fun R a=>?_;refine D.int (((dd-1:Nat):Int)) U4 (by rw [IntKind.wrap_u64];omega) U2 ?_;refine C6 1 [0,3,4,5,9,10,11,12,13] a Z ?_;clear a R;rw [show n*f*dd-n*f=n*f*(dd-1) from by rw [Nat.mul_sub,QD]] at aX;refine Tv (m':=dd-1+1) om_ mup (hn_ [0,3,4,5,9,10,11,12,13] Z) ⟨dd-1,bw,⟨by have h:=(Rt A).2 (by rw [Qn];exact O);omega,by omega,aX.mono mup⟩,Z,Z,Z⟩
  have O:n*f*dd<=X:=by
   have h:¬ 0<jG (n*f*dd) X:=by simpa using aF
   rw [Fw] at h;omega
  have aY:dd=X / (n*f):=Nat.le_antisymm ((Nat.le_div_iff_mul_le A).2 (by rw [Qn];exact O)) bu;have bx:X-n*f*dd=X % (n*f):=by rw [aY];have:=SA X (n*f);omega
  refine TD [0,1,2,3,4,5,6,7,8] [] Z kr_ (fun R S a=>?_);refine To ag U9 ?_;refine Tm 4 Z ?_;refine TO (tY (k:=100002) _ K.m_ aD.m_ aT O om_) U7 fl_ (fun bz _ _ aZ=>?_);refine TL (j*1) U10 (fun _=>⟨by omega,by omega,(by rw [show (((j+1:Nat):Int)-1).toNat=j by omega])⟩) U2 ?_;refine TP (j:=1) U11 (by show j*1+1<=_;rw [bW eG,aa];omega) ?_;refine Tk U6 ?_;refine Tn [0,3,4,5,9,10,11] a Z ?_;clear a S R;refine Ti 1 Z fun R a=>?_;refine Tq _ Z U6 ?_;refine C6 1 [0,3,4,5,9,10,11] a Z ?_;clear a R;rw [show ((j+1:Nat):Int)-1-1=(j:Int)-1 by omega];refine G.perm (L':=[.obj e (.cells ⟨[qU d P.length P.length]⟩ 271 (0,0)),.arr (qU d P.length P.length) 285 1 P.length (aE (c.map cP).flatten (cP dd) (j*1))]) (List.Perm.swap _ _ _) ?_;refine Tz (L':=[.obj e (.cells ⟨[qU d P.length P.length]⟩ 271 (0,0)),.arr (qU d P.length P.length) 285 1 P.length ((c.set j dd).map cP).flatten]) (by rw [<- bN eG _ (by omega:j<c.length)]) ?_;rw [bx] at aZ;refine Tv (m':=j+1) om_ mup (hn_ [0,3,4,5,9,10,11] Z) ⟨j,c.set j dd,bz,⟨by omega,by simp [aa],aq.set aW,by rw [lf om_,H,ac,J.1,aY];omega,by rw [ac,J.2];exact aZ.mono mup,fun j' h=>by rw [pR om_];exact ar j' om_⟩,Z,Z,Z⟩
 have aN:i=0:=by
  have:¬ (0:Int)<=(i:Int)-1:=by simpa using au
  omega
 subst aN;rw [QV,QV,aj,Nat.mul_div_mul_right _ _ w] at H;rw [QV,aj,Nat.mul_mod_mul_right] at ab;refine Ti 2 Z fun R a=>?_;refine TF [cP f] U12 (fun ci _ _ bB=>?_);refine TO (sk _ _ _ (m % n*f) f ab.m_ (by
  have h1:=jx (k:=100000) (RT (Qj m aH) y) o;exact dF (k:=200000) (n:=100000+1) h1 dc_) bB.m_ w o) U7 fl_ (fun cj _ _ bC=>?_)
 obtain ⟨q2,r2,rfl,a1,ck⟩:=bC;rw [Nat.mul_div_cancel _ w] at a1;refine C6 4 [4,5] a Z ?_;clear a R;refine G.perm (L':=[.arr (qU d P.length P.length) 285 1 P.length (c.map cP).flatten,.obj e (.cells ⟨[qU d P.length P.length]⟩ 271 (0,0))]) (List.Perm.swap _ _ _) ?_;refine TH [(1,3)] Z (fun R a=>?_);refine To ae U9 ?_;refine D.call (gp _ _ c aa) Z (.inr dc_) U6 (PI _) fl_ (fun cl _ cm _ bD=>?_);refine Tk U6 ?_;obtain ⟨rfl,hu⟩:=bD;obtain ⟨Au,cu,rfl,_⟩:=id hu;refine Ts (j:=0) U12 ?_;refine C6 1 [4,5] a Z ?_;clear a R;refine Tu (UQ (AP ag Z Z Z Z Z) ?_ Jw);exact ⟨Z,_,_,Z,⟨D3 c,im aq,by rw [il,H],hu⟩,a1.mono mup⟩
theorem xi (C:Mem)(a b:Value)(m n:Nat)(g:NineC C a m)(h:NineC C b n)(i:m<B9 ^ 100000)(f:0<n) :
  Pur cx.P 227 [a,b] C fun u D=>∃ q r,u=.tuple #[q,r]/\NineC D q (m / n)/\NineC D r (m % n):=by
 rcases P8 n B9 with c | c
 ·obtain ⟨l,h1,h2,h3,h4⟩:=h.get (m:=1) (by rw [Nat.pow_one];exact c);have j:l≠[]:=fun e=>by rw [e] at h2;rw [<- h2] at f;exact absurd f dc_
  obtain ⟨d,rfl⟩:∃ d,l=[d]:=by
   cases l with
   | nil=>exact absurd rfl j
   | cons d l=>cases l with
    | nil=>exact ⟨d,rfl⟩
    | cons e l=>simp at h3
  have o:d=n:=by rw [<- h2];show d=d+B9*0;omega
  subst o;exact sk C a b m d g (dF (k:=200000) (n:=100000) i dc_) h4 f c
 exact Dx C a b m n g h i c
theorem Jl (C:Mem)(s:Str)(c:UInt8):Gives cx.P 250 [af s,af [c]] C (.bool (cJ c s).2):=by
 exact Tr func250 8 U3 fun w0=>Th 1 [0,1] Z<|Ti 2 Z fun R a=>Tt (yK _ s c) U7<|C6 1 [4] a Z<|Tp U2<|⟨Z,Z⟩
theorem El (C:Mem)(s:Str)(c:UInt8):Gives cx.P 277 [af s,af [c]] C (af (cJ c s).1):=by
 refine Tr func277 13 U3 fun w0=>Th 1 [0,1] Z<|Ti 2 Z fun R d=>Tt (yK _ s c) U7<|Tn [0,1,7] d Z<|G.cd (fun a=>?_) fun a=>?_
 ·have h:s.head?=some c:=P5 fun h=>by unfold cJ at a;rw [aG h] at a;cases a
  have e:1<=s.length:=by cases s with
   | nil=>cases h
   | cons b s=>simp
  refine Ti 3 Z fun R d=>Un 1 s.length U9 (fun _=>⟨.inr ⟨_,Z⟩,.inl ⟨Z,Z⟩,.inl ⟨Z,Z⟩,by omega,PE _,PE _⟩) U2<|C6 1 [4] d Z<|Tp U2 ?_;unfold cJ;rw [aK h];refine ⟨?_,Z⟩;rw [PT,List.drop_one];rfl
 have h:¬ s.head?=some c:=fun h=>by unfold cJ at a;rw [aK h] at a;cases a
 refine Th 2 [4] Z<|Tp U2 ?_;unfold cJ;rw [aG h];exact ⟨Z,Z⟩
theorem zW (C:Mem)(s:Str)(c:UInt8):Gives cx.P 225 [af s,af [c]] C (af (cJ c s).1):=by
 exact Tr func225 8 U3 fun w0=>Th 1 [0,1] Z<|Ti 2 Z fun R a=>Tt (El _ s c) U7<|C6 1 [4] a Z<|Tp U2<|⟨Z,Z⟩
def eN (z:Int):Int:=if z<0 then -1 else if z=0 then 0 else 1
theorem lN (C:Mem)(z:Int):Gives cx.P 186 [af (txt z)] C (.int .i64 (eN z)):=by
 refine Tr func186 9 U3 fun w0=>Th 1 [0] Z ?_
 skip
 refine Th 3 [0,3] Z<|G.cd (fun h3=>?_) fun h3=>?_
 ·have b:z=0:=by
   have h:=lg z;rw [h] at h3;exact aY h3
  exact Th 1 [2] Z<|Tp U2<|⟨by rw [b];rfl,Z⟩
 have b:z≠0:=by
  have h:=lg z;rw [h] at h3;exact PJ h3
 refine Ti 1 Z fun R d=>Tt (Jl _ (txt z) 45) U7<|C6 1 [6] d Z<|G.cd (fun a=>?_) fun a=>?_
 ·have c:z<0:=by
   rw [dI] at a;exact aY a
  exact Th 1 [2] Z<|Tp U2<|⟨by rw [eN,aK c],Z⟩
 have c:¬ z<0:=by
  rw [dI] at a;exact PJ a
 exact Th 1 [2] Z<|Tp U2<|⟨by rw [eN,aG c,aG b],Z⟩
theorem rU (C:Mem)(a:Tabs C)(z:Int)(b:-9223372036854775808<=z)(c:z<=9223372036854775807):Gives cx.P 185 [.int .i64 z] C (af (txt z)):=by
 exact Tr func185 5 U3 fun w0=>Th 1 [0] Z<|Ti 1 Z fun R d=>Tt (iZ _ a.m_ z b c) U7<|C6 1 [2] d Z<|Tp U2<|⟨Z,Z⟩
theorem my (z:Int):(txt z).length<=(bj z.natAbs).length+1:=by unfold txt;split <;> simp
theorem ug (C:Mem)(z:Int)(e:(bj z.natAbs).length<=1000000):Gives cx.P 133 [af (txt z)] C (af (txt (-z))):=by
 have f:=my z;refine Tr func133 14 U3 fun w0=>Th 1 [0] Z<|Ti 1 Z fun R a=>Tt (lN _ z) U7<|Tn [0,4] a Z<|Th 2 [0,4,5] Z<|G.cd (fun h5=>?_) fun h5=>?_
 ·have d:0<z:=by
   have h:eN z=1:=by simpa using h5
   unfold eN at h;split at h
   ·cases h
   split at h
   ·cases h
   omega
  refine Ti 1 Z fun R a=>Ul U6 (fun _=>(by simp only [PW,Qf];omega)) U2<|C6 1 [2] a Z<|Tp U2<|⟨?_,Z⟩;unfold txt;rw [aG om_,aK om_,SG];rfl
 have d:¬ 0<z:=fun h=>by
  have h2:eN z=1:=by unfold eN;rw [aG om_,aG om_]
  rw [h2] at h5;cases h5
 refine Th 2 [0,9] Z<|G.cd (fun b=>?_) fun b=>?_
 ·have c:z<0:=by
   have h:eN z=-1:=by simpa using b
   unfold eN at h;split at h
   ·assumption
   split at h <;> cases h
  refine Ti 1 Z fun R a=>Un 1 (txt z).length U9 (fun _=>⟨.inr ⟨_,Z⟩,.inl ⟨Z,Z⟩,.inl ⟨Z,Z⟩,(by unfold txt;rw [aK c];simp),PE _,PE _⟩) U2<|C6 1 [2] a Z<|Tp U2<|⟨?_,Z⟩;rw [PT];unfold txt;rw [aK c,aG om_,SG];rfl
 have c:¬ z<0:=fun h=>by
  have h2:eN z=-1:=by unfold eN;rw [aK h]
  rw [h2] at b;cases b
 refine Th 2 [2] Z<|Tp U2<|⟨?_,Z⟩;rw [show z=0 by omega];rfl
theorem G6:∀ {s t:Str},(∀ c∈s,eQ c=true)->(∀ c∈t,eQ c=true)->s.length=t.length->Lib.compareBytes s t=jG (bY s) (bY t)
 | [],[],_,_,_=>rfl
 | [],_::_,_,_,h=>by simp at h
 | _::_,[],_,_,h=>by simp at h
 | c::s,d::t,hs,g,k=>by
  have e:s.length=t.length:=by simpa using k
  have i:∀ x∈s,eQ x=true:=fun x f=>hs x (by simp [f]);have j:∀ x∈t,eQ x=true:=fun x f=>g x (by simp [f]);have l:=G6 i j e;have h1:=dJ i;have h2:=dJ j;have m:=hs c am;have n:=g d am;simp only [eQ,PN] at m n;rw [dK,dK,e];rw [e] at h1;simp only [Lib.compareBytes];obtain ⟨p,o⟩:∃ p,10 ^ t.length=p:=⟨_,rfl⟩;rw [o] at h1 h2 ⊢;by_cases a:c<d
  ·rw [aK a];have r:c.toNat<d.toNat:=a;have h3:(c.toNat-48+1)*p<=(d.toNat-48)*p:=Qt _ om_;rw [Rm] at h3;unfold jG;rw [aK om_]
  rw [aG a];by_cases b:d<c
  ·rw [aK b];have u:d.toNat<c.toNat:=b;have h3:(d.toNat-48+1)*p<=(c.toNat-48)*p:=Qt _ om_;rw [Rm] at h3;unfold jG;rw [aG om_,aK om_]
  rw [aG b,l];have q:c.toNat=d.toNat:=by
   have h3:¬ c.toNat<d.toNat:=a;have h4:¬ d.toNat<c.toNat:=b;omega
  rw [q];unfold jG;split <;> rename_i h5
  ·rw [aK om_]
  split <;> rename_i v
  ·rw [aG om_,aK om_]
  rw [aG om_,aG om_]
theorem qg {a b:Nat}(h:(bj a).length<(bj b).length):a<b:=by
 obtain ⟨h1,h2⟩:=bx a;obtain ⟨h3,h4⟩:=bx b;have c:=Qq.2 h1.2.1;have h5:=dJ h1.1;have d:=nZ h3 om_;have e:10 ^ (bj a).length<=10 ^ ((bj b).length-1):=P2 dc_ om_;omega
theorem MZ {a b:Nat}(h:(bj a).length=(bj b).length):Lib.compareBytes (bj a) (bj b)=jG a b:=by
 obtain ⟨h1,h2⟩:=bx a;obtain ⟨h3,h4⟩:=bx b;rw [G6 h1.1 h3.1 h,h2,h4]
def vh (z w:Int):Int:=if z<w then -1 else if w<z then 1 else 0
theorem ek (z:Int):(z<0/\eN z=-1)∨(z=0/\eN z=0)∨(0<z/\eN z=1):=by
 unfold eN;split
 ·exact .inl ⟨by assumption,Z⟩
 split
 ·exact .inr (.inl ⟨by assumption,Z⟩)
 exact .inr (.inr ⟨by omega,Z⟩)
theorem zj (h:eN z=eN w):vh z w=eN z*jG z.natAbs w.natAbs:=by
 have a:=ek w;rw [<- h] at a;unfold vh jG;rcases ek z with ⟨h1,h2⟩ | ⟨h1,h2⟩ | ⟨h1,h2⟩ <;> rw [h2] at a ⊢
 ·have h3:w<0:=by omega
  split <;> split <;> (try split) <;> omega
 ·have h3:w=0:=by omega
  subst h1 h3;simp
 have h3:0<w:=by omega
 split <;> split <;> (try split) <;> omega
theorem Ih (z:Int):IntKind.i64.wrap (-(eN z))=-(eN z):=by
 rcases ek z with ⟨h1,h2⟩ | ⟨h1,h2⟩ | ⟨h1,h2⟩ <;> rw [h2] <;> rfl
theorem Ez (C:Mem)(a b:Str):Gives cx.P 226 [af a,af b] C (.int .i64 (Lib.compareBytes a b)):=yo Tryz.scmp a b C kr_
theorem pN (C:Mem)(z w:Int)(_m:(bj z.natAbs).length<=1000000)(_n:(bj w.natAbs).length<=1000000):Gives cx.P 161 [af (txt z),af (txt w)] C (.int .i64 (vh z w)):=by
 have ez:(cJ 45 (txt z)).1=bj z.natAbs:=by rw [dI]
 have j:(cJ 45 (txt w)).1=bj w.natAbs:=by rw [dI]
 refine Tr func161 41 U3 fun w0=>Th 1 [0,1] Z<|Ti 1 Z fun R b=>Tt (lN _ z) U7<|Tk U6<|Tt (lN _ w) U7<|C6 2 [0,1,5,6] b Z<|Th 3 [0,1,5,6,15] Z<|G.cd (fun c=>?_) fun c=>?_
 ·have k:eN z≠eN w:=by simpa using c
  refine Th 3 [18] Z<|G.cd (fun d=>?_) fun d=>?_
  ·have a:eN z<eN w:=by simpa using d
   refine Th 1 [4] Z<|Tp U2<|⟨?_,Z⟩;rw [vh,aK (by unfold eN at a;split at a <;> split at a <;> (try split at a) <;> omega)]
  have a:¬ eN z<eN w:=by simpa using d
  refine Th 1 [4] Z<|Tp U2<|⟨?_,Z⟩;have h:w<z:=by
   have h2:eN w<eN z:=by omega
   unfold eN at h2;split at h2 <;> split at h2 <;> (try split at h2) <;> omega
  rw [vh,aG om_,aK h]
 have f:eN z=eN w:=by simpa using c
 refine Ti 1 Z fun R b=>Tt (zW _ (txt z) 45) U7<|Tk U6<|Tt (zW _ (txt w) 45) U7 ?_;rw [ez,j];refine C6 2 [5,7,8] b Z<|Th 5 [5,7,8,27] Z<|G.cd (fun g=>?_) fun g=>?_
 ·have k:(bj z.natAbs).length≠(bj w.natAbs).length:=fun e=>by
   have h:(((bj z.natAbs).length:Nat):Int)≠(((bj w.natAbs).length:Nat):Int):=by simpa using g
   exact h (by rw [e])
  refine Th 5 [5,32] Z<|G.cd (fun i=>?_) fun i=>?_
  ·have a:z.natAbs<w.natAbs:=qg (by
    have h:(((bj z.natAbs).length:Nat):Int)<(((bj w.natAbs).length:Nat):Int):=by simpa using i
    omega)
   refine Th 3 [4] Z<|Tp U2<|⟨?_,Z⟩;rw [Int.zero_sub,Ih,zj f,show jG z.natAbs w.natAbs=-1 from aK a];congr 1;omega
  have a:w.natAbs<z.natAbs:=qg (by
   have h:¬ (((bj z.natAbs).length:Nat):Int)<(((bj w.natAbs).length:Nat):Int):=by simpa using i
   omega)
  refine Th 2 [4] Z<|Tp U2<|⟨?_,Z⟩;rw [zj f,show jG z.natAbs w.natAbs=1 from by unfold jG;rw [aG om_,aK a]];congr 1;omega
 have l:(bj z.natAbs).length=(bj w.natAbs).length:=by
  have h:(((bj z.natAbs).length:Nat):Int)=(((bj w.natAbs).length:Nat):Int):=by simpa using g
  omega
 refine Ti 3 Z fun R b=>Tt (Ez _ (bj z.natAbs) (bj w.natAbs)) U7 ?_;rw [MZ l];refine TS ((vh z w)) U4 (by rw [zj f]) (by unfold vh;split <;> (try split) <;> omega) (by unfold vh;split <;> (try split) <;> omega) U2 ?_
 exact C6 1 [4] b Z<|Tp U2<|⟨Z,Z⟩
def nX (b:Bool):Int:=if b then 0 else 2
theorem wR (C:Mem)(s:Str):Gives cx.P 160 [af s] C (.int .i64 (nX (cH s))):=by
 obtain ⟨t,neg,p⟩:∃ t b,cJ 45 s=(t,b):=⟨_,_,rfl⟩;have g:cH s=(t.all eQ && !(t == []) && !(t.head? == some 48 && (neg || decide (1<t.length))) && decide (t.length<=200)):=by unfold cH xx;rw [p]
 refine Tr func160 47 U3 fun w0=>Th 1 [0] Z<|Ti 1 Z fun R a=>Tw (by have h:=G2 C s 45;rw [p] at h;exact h) U7 fl_<|C6 5 [3,4] a Z<|Ti 6 Z fun R a=>TQ U8<|Tm 2 Z<|Uh (b:=t.headD 0) U8 (fun r=>⟨by omega,(by
  cases t with
  | nil=>exact Bool.noConfusion (show true=false from r.1)
  | cons b t=>rfl)⟩) U2 ?_
 refine Tm 7 Z<|TQ U8<|TJ U8<|TQ U8<|Tn [3,30] a Z<|G.cd (fun d=>?_) fun d=>?_
 ·have j:cH s=false:=by
   rw [g];cases t with
   | nil=>simp
   | cons b t =>
    simp at d;rcases d with h | ⟨h,h2⟩
    ·simp;intro _ _;omega
    have e:b=48:=SX.1 (by show b.toNat=48;omega);subst e;have u:(neg || decide (1<((48:UInt8)::t).length))=true:=by
     rcases h2 with h2 | h2
     ·rw [P0 ap];simp
     rw [h2];rfl
    rw [u];simp
  exact Th 1 [2] Z<|Tp U2<|⟨by rw [j];rfl,Z⟩
 have v:t.length<=200:=by
  simp at d;omega
 refine Th 3 [3,32,33] Z<|G.loop (fun fr E w y=>∃ (i:Nat),(i<=t.length/\∀ c∈t.take i,eQ c=true)/\fr=[(3,[],af t),(32,[],.int .i64 t.length),(33,[],.int .i64 i)]/\w=[]/\y=t.length-i) (hn_ [3,32,33] Z) ⟨0,⟨PL _,by simp⟩,Z,Z,Z⟩ (fun fr F H m _ z=>?_);obtain ⟨i,⟨I,k⟩,rfl,rfl,rfl⟩:=z;refine Th 1 [3,32,33,34] Z<|G.cd (fun l=>?_) fun l=>?_
 ·have n:i<t.length:=by simpa using l
  obtain ⟨c,f⟩:∃ c,t[i]?=some c:=⟨t[i],aj n⟩;refine Th 2 [3,5,32,33] Z<|Ti 2 Z fun R a=>Uh U8 (fun _=>⟨by omega,f⟩) U2<|Tm 4 Z<|Uh U8 (fun _=>⟨by omega,f⟩) U2<|Tk U6<|TQ U8<|Tn [3,32,33,45] a Z<|G.cd (fun o=>?_) fun o=>?_
  ·have j:cH s=false:=by
    have h1:t.all eQ=false:=by
     rw [Sa];refine ⟨c,O0 f, ?_⟩;simp at o;unfold eQ;simp;omega
    rw [g,h1];rfl
   exact Th 1 [2] Z<|Tp U2<|⟨by rw [j];rfl,Z⟩
  have A:eQ c=true:=by
   simp at o;unfold eQ;simp;omega
  refine Tl fun R a=>Tq _ Z U6<|C6 1 [3,32,33] a Z<|Tv (m':=t.length-(i+1)) om_ mup (hn_ [3,32,33] Z) ⟨i+1,⟨by omega,fun x q=>by
   rw [P6,f] at q;rcases PU.1 q with h | h
   ·exact k x h
   simp at h;subst h;exact A⟩,rfl,rfl,rfl⟩
 have n:t.length<=i:=by
  have:¬ i<t.length:=by simpa using l
  omega
 rw [Qk n] at k;have B:t.all eQ=true:=PY.2 k;have D:cH s=true:=by
  rw [g,B,P0 v];cases t with
  | nil=>simp at d
  | cons b t =>
   simp at d;simp;by_cases e:b=48
   ·subst e;have h5:=d.2;simp at h5;exact .inr ⟨h5.2,Qo om_⟩
   exact .inl e
 exact Th 1 [2] Z<|Tp U2<|⟨by rw [D];rfl,Z⟩
end Go.Proofs.YtfjcldheldflbaaGreatDoor
