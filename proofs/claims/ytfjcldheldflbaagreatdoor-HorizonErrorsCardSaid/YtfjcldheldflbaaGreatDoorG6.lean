/- Laws that the proofs of this seat share, part 6. -/
import Derived.Test.YtfjcldheldflbaaGreatDoorG5
import Derived.Test.YtfjcldheldflbaaGreatDoorShelf
set_option maxHeartbeats 4000000
namespace Go.Proofs.YtfjcldheldflbaaGreatDoor
open Go.Proofs.Tryz
open Go Go.Jog
set_option maxRecDepth 100000
variable {Q:Nat}{a b:List Nat}{i j k:Nat}{l:List Nat}{m n:Nat}{o p:List Int}{q:List Nat}{s:Str}{t:Nat}{w:Int}{x:Nat}{z:Int}
def gI (p:List Int)(i:Nat):Int:=p.getD i 0
theorem F7 (h:k<p.length):(p.map pS)[k]?=some (pS (gI p k))/\p[k]?=some (gI p k):=by
 have e:p[k]?=some (gI p k):=by
  unfold gI;rw [ay,al h];rfl
 exact ⟨by rw [PD,e];rfl,e⟩
theorem rW (h:p.length<=k):gI p k=0:=by
 unfold gI;rw [ay,PJ h];rfl
theorem K2 (p:List Int)(k:Nat):iD (p.take (k+1))=iD (p.take k)+(10000:Int) ^ k*gI p k:=by
 rcases P4 k p.length with h | h
 ·exact DP (F7 h).2
 rw [rW h,Qg h,Qg om_];simp
theorem EH (o:Int):(o-o % 10000).tdiv 10000=(o-o % 10000) / 10000:=Int.tdiv_eq_ediv_of_dvd (Int.dvd_of_emod_eq_zero om_)
theorem JE (C:Mem)(v:Value)(p:List Int)(g:Sl C 1 v (p.map pS))(H:0<=iD p)(I:∀ x∈p, -1000000000000<=x/\x<=1000000000000)(O:p.length<=100000):Pur cx.P 235 [v] C fun u D=>PieC D u (iD p).toNat:=by
 obtain ⟨k,c0,rfl,_⟩:=id g;simp only [am] at g ⊢;refine Tk func235 43 U3 fun w0=>Tb 1 [0] Z<|Tb 1 [0,3] Z<|Tb 1 [0,3,4] Z<|Tb 1 [0,3,4,5] Z<|G.nilArr 3 1<|G.loop (fun fr B b c=>∃ (i:Nat)(o:Int)(out:List Nat)(w:Value),(out.length=i/\DigP out/\-1000000000000<=o/\o<=1000000000000/\iD (p.take i)=(bJ out:Nat)+(10000:Int) ^ i*o/\(p.length<=i->(i:Int)+o<=1000000100000))/\fr=[(0,[],.slice k p.length c0),(3,[],w),(4,[],.int .i64 o),(5,[],.int .i64 i)]/\b=[.arr w 3 1 i (out.map aS).flatten]/\c=(p.length-i)*4611686018427387904+o.natAbs) (hn_ [0,3,4,5] Z) ⟨0,0,[],_,⟨Z,(fun x J=>(by cases J)),by omega,by omega,by simp [iD,bJ],fun h=>by omega⟩,Z,Z,Z⟩ (fun fr Q S m _ d=>?_);obtain ⟨i,o,out,w,⟨e,l,T,U,n,E⟩,rfl,rfl,rfl⟩:=d;have q:p.length<=i->0<=o:=fun h=>by
  refine IB e l (V:=iD p) H ?_;rw [<- n,Qg h]
 have W:(i:Int)<=1000000100000:=by
  rcases P4 i p.length with h | h
  ·omega
  have:=q h;have:=E h;omega
 refine Tc 7 Z fun R a=>TN U8<|Th [0,3,4,5,14] a Z<|G.cd (fun r=>?_) fun r=>?_
 ·have s:i<p.length∨o≠0:=by
   simp at r;omega
  have X:-1000000000000<=gI p i/\gI p i<=1000000000000:=by
   rcases P4 i p.length with h | h
   ·exact I _ (Px (F7 h).2)
   rw [rW h];omega
  refine Tb 4 [0,3,4,5,20] Z<|G.cut (fun fr B b c=>(True)/\fr=[(0,[],.slice k p.length c0),(3,[],w),(4,[],.int .i64 (o+gI p i)),(5,[],.int .i64 i)]/\b=[.arr w 3 1 i (out.map aS).flatten]) ?_ (fun fr _ Y c _ d=>?_)
  ·refine G.cd (fun t=>?_) fun t=>?_
   ·have f:i<p.length:=by simpa using t
    refine Tc 3 Z fun R a=>Tt g.m_ U10 om_ (F7 f).1 fl_ fun aa K=>Td K U8<|Tm _ U7<|C6 1 [0,3,4,5] a Z<|Tr 0 (Mem.le.refl _) (hn_ [0,3,4,5] Z) ⟨trivial,Z,Z⟩
   have f:p.length<=i:=by
    have:¬ i<p.length:=by simpa using t
    omega
   rw [show o=o+gI p i by rw [rW f,Int.add_zero]];refine Tr 0 (Mem.le.refl _) (hn_ [0,3,4,5] Z) ⟨trivial,by rw [rW f];simp,Z⟩
  obtain ⟨_,rfl,rfl⟩:=d;refine Tc 1 Z fun R a=>VF (Int.tmod (o+gI p i) 10000) Z Z Z Z Z Z om_ Z Z Z<|C6 1 [0,3,4,5,6] a Z ?_;have y:=Ic (o+gI p i);have ab:-10000<=Int.tmod (o+gI p i) 10000/\Int.tmod (o+gI p i) 10000<10000:=by
   have:=SP (o+gI p i) (show (10000:Int)≠0 by decide);have:=Int.emod_lt_of_pos (o+gI p i) (show (0:Int)<10000 by decide);split at y <;> omega
  refine Tb 2 [0,3,4,5,6,30] Z<|G.cut (fun fr B b c=>(True)/\fr=[(0,[],.slice k p.length c0),(3,[],w),(4,[],.int .i64 (o+gI p i)),(5,[],.int .i64 i),(6,[],.int .i64 (((o+gI p i) % 10000).toNat:Nat))]/\b=[.arr w 3 1 i (out.map aS).flatten]) ?_ (fun fr _ ac c _ d=>?_)
  ·refine G.cd (fun z=>?_) fun z=>?_
   ·have A:Int.tmod (o+gI p i) 10000<0:=by simpa using z
    rw [aL A] at y;refine Tc 1 Z fun R a=>TL (((((o+gI p i) % 10000).toNat:Nat):Int)) U4 om_ om_ om_ U2<|C6 1 [0,3,4,5,6] a Z<|Tr 0 (Mem.le.refl _) (hn_ [0,3,4,5,6] Z) ⟨trivial,Z,Z⟩
   have A:¬ Int.tmod (o+gI p i) 10000<0:=by simpa using z
   rw [aF A] at y;rw [show Int.tmod (o+gI p i) 10000=((((o+gI p i) % 10000).toNat:Nat):Int) by omega];refine Tr 0 (Mem.le.refl _) (hn_ [0,3,4,5,6] Z) ⟨trivial,Z,Z⟩
  obtain ⟨_,rfl,rfl⟩:=d;refine Tc 2 Z fun R a=>Tz [aS (((o+gI p i) % 10000).toNat)] U12 fun ad _ _ L=>D.append (j:=0) U11 L Z ax (by show (i+1)*8<=_;omega) fl_ fun F=>C6 1 [0,3,4,5,6] a Z<|Tc 2 Z fun R a=>TL ((o+gI p i-(o+gI p i) % 10000)) U4 om_ om_ om_ U2<|Us ((o+gI p i-(o+gI p i) % 10000) / 10000) U6 om_ (EH _) (by rw [IntKind.wrap_i64];omega) U2<|C6 1 [0,3,4,5] a Z<|Tc 1 Z fun R a=>Tm _ U7<|C6 1 [0,3,4,5] a Z ?_;have hm:(p.length-(i+1))*4611686018427387904+((o+gI p i-(o+gI p i) % 10000) / 10000).natAbs<(p.length-i)*4611686018427387904+o.natAbs:=by
   rcases P4 i p.length with h2 | h2
   ·omega
   have h3:=q h2;rw [rW h2];omega
  refine Tu (L':=[.arr F 3 1 (i+1) ((out++[((o+gI p i) % 10000).toNat]).map aS).flatten]) (by simp [aS])<|Tp (m':=(p.length-(i+1))*4611686018427387904+((o+gI p i-(o+gI p i) % 10000) / 10000).natAbs) om_ mup (hn_ [0,3,4,5] Z) ⟨i+1,(o+gI p i-(o+gI p i) % 10000) / 10000,out++[((o+gI p i) % 10000).toNat],F,⟨by simp [e],l.snoc (by show ((o+gI p i) % 10000).toNat<10000;omega),by omega,by omega,by
   refine GU e ?_;rw [K2,n,SE];omega,fun h=>by
   rcases P4 i p.length with h2 | h2
   ·omega
   have h3:=q h2;have h4:=E h2;rw [rW h2] at *;omega⟩,rfl,rfl,rfl⟩
 have s:p.length<=i/\o=0:=by
  simp at r;omega
 refine TC [(1,3)] Z fun R a=>Te U6<|D.call (uu _ _ out e) Z (.inr dc_) U6 (PC _) fl_ (fun ae _ af _ M=>?_);obtain ⟨rfl,N⟩:=M;refine C6 1 [2] a Z<|Tl U2<|⟨Z,wP out,lV l, ?_,N⟩;rw [Qg s.1,s.2] at n;rw [ig];omega
theorem zz:∀ (l:List Int)(i:Nat)(x:Int),i<l.length->iD (l.set i x)=iD l+(10000:Int) ^ i*(x-gI l i)
 | [],i,x,h=>by simp at h
 | a::l,0,x,_=>by
  show x+10000*iD l=a+10000*iD l+1*(x-a);omega
 | a::l,i+1,x,h=>by
  have b:=zz l i x (by simpa using h);show a+10000*iD (l.set i x)=a+10000*iD l+(10000:Int) ^ (i+1)*(x-gI l i);rw [b,SE,<- Int.mul_assoc,Int.pow_succ,Int.mul_comm ((10000:Int) ^ i) 10000];omega
theorem DO (l:List Int):iD (l++[0])=iD l:=by rw [vc];omega
structure Joins (p q:List Nat)(k:Int)(i:Nat)(o:List Int):Prop where
 len:o.length=max p.length i
 val:iD o=(bJ p:Nat)+k*(bJ (q.take i):Nat)
 rest:∀ j,i<=j->gI o j=(gP p j:Nat)
 lim:∀ x∈o, -100000000<=x/\x<=100000000
theorem Oi (p:List Nat)(j:Nat):gI (p.map fun x:Nat=>(x:Int)) j=(gP p j:Nat):=by
 unfold gI gP;rw [ay,ay,PD];cases p[j]? <;> rfl
theorem yt (p q:List Nat)(k:Int)(a:DigP p):Joins p q k 0 (p.map fun x:Nat=>(x:Int)):=by
 refine ⟨by simp,by rw [zA];simp [bJ],fun j _=>Oi p j,fun x b=>?_⟩;obtain ⟨y,hy,rfl⟩:=PF.1 b;have:y<10000:=a y hy;omega
theorem Joins.zero {p:List Nat}{k:Int}(h:Joins p q k i o)(c:o.length<=i):iD (o++[0])=(bJ p:Nat)+k*(bJ (q.take i):Nat)/\(∀ j,i<=j->gI (o++[0]) j=(gP p j:Nat))/\(∀ x∈o++[0], -100000000<=x/\x<=100000000):=by
 refine ⟨by rw [DO,h.val],fun j a=>?_,fun x b=>?_⟩
 ·have h1:=h.rest j a;have h2:gI o j=0:=by unfold gI;rw [ay,PJ om_];rfl
  rw [<- h1,h2];unfold gI;rw [ay,PX om_];cases j-o.length <;> rfl
 rcases PQ.1 b with h1 | h1
 ·exact h.lim x h1
 simp at h1;subst h1;omega
theorem F6 {x:Int}(h:i≠j):gI (o.set i x) j=gI o j:=by
 unfold gI;rw [ay,ay,SS h]
theorem CH {p:List Nat}{k:Int}{y:Nat}(d:DigP p)(f:DigP q)(a:-9999<=k/\k<=9999)(b:q[i]?=some y)(g:o.length=max p.length (i+1))
  (h:iD o=(bJ p:Nat)+k*(bJ (q.take i):Nat)) (c:∀ j,i<=j->gI o j=(gP p j:Nat)) (l:∀ x∈o, -100000000<=x/\x<=100000000) :
  Joins p q k (i+1) (o.set i (gI o i+k*(y:Nat))):=by
 have n:y<10000:=f y (Px b);have r:gP p i<10000:=F5 d i;have s:-99980001<=k*(y:Int)/\k*(y:Int)<=99980001:=by
  have h0:(0:Int)<=y:=by omega
  have h1:k*(y:Int)<=9999*(y:Int):=RK a.2 h0;have h2:(-9999:Int)*(y:Int)<=k*(y:Int):=RK a.1 h0;omega
 refine ⟨by rw [Qf];exact g, ?_,fun j t=>?_,fun x m=>?_⟩
 ·rw [zz o i _ om_,h,iC b];have e:((bJ (q.take i)+BP ^ i*y:Nat):Int)=(bJ (q.take i):Nat)+(10000:Int) ^ i*(y:Int):=by
   rw [Sb,Qe,Int.natCast_pow];rfl
  rw [e,SE,show gI o i+k*(y:Int)-gI o i=k*(y:Int) by omega,Int.mul_left_comm];omega
 ·rw [F6 om_];exact c j om_
 rcases Qx m with h1 | h1
 ·exact l x h1
 subst h1;rw [c i (Py _)];omega
theorem AZ (h:k<p.length):p[k]?=some (gI p k):=by
 unfold gI;rw [ay,al h];rfl
theorem mT (h:BL l)(a:bJ l<BP ^ m):l.length<=m:=by
 apply P1;intro b;have h1:=uE h om_;have h2:BP ^ m<=BP ^ (l.length-1):=PZ dc_ om_;omega
theorem uk (x:Int):(pS x).length=1:=rfl
theorem fk (x:Nat):(aS x).length=1:=rfl
theorem GV (C:Mem)(v:Value)(p:List Int)(b:p.length=n)(c:0<=iD p)(d:∀ x∈p, -1000000000000<=x/\x<=1000000000000)(e:p.length<=100000):Jog.Fn cx.P 235 [v] C [.arr v 3 1 n (p.map pS).flatten] fun u a f=>f=[]/\PieC a u (iD p).toNat :=
 Jog.Fn.give (p.map pS) kr_ (by intro r hr;obtain ⟨y,_,rfl⟩:=PF.1 hr;rfl) (by rw [am,b]) (fun a _ hs=>JE a v p hs c d e)
theorem wo (C:Mem)(J K:Value)(p q:List Nat)(k:Int)(W:Sl C 1 J (p.map aS))(f:Sl C 1 K (q.map aS))(L:DigP p)(M:DigP q)(g:-9999<=k/\k<=9999)(X:0<=(bJ p:Int)+k*(bJ q:Int))(aq:p.length<=50000)(ar:q.length<=50000) :
  Pur cx.P 175 [J,K,.int .i64 k,.int .i64 0] C fun u D=>PieC D u ((bJ p:Int)+k*(bJ q:Int)).toNat:=by
 obtain ⟨N,c0,rfl,_⟩:=id f;simp only [am] at f ⊢;refine Tk func175 45 U3 fun w0=>Tb 1 [0,1,2,3] Z<|Tf fun R b=>Un [] U12 fl_ fun au=>Te U6<|D.append (j:=0) U11 W (by rw [PT];intro r hr;obtain ⟨y,_,rfl⟩:=PF.1 hr;rfl) (by rw [am];simp only [P6,maxLen];omega) (by rw [am];show (0+p.length)*8<=_;omega) fl_ fun Y=>C6 1 [1,2,3,9] b Z<|Tb 1 [1,2,3,9,10] Z<|Tu (L':=[.arr Y 3 1 (p.map fun x:Nat=>(x:Int)).length (((p.map fun x:Nat=>(x:Int)).map pS).flatten)]) (by rw [Qv];simp;rfl)<|G.loop (fun fr C' d n=>∃ (i:Nat)(o:List Int)(w:Value),(i<=q.length/\Joins p q k i o)/\fr=[(1,[],.slice N q.length c0),(2,[],.int .i64 k),(3,[],.int .i64 0),(9,[],w),(10,[],.int .i64 i)]/\d=[.arr w 3 1 o.length (o.map pS).flatten]/\n=q.length-i) (hn_ [1,2,3,9,10] Z) ⟨0,_,_,⟨PG _,yt p q k L⟩,Z,Z,Z⟩ (fun fr av aw m _ z=>?_);obtain ⟨i,o,w,⟨hi,c⟩,rfl,rfl,rfl⟩:=z;refine Tb 4 [1,2,3,9,10,17] Z<|G.cd (fun A=>?_) fun A=>?_
 ·have B:i<q.length:=by simpa using A
  have ay:=c.len;refine G.loop (fun fr C' d n=>∃ (a:List Int)(E:Value),((a=o∨(a=o++[0]/\o.length<=i)))/\fr=[(1,[],.slice N q.length c0),(2,[],.int .i64 k),(3,[],.int .i64 0),(9,[],E),(10,[],.int .i64 i)]/\d=[.arr E 3 1 a.length (a.map pS).flatten]/\n=i+1-a.length) (hn_ [1,2,3,9,10] Z) ⟨o,w,.inl Z,Z,Z,Z⟩ (fun fr az aA m _ z=>?_);obtain ⟨a,E,F,rfl,rfl,rfl⟩:=z;refine VQ 0 Z (fun Aw O he=>?_);subst he;have aB:a.length<=50002:=by
   have h1:a.length<=o.length+1:=by
    have h2:=F.imp (fun e=>congrArg List.length e) (fun e=>congrArg List.length e.1);rw [PH,ba] at h2;omega
   omega
  refine Tc 4 Z fun R b=>TL (((i:Nat):Int)) U4 om_ om_ om_ U2<|C6 1 [1,2,3,9,10,25] b Z<|G.cd (fun H=>?_) fun H=>?_
  ·have Q:a.length<=i:=by
    have:(a.length:Int)<=i:=by simpa using H
    omega
   have aa:a=o:=by
    refine F.elim id fun h=>?_;have:=h.1 ▸ Q;rw [PH,ba] at this;omega
   subst aa;refine Tc 1 Z fun R b=>Tz [pS 0] U12 fun aC _ _ ab=>D.append (j:=0) U11 ab Z ax (by show (a.length+1)*8<=_;omega) fl_ fun S=>C6 1 [1,2,3,9,10] b Z<|Tu (L':=[.arr S 3 1 (a++[0]).length ((a++[0]).map pS).flatten]) (by simp [pS]) ?_;have aD:i+1-(a++[0]).length<i+1-a.length:=by rw [PH,ba];omega
   refine Tp (m':=i+1-(a++[0]).length) om_ mup (hn_ [1,2,3,9,10] Z) ⟨a++[0],S,.inr ⟨Z,Q⟩,Z,Z,Z⟩
  have I:i<a.length:=by
   have:¬ (a.length:Int)<=i:=by simpa using H
   omega
  have ac:a.length=max p.length (i+1)/\iD a=(bJ p:Nat)+k*(bJ (q.take i):Nat)/\(∀ j,i<=j->gI a j=(gP p j:Nat))/\(∀ x∈a, -100000000<=x/\x<=100000000):=by
   refine F.elim (fun h=>?_) fun h=>?_
   ·subst h;exact ⟨by omega,c.val,c.rest,c.lim⟩
   obtain ⟨h1,h2⟩:=h;subst h1;have h3:=c.zero h2;exact ⟨by rw [PH,ba];omega,h3⟩
  obtain ⟨ad,ae,af,T⟩:=ac;obtain ⟨ah,ai⟩:=pJ (l:=q) (k:=i) B;have aE:gP q i<10000:=F5 M i;have aF:-99980001<=k*((gP q i:Nat):Int)/\k*((gP q i:Nat):Int)<=99980001:=by
   have h0:(0:Int)<=((gP q i:Nat):Int):=by omega
   have h1:k*((gP q i:Nat):Int)<=9999*((gP q i:Nat):Int):=RK g.2 h0;have h2:(-9999:Int)*((gP q i:Nat):Int)<=k*((gP q i:Nat):Int):=RK g.1 h0;omega
  have aG:=T _ (Px (AZ I));refine Vs 0 (m:=a.length-1) (v:=.slice Aw a.length O) (t:=3) (s:=1) (xs:=(a.map pS).flatten) (by rw [show a.length-1+1=a.length by omega];rfl) (fun g0 cc ak=>?_);injection ak with al aH an;subst al an;refine Tx [0,1,2,3,4,5,6,7,8,9,10,11,12,13,14] [] Z kr_ fun R hB b=>Tg 3 Z<|TL (((i:Nat):Int)) U4 om_ om_ om_ U2<|TE (i*1) U10 aj U2<|TZ ag U6 (fun _=>(by rw [eA uk (AZ I)];rfl)) U2<|Tg 3 Z<|Tt f.m_ U10 om_ ah fl_ fun aI ao=>Td ao U8<|Tm _ U7<|Tm _ U7<|TE (i*1) U10 aj U2<|TJ (j:=0) U11 (by show i*1+1<=_;rw [bP uk];omega)<|Th [1,2,3,9,10] b Z<|Tc 1 Z fun R b=>Tm _ U7<|C6 1 [1,2,3,9,10] b Z<|Tu (L':=[.arr (.slice (some ⟨g0,0,none⟩) a.length O) 3 1 (a.set i (gI a i+k*((gP q i:Nat):Int))).length ((a.set i (gI a i+k*((gP q i:Nat):Int))).map pS).flatten]) (by rw [<- bK uk _ I,Qf];rfl)<|Tp (m':=q.length-(i+1)) om_ mup (hn_ [1,2,3,9,10] Z) ⟨i+1,_,_,⟨by omega,CH L M g ai ad ae af T⟩,Z,Z,Z⟩
 have B:i=q.length:=by
  have:¬ i<q.length:=by simpa using A
  omega
 have U:iD o=(bJ p:Int)+k*(bJ q:Int):=by rw [c.val,B,PO]
 refine TC [(1,3)] Z fun R b=>Te U6<|D.call (GV _ _ o Z (by rw [U];exact X) (fun x hx=>by have:=c.lim x hx;omega) (by have:=c.len;omega)) Z (.inr dc_) U6 (PC _) fl_ (fun aJ _ aK _ ap=>?_);obtain ⟨rfl,V⟩:=ap;refine C6 1 [8] b Z<|Tl U2 ?_;rw [U] at V;exact ⟨Z,V⟩
theorem Nh (n:Nat):kf ([.int .i64 0]:List Value) n=((List.replicate n 0).map aS).flatten:=by
 rw [eS,Sd];rfl
theorem uZ (h:j<l.length):bJ (l.drop j)=gP l j+BP*bJ (l.drop (j+1)):=by
 rw [PW h,(aJ.1 (pJ h).2).2];rfl
theorem sY (h:j<l.length):bJ ((l.set j x).drop j)=x+BP*bJ (l.drop (j+1)):=by
 rw [uZ (by rw [Qf];exact h),List.drop_set_of_lt om_];congr 1;unfold gP;rw [ay,SF h];rfl
theorem Jn (h:DigP l)(a:x<BP):DigP (l.set j x):=fun y hy=>by
 rcases Qx hy with h1 | h1
 ·exact h y h1
 rw [h1];exact a
theorem AD (C:Mem)(O Q:Value)(p q:List Nat)(v:Sl C 1 O (p.map aS))(g:Sl C 1 Q (q.map aS))(ai:DigP p)(w:BL q)(i:0<bJ q)(aH:p.length<=10000)(aI:q.length<=10000) :
  Pur cx.P 230 [O,Q] C fun u D=>∃ u1 S,u=.tuple #[u1,S]/\PieC D u1 (bJ p / bJ q)/\PieC D S (bJ p % bJ q):=by
 obtain ⟨T,c0,rfl,_⟩:=id v;obtain ⟨U,V,rfl,_⟩:=id g;simp only [am] at v g ⊢;refine Tk func230 58 U3 fun w0=>Tb 2 [0,1] Z<|Tc 2 Z fun R b=>Um U9 (Py _) (by show 8*p.length<=281474976710656;omega) (by simp only [maxLen];omega) fl_ fun d=>C6 1 [0,1,6] b Z<|Tb 1 [0,1,6,7] Z<|Tc 2 Z fun R b=>Tm _ U7<|C6 1 [0,1,6,7,8] b Z<|Tu (L':=[.arr (qW d p.length p.length) 3 1 p.length ((List.replicate p.length 0).map aS).flatten]) (by rw [<- Nh];rfl)<|G.loop (fun fr W e z=>∃ (k:Nat)(o l:List Nat)(A:Value),(k<=p.length/\o.length=p.length/\DigP o/\bJ (o.drop k)=bJ (p.drop k) / bJ q/\Sl W 1 A (l.map aS)/\BL l/\bJ l=bJ (p.drop k) % bJ q)/\fr=[(0,[],.slice T p.length c0),(1,[],.slice U q.length V),(6,[],qW d p.length p.length),(7,[],A),(8,[],.int .i64 ((k:Int)-1))]/\e=[.arr (qW d p.length p.length) 3 1 p.length (o.map aS).flatten]/\z=k+1) (hn_ [0,1,6,7,8] Z) ⟨p.length,List.replicate p.length 0,[],.slice none 0 0,⟨Py _,P9,(fun x c=>by rw [RC c];decide),by rw [QA,Sh ap];simp [bJ],Sl.nil _ _,⟨fun x c=>(by cases c),by simp⟩,by rw [QA];simp [bJ]⟩,Z,Z,Z⟩ (fun fr aJ aK m _ B=>?_);obtain ⟨k,o,l,A,⟨hk,X,Y,aa,hs,E,F⟩,rfl,rfl,rfl⟩:=B;refine Tb 2 [0,1,6,7,8,19] Z<|G.cd (fun H=>?_) fun H=>?_
 ·have ab:0<k:=by
   have:(0:Int)<=(k:Int)-1:=by simpa using H
   omega
  obtain ⟨j,rfl⟩:∃ j,k=j+1:=⟨k-1,by omega⟩;rw [show ((j+1:Nat):Int)-1=(j:Int) by omega];obtain ⟨ak,aL⟩:=pJ (l:=p) (k:=j) om_;have c:gP p j<BP:=F5 ai j;have aM:gP p j<10000:=c;have aN:l.length<=q.length:=mT E (by rw [F];exact RJ (P2 _ i) (mg w.1));have al:DigP (gP p j::l):=fun y hy=>by
   rcases PN.1 hy with h | h
   ·rw [h];exact c
   exact E.1 y h
  refine TC [(7,3)] Z fun R b=>Tg 2 Z<|Tt v.m_ U10 om_ ak fl_ fun aO an=>Td an U8<|Un [aS (gP p j)] U12 fl_ fun aP=>Te U6<|D.append (j:=0) U11 hs.m_ (by rw [PT];intro r hr;obtain ⟨y,_,rfl⟩:=PF.1 hr;rfl) (by rw [am];simp only [ba,maxLen];omega) (by rw [am];show (1+l.length)*8<=_;omega) fl_ fun aQ=>D.call (uu _ _ (gP p j::l) (n:=1+(l.map aS).length) (by rw [am];simp;omega)) Z (.inr dc_) U6 (PC _) fl_ (fun ac ao aR _ aq=>?_);obtain ⟨rfl,I⟩:=aq;refine C6 1 [0,1,6,7,8] b Z ?_;obtain ⟨r,ad,J,ae,aT⟩:∃ r,BL r/\bJ r=gP p j+BP*(bJ (p.drop (j+1)) % bJ q)/\Sl ao 1 ac (r.map aS)/\r.length<=20000:=⟨wP (gP p j::l),lV al,by rw [ig];show gP p j+BP*bJ l=_;rw [F],I,by unfold wP;rw [PM,PR];omega⟩;have K:=Gk (t:=bJ (p.drop (j+1))) (x:=gP p j) i;rw [<- uZ om_,<- J] at K;have ar:bJ r / bJ q<BP:=by rw [J];exact wK i c
  have aU:bJ r / bJ q<10000:=ar;refine Tb 2 [0,1,6,7,8,9,10] Z<|G.loop (fun fr W e z=>∃ (low a:Nat),(low<=bJ r / bJ q/\bJ r / bJ q<=a/\a<=9999)/\fr=[(0,[],.slice T p.length c0),(1,[],.slice U q.length V),(6,[],qW d p.length p.length),(7,[],ac),(8,[],.int .i64 j),(9,[],.int .i64 low),(10,[],.int .i64 a)]/\e=[.arr (qW d p.length p.length) 3 1 p.length (o.map aS).flatten]/\z=a-low) (hn_ [0,1,6,7,8,9,10] Z) ⟨0,9999,⟨PG _,by omega,Py _⟩,Z,Z,Z⟩ (fun fr aV aW m _ B=>?_);obtain ⟨low,a,⟨au,av,aw⟩,rfl,rfl,rfl⟩:=B;refine Tb 3 [0,1,6,7,8,9,10,32] Z<|G.cd (fun L=>?_) fun L=>?_
  ·have s:low<a:=by simpa using L
   obtain ⟨ax,ay⟩:=Mr i au av s;refine Tc 2 Z fun R b=>Tm _ U7<|Tm _ U7<|Us ((((low+a+1) / 2:Nat):Int)) U6 om_ (by rw [R0 om_];omega) (by rw [IntKind.wrap_i64];omega) U2<|C6 1 [0,1,6,7,8,9,10,11] b Z<|Tc 3 Z fun R b=>TG (wo _ _ _ [] q ((((low+a+1) / 2:Nat):Int)) (Sl.nil _ _) g.m_ (fun x c=>(by cases c)) w.1 om_ (by rw [<- Qe];omega) ap om_) U7 fl_ (fun aX _ _ az=>?_);obtain ⟨l2,aA,aB,aC⟩:=az;have af:bJ l2=bJ q*((low+a+1) / 2):=by
    have h0:((bJ ([]:List Nat):Nat):Int)=0:=rfl;rw [aB,h0,Int.zero_add,<- Qe,Rk,Qk]
   refine To (Iw _ _ _ r l2 ae.m_ aC.m_ ad aA) U7<|Th [0,1,6,7,8,9,10,11,42] b Z<|G.cd (fun M=>?_) fun M=>?_
   ·have N:bJ r<bJ q*((low+a+1) / 2):=by
     rw [<- af];simpa using M
    have f:=ax N;refine Tc 1 Z fun R b=>Tm _ U7<|C6 1 [0,1,6,7,8,9,10] b Z ?_;rw [show ((((low+a+1) / 2:Nat):Int))-1=(((low+a+1) / 2-1:Nat):Int) by omega];refine Tp (m':=(low+a+1) / 2-1-low) om_ mup (hn_ [0,1,6,7,8,9,10] Z) ⟨low,(low+a+1) / 2-1,⟨f.1,f.2,by omega⟩,Z,Z,Z⟩
   have N:¬ bJ r<bJ q*((low+a+1) / 2):=by
    rw [<- af];simpa using M
   have f:=ay N;refine Tb 2 [0,1,6,7,8,9,10] Z<|Tp (m':=a-(low+a+1) / 2) om_ mup (hn_ [0,1,6,7,8,9,10] Z) ⟨(low+a+1) / 2,a,⟨f.1,f.2,aw⟩,Z,Z,Z⟩
  have s:low=bJ r / bJ q:=by
   have:¬ low<a:=by simpa using L
   omega
  have ag:((bJ r:Nat):Int) + -(low:Int)*((bJ q:Nat):Int)=((bJ r % bJ q:Nat):Int):=by
   have h1:=Sa (bJ r) (bJ q);rw [<- s] at h1;have h2:((bJ q*low+bJ r % bJ q:Nat):Int)=(bJ r:Nat):=by rw [h1]
   rw [Sb,Qe] at h2;rw [Int.neg_mul,Int.mul_comm (low:Int)];omega
  refine Tc 3 Z fun R b=>TE (j*1) U10 aj U2<|TJ (j:=0) U11 (by show j*1+1<=_;rw [bP fk];omega)<|Th [0,1,6,7,8,9] b Z<|Tc 4 Z fun R b=>?_;rw [show IntKind.i64.wrap (0-(low:Int))=-(low:Int) by rw [IntKind.wrap_i64];omega];refine TG (wo _ _ _ r q (-(low:Int)) ae.m_ g.m_ ad.1 w.1 om_ (by rw [ag];omega) om_ om_) U7 fl_ (fun aY _ _ aD=>?_);obtain ⟨l3,aE,ah,aF⟩:=aD;rw [ag,Rk] at ah;refine C6 1 [0,1,6,7,8] b Z<|Tc 1 Z fun R b=>Tm _ U7<|C6 1 [0,1,6,7,8] b Z<|Tu (L':=[.arr (qW d p.length p.length) 3 1 p.length ((o.set j low).map aS).flatten]) (by rw [<- bK fk _ (by omega:j<o.length)];rfl)<|Tp (m':=j+1) om_ mup (hn_ [0,1,6,7,8] Z) ⟨j,o.set j low,l3,_,⟨by omega,by rw [Qf];exact X,Jn Y (by show low<BP;omega),by rw [sY om_,aa,K.1,s];omega,aF.mono mup,aE,by rw [ah,K.2,J]⟩,Z,Z,Z⟩
 have ab:k=0:=by
  have:¬ (0:Int)<=(k:Int)-1:=by simpa using H
  omega
 subst ab;refine TC [(1,3)] Z fun R b=>Te U6<|D.call (uu _ _ o X) Z (.inr dc_) U6 (PC _) fl_ (fun aZ _ a0 _ aG=>?_);obtain ⟨rfl,I⟩:=aG;refine C6 3 [4,5] b Z<|Tn (G.dropAll (TD U3 ?_));exact ⟨Z,_,_,Z,⟨wP o,lV Y,by rw [ig,<- QO (l:=o),aa,QO],I⟩,⟨l,E,by rw [F,QO],hs.mono mup⟩⟩
theorem dJ (z:Int):cI 45 (txt z)=(bk z.natAbs,decide (z<0)):=by
 unfold txt;split
 ·rename_i h;rw [PV h];rfl
 rename_i h;rw [P7 h];unfold cI;rw [aF];intro h0;have h1:=(bA z.natAbs).1.1 45 (List.mem_of_mem_head? h0);revert h1;decide
theorem zB (z:Int):txt z=[48] ↔ z=0:=by
 constructor
 ·intro h;have h1:(cI 45 (txt z)).1=[48]:=by rw [h];rfl
  rw [dJ] at h1;have h2:=(bA z.natAbs).2;have h3:bk z.natAbs=[48]:=h1;rw [h3] at h2;have h4:bU [48]=0:=rfl;omega
 rintro rfl;unfold txt;rw [aF om_,show bk (0:Int).natAbs=bk 0 from rfl,bk];rfl
theorem kS (z:Int):((⟨(txt z).toArray⟩:ByteArray).data.toList == (⟨#[48]⟩:ByteArray).data.toList)=decide (z=0):=by
 show (txt z == [48])=_;rw [Ot,Qo];exact zB z
theorem de (n:Nat):txt (n:Int)=bk n:=by
 unfold txt;rw [aF om_];rfl
theorem fw (C:Mem)(z:Int):Gives cx.P 172 [ah (txt z)] C (.tuple #[.bool (decide (z<0)),ah (bk z.natAbs)]):=by
 have h:=split_fn C (txt z)
 rwa [dJ] at h
theorem Gv {c:UInt8}(h:s[i]?=some c):bU (s.take (i+1))=10*bU (s.take i)+(c.toNat-48):=by
 rw [Gw h];omega
theorem wN (a:∀ c∈s,eO c=true)(d:s.length<=17)(i:Nat):bU (s.take i)<100000000000000000:=by
 have h1:=dS (s:=s.take i) (fun c b=>a c (QR b));have h2:10 ^ (s.take i).length<=10 ^ 17:=PZ dc_ (by rw [PM];omega);omega
theorem HP (C:Mem)(z:Int)(b:(bk z.natAbs).length<=17):Gives cx.P 177 [ah (txt z)] C (.tuple #[.int .i64 z,.bool true]):=by
 obtain ⟨s,k⟩:∃ s,bk z.natAbs=s:=⟨_,rfl⟩;have hs:=(bA z.natAbs).1.1;have d:=(bA z.natAbs).2;rw [k] at b hs d;refine Tk func177 45 U3 fun w0=>Tb 2 [0] Z<|Tc 1 Z fun R a=>Ts (by have h:=fw C z;rw [k] at h;exact h) U7 fl_<|C6 5 [4,5] a Z<|Tb 3 [4,5,16] Z<|G.cd (fun l=>?_) fun l=>?_
 ·exfalso;have:(s.length:Int) > 19:=by simpa using l
  omega
 refine Tb 1 [4,5,6] Z<|Tb 1 [4,5,6,7] Z<|G.loop (fun fr w p q=>∃ (i:Nat),(i<=s.length)/\fr=[(4,[],.bool (decide (z<0))),(5,[],ah s),(6,[],.int .i64 (-((bU (s.take i):Nat):Int))),(7,[],.int .i64 i)]/\p=[]/\q=s.length-i) (hn_ [4,5,6,7] Z) ⟨0,PG _,Z,Z,Z⟩ (fun fr x y m _ r=>?_);obtain ⟨i,A,rfl,rfl,rfl⟩:=r;refine Tb 4 [4,5,6,7,20] Z<|G.cd (fun e=>?_) fun e=>?_
 ·have f:i<s.length:=by simpa using e
  obtain ⟨c,g⟩:∃ c,s[i]?=some c:=⟨s[i],al f⟩;have t:=hs c (Px g);have B:48<=c.toNat/\c.toNat<=57:=by simpa [eO] using t
  have D:=wN hs b i;have u:(-9223372036854775808+(((c.toNat:Nat):Int)-48)).tdiv 10=-((9223372036854775808-(((c.toNat:Nat):Int)-48)) / 10):=by
   rw [show (-9223372036854775808+(((c.toNat:Nat):Int)-48))=-(9223372036854775808-(((c.toNat:Nat):Int)-48)) by omega,Int.neg_tdiv,R0 om_]
  refine Tc 2 Z fun R a=>Ue U8 (fun _=>⟨by omega,g⟩) U2<|TR (c:=((c.toNat:Nat):Int)) U8 (by rw [IntKind.wrap_i64];omega) fl_<|Tm _ U7<|C6 1 [4,5,6,7,8] a Z<|Tc 2 Z fun R a=>Tm _ U7<|Us (-((9223372036854775808-(((c.toNat:Nat):Int)-48)) / 10)) U6 om_ u (by rw [IntKind.wrap_i64];omega) U2<|C6 1 [4,5,6,7,8,32] a Z<|G.cd (fun n=>?_) fun n=>?_
  ·exfalso;simp only [PI] at n;omega
  refine Tc 1 Z fun R a=>Tm _ U7<|Te U6<|Tm _ U7<|C6 1 [4,5,6,7] a Z<|Tc 1 Z fun R a=>Tm _ U7<|C6 1 [4,5,6,7] a Z ?_;rw [show 10 * -((bU (s.take i):Nat):Int)-(((c.toNat:Nat):Int)-48)=-((bU (s.take (i+1)):Nat):Int) by rw [Gv g];omega];refine Tp (m':=s.length-(i+1)) om_ mup (hn_ [4,5,6,7] Z) ⟨i+1,om_,Z,Z,Z⟩
 have f:i=s.length:=by
  have:¬ i<s.length:=by simpa using e
  omega
 rw [f,PO,d];refine Tb 2 [6,37] Z<|G.cd (fun j=>?_) fun j=>?_
 ·have v:z<0:=by simpa using j
  refine Tb 3 [2,3] Z<|Tn (G.dropAll (TD U3 ?_));refine ⟨?_,Z⟩;rw [show -((z.natAbs:Nat):Int)=z by omega]
 have v:¬ z<0:=by simpa using j
 have E:z.natAbs<100000000000000000:=by
  have:=wN hs b s.length
  rwa [PO,d] at this
 refine Tb 3 [6,40] Z<|G.cd (fun o=>?_) fun o=>?_
 ·exfalso;simp at o;omega
 refine Tb 4 [2,3] Z<|Tn (G.dropAll (TD U3 ?_));refine ⟨?_,Z⟩;rw [show IntKind.i64.wrap (0 - -((z.natAbs:Nat):Int))=z by rw [IntKind.wrap_i64];omega]
theorem Bz (C:Mem)(z:Int):Gives cx.P 171 [ah (txt z)] C (.tuple #[.int .i64 (if (bk z.natAbs).length<=17 then z else 0),.bool (decide ((bk z.natAbs).length<=17))]):=by
 refine Tk func171 18 U3 fun w0=>Tb 2 [0] Z<|Tc 1 Z fun R b=>To (fw C z) U7<|C6 5 [0,5] b Z<|Tb 3 [0,13] Z<|G.cd (fun c=>?_) fun c=>?_
 ·have a:¬ (bk z.natAbs).length<=17:=by
   have:((bk z.natAbs).length:Int) > 17:=by simpa using c
   omega
  refine Tb 2 [2,3] Z<|Tn (G.dropAll (TD U3 ?_));rw [aF a,P7 a];exact ⟨Z,Z⟩
 have a:(bk z.natAbs).length<=17:=by
  have:¬ ((bk z.natAbs).length:Int) > 17:=by simpa using c
  omega
 refine Tc 1 Z fun R b=>To (HP _ z a) U7<|C6 4 [2,3] b Z<|Tn (G.dropAll (TD U3 ?_));rw [aL a,PV a];exact ⟨Z,Z⟩
theorem lg (C:Mem)(a:Tabs C)(z:Int)(b:-9223372036854775808<=z)(c:z<=9223372036854775807):Gives cx.P 106 [.int .i64 z] C (ah (txt z)):=by
 exact Tk func106 5 U3 fun w0=>Tb 1 [0] Z<|Tc 1 Z fun R d=>To (iZ _ a z b c) U7<|C6 1 [2] d Z<|Tl U2<|⟨Z,Z⟩
theorem xM (C:Mem)(z:Int):Gives cx.P 165 [ah (txt z)] C (.int .i64 (if z<0 then -1 else if z=0 then 0 else 1)):=by
 refine Tk func165 13 U3 fun w0=>Tb 1 [0] Z<|Tc 1 Z fun R e=>To (fw C z) U7<|C6 5 [0,3] e Z<|Tb 1 [0,10] Z<|G.cd (fun b=>?_) fun b=>?_
 ·have c:z<0:=by simpa using b
  refine Tb 1 [2] Z<|Tl U2 ?_;rw [aL c];exact ⟨Z,Z⟩
 have c:¬ z<0:=by simpa using b
 rw [aF c];refine Tb 2 [12] Z<|G.cd (fun a=>?_) fun a=>?_
 ·rw [kS] at a;have d:z=0:=by simpa using a
  refine Tb 1 [2] Z<|Tl U2 ?_;rw [aL d];exact ⟨Z,Z⟩
 rw [kS] at a;have d:¬ z=0:=by simpa using a
 refine Tb 1 [2] Z<|Tl U2 ?_;rw [aF d];exact ⟨Z,Z⟩
theorem rL (C:Mem)(z:Int)(d:(bk z.natAbs).length<=1000000):Gives cx.P 166 [ah (txt z)] C (ah (txt (-z))):=by
 refine Tk func166 18 U3 fun w0=>Tb 1 [0] Z<|Tc 1 Z fun R a=>To (fw C z) U7<|C6 5 [0,3,4] a Z<|Tc 4 Z fun R a=>TN U8<|Th [4,14] a Z<|G.cd (fun b=>?_) fun b=>?_
 ·rw [kS] at b;have c:z<=0:=by simp at b;omega
  refine Tb 2 [2] Z<|Tl U2<|⟨?_,Z⟩;rw [show txt (-z)=bk z.natAbs by rw [show -z=((z.natAbs:Nat):Int) by omega,de]]
 rw [kS] at b;have c:0<z:=by simp at b;omega
 refine Tc 1 Z fun R a=>Uh U6 (fun _=>(by simp only [PR,P6];omega)) U2<|C6 1 [2] a Z<|Tl U2<|⟨?_,Z⟩;rw [show txt (-z)=45::bk z.natAbs by unfold txt;rw [aL om_];congr 2;omega];rfl
theorem sI (C:Mem)(z:Int):Gives cx.P 229 [ah (txt z)] C (ah (bk z.natAbs)):=by
 exact Tk func229 11 U3 fun w0=>Tb 1 [0] Z<|Tc 1 Z fun R a=>To (fw C z) U7<|C6 5 [4] a Z<|Tb 2 [2] Z<|Tl U2<|⟨Z,Z⟩
theorem Pz:BP ^ 200=10 ^ 800:=by decide +kernel
theorem gA (h:n<BP ^ 200):(bk n).length<=800:=eE (by rw [<- Pz];exact h) om_
theorem PieC.take {D:Mem}{u:Value}(h:PieC D u n)(a:n<BP ^ 201):∃ l,BL l/\bJ l=n/\l.length<=201/\Sl D 1 u (l.map aS):=by
 obtain ⟨l,h1,h2,h3⟩:=h;exact ⟨l,h1,h2,mT h1 (by rw [h2];exact a),h3⟩
theorem nJ (C:Mem)(n:Nat)(h:n<BP ^ 200):Pur cx.P 173 [ah (bk n)] C fun u D=>∃ l,BL l/\bJ l=n/\l.length<=200/\Sl D 1 u (l.map aS) :=
 (K8 C (bk n) (bA n).1.1 (by have:=gA h;omega)).mono fun u D _ _ ⟨h0,l,h1,h2,h3⟩=>⟨h0,l,h1,by rw [h2,(bA n).2],mT h1 (by rw [h2,(bA n).2];exact h),h3⟩
theorem OJ:BP ^ 200+BP ^ 200<BP ^ 201:=by decide +kernel
theorem By (h:(bk z.natAbs).length<=17):z.natAbs<100000000000000000:=by
 have h1:=dS (bA z.natAbs).1.1;rw [(bA z.natAbs).2] at h1;have h2:10 ^ (bk z.natAbs).length<=10 ^ 17:=PZ dc_ h;omega
theorem Li (h:decide (z<0)=decide (w<0)):sgZ (decide (z<0)) (z.natAbs+w.natAbs)=z+w:=by
 rw [Qo] at h;unfold sgZ;by_cases a:z<0
 ·have:=h.1 a;rw [PV a,aL rfl];omega
 have:¬ w<0:=fun h1=>a (h.2 h1);rw [P7 a,aF ap];omega
theorem Lj (h:decide (z<0)≠decide (w<0))(b:¬ z.natAbs<w.natAbs):sgZ (decide (z<0)) (z.natAbs-w.natAbs)=z+w:=by
 rw [ne_eq,Qo] at h;unfold sgZ;by_cases a:z<0
 ·have:¬ w<0:=fun h1=>h ⟨fun _=>h1,fun _=>a⟩;rw [PV a,aL rfl];omega
 have:w<0:=P1 fun h1=>h ⟨fun h2=>absurd h2 a,fun h2=>absurd h2 h1⟩;rw [P7 a,aF ap];omega
theorem oG (C:Mem)(n:Nat):Gives cx.P 172 [ah (bk n)] C (.tuple #[.bool false,ah (bk n)]):=by
 have h:=fw C (n:Int);rw [de,P7 om_] at h;exact h
theorem qo (C:Mem)(n:Nat):Gives cx.P 171 [ah (bk n)] C (.tuple #[.int .i64 (if (bk n).length<=17 then (n:Int) else 0),.bool (decide ((bk n).length<=17))]):=by
 have h:=Bz C (n:Int);rw [de] at h;exact h
theorem qq (h:(bk n).length<=17):n<100000000000000000:=By (z:=(n:Int)) h
theorem Fa (C:Mem)(a:Tabs C)(n:Nat)(h:n<=9223372036854775807):Gives cx.P 106 [.int .i64 n] C (ah (bk n)):=by
 have h:=lg C a (n:Int) om_ om_
 rwa [de] at h
theorem tT (C:Mem)(a:Tabs C)(v:Value)(l:List Nat)(b:Sl C 1 v (l.map aS))(c:DigP l)(d:l.length<=100000):Gives cx.P 174 [.bool false,v] C (ah (bk (bJ l))):=by
 have h:=Fu C a false v l b c d;rw [show sgZ false (bJ l)=((bJ l:Nat):Int) from rfl,de] at h;exact h
theorem O2 {q:Nat}(h:q<=9223372036854775807):IntKind.i64.wrap ((q:Nat):Int)=(q:Nat):=by rw [IntKind.wrap_i64];omega
theorem lR (C:Mem)(d:Tabs C)(a b:Nat)(l:a<BP ^ 200)(m:b<BP ^ 200)(e:0<b):Gives cx.P 168 [ah (bk a),ah (bk b)] C (.tuple #[ah (bk (a / b)),ah (bk (a % b))]):=by
 have D:=OJ;refine Tk func168 93 U3 fun w0=>Tb 2 [0,1] Z<|Tc 1 Z fun R c=>To (qo C a) U7<|C6 5 [0,1,6,7] c Z<|Tc 1 Z fun R c=>To (qo _ b) U7<|C6 5 [0,1,6,7,8,9] c Z<|Tc 3 Z fun R c=>TB U8<|Th [0,1,6,8,31] c Z<|G.cd (fun f=>?_) fun f=>?_
 ·have hs:(bk a).length<=17/\(bk b).length<=17:=by simpa using f
  have h1:=qq hs.1;have h2:=qq hs.2;rw [aL hs.1,aL hs.2];have h0:=QE a b;refine Tx [0,1,2,3,4,5,6,7] [] Z kr_ fun R E c=>Tg 2 Z<|Us (((a / b:Nat):Int)) U6 om_ (by rw [R0 om_];rfl) (O2 om_) U2<|Tg 2 Z<|Uq U6 om_ om_ U2<|C6 2 [6,8,10,11] c Z<|Tb 2 [6,8,10,11,39] Z<|G.cd (fun g=>?_) fun g=>?_
  ·exfalso;have h3:=SP (a:Int) (show (b:Int)≠0 by omega);simp only [PI] at g;omega
  rw [<- Int.natCast_emod];have h3:=QE a b;have h4:=P2 a e;refine Tc 1 Z fun R c=>Ts (Fa _ d (a / b) om_) U7 fl_<|Te U6<|Ts (Fa _ d (a % b) om_) U7 fl_<|C6 2 [4,5] c Z<|Tn (G.dropAll (TD U3 ?_));exact ⟨Z,Z⟩
 refine Tc 1 Z fun R c=>To (oG _ a) U7<|C6 5 [1,12,13] c Z<|Tc 1 Z fun R c=>To (oG _ b) U7<|C6 5 [12,13,14,15] c Z<|Tc 1 Z fun R c=>TM (nJ _ a l) U7 (fun F _ _ n=>?_);obtain ⟨lp,o,p,H,q⟩:=n;refine Te U6<|TM (nJ _ b m) U7 (fun I _ _ r=>?_);obtain ⟨s,t,u,J,v⟩:=r;refine TG (AD _ _ _ lp s q.m_ v.m_ o.1 t om_ om_ om_) U7 fl_ (fun K _ _ w=>?_);obtain ⟨u1,L,rfl,h,i⟩:=w;rw [p,u] at h i;obtain ⟨l1,x,y,M,z⟩:=PieC.take h (by have:=QE a b;omega);obtain ⟨l2,A,B,N,j⟩:=PieC.take i (by have:=P2 a e;omega);obtain ⟨A2,c2,rfl,_⟩:=id j;refine C6 5 [12,14,15,16,17] c Z<|Tc 5 Z fun R c=>TB U8<|Th [12,14,15,16,17,78] c Z<|G.cd (fun k=>?_) fun k=>?_
 ·exfalso;simp at k
 refine Tc 4 Z fun R c=>Ts (tT _ d.m_ _ l1 z.m_ x.1 om_) U7 fl_<|Te U6<|Ts (tT _ d.m_ _ l2 j.m_ A.1 om_) U7 fl_<|C6 2 [4,5] c Z<|Tn (G.dropAll (TD U3 ?_));rw [y,B];exact ⟨Z,Z⟩
theorem KG (n:Nat):((⟨(bk n).toArray⟩:ByteArray).data.toList == (⟨#[48]⟩:ByteArray).data.toList)=decide (n=0):=by
 have h:=kS (n:Int);rw [de] at h;rw [h,Qo];omega
theorem CP (C:Mem)(h:Tabs C)(z w:Int)(i:z.natAbs<BP ^ 200)(j:w.natAbs<BP ^ 200):Gives cx.P 167 [ah (txt z),ah (txt w)] C (ah (bk (Nat.gcd z.natAbs w.natAbs))):=by
 refine Tk func167 22 U3 fun w0=>Tb 1 [0,1] Z<|Tc 1 Z fun R e=>To (sI _ z) U7<|Te U6<|To (sI _ w) U7<|C6 2 [0,1] e Z<|G.loop (fun fr p k l=>∃ (a b:Nat),(a<BP ^ 200/\b<BP ^ 200/\Nat.gcd a b=Nat.gcd z.natAbs w.natAbs)/\fr=[(0,[],ah (bk a)),(1,[],ah (bk b))]/\k=[]/\l=b+1) (hn_ [0,1] Z) ⟨z.natAbs,w.natAbs,⟨i,j,Z⟩,Z,Z,Z⟩ (fun fr q r m _ n=>?_);obtain ⟨a,b,⟨o,f,g⟩,rfl,rfl,rfl⟩:=n;refine Tb 2 [0,1,12] Z<|G.cd (fun c=>?_) fun c=>?_
 ·have d:0<b:=by
   rw [KG] at c;have:b≠0:=by simpa using c
   omega
  have s:=P2 a d;refine Tc 2 Z fun R e=>To (lR _ h.m_ a b o f d) U7<|C6 5 [1,6] e Z<|Tb 4 [0,1] Z<|Tp (m':=a % b+1) om_ mup (hn_ [0,1] Z) ⟨b,a % b,⟨f,by omega,by rw [<- g,On a b d]⟩,Z,Z,Z⟩
 have d:b=0:=by
  rw [KG] at c;simpa using c
 refine Tb 2 [4] Z<|Tl U2<|⟨?_,Z⟩;rw [<- g,d,Se]
def ix (s:Str):Int:=sgZ (cI 45 s).2 (bU (cI 45 s).1)
theorem xg {t:Str}(h:uU t):t.head?=some 48 ↔ bU t=0:=by
 constructor
 ·intro h0;have h1:=h.2.2 h0;cases t with
  | nil=>cases h0
  | cons b t =>
   have a:b=48:=by simpa using h0
   have d:t=[]:=by cases t with
    | nil=>rfl
    | cons c t=>simp at h1
   subst a d;rfl
 intro h0;have:=qj h (bA 0).1 (by rw [h0,(bA 0).2]);rw [this,bk];rfl
theorem xe :xf s=true ↔ uU (cI 45 s).1/\((cI 45 s).2=true->0<bU (cI 45 s).1):=by
 obtain ⟨t,neg,d⟩:∃ t b,cI 45 s=(t,b):=⟨_,_,rfl⟩;unfold xf;rw [d];simp only [PL,RL,Ri,ne_eq,PT,Bool.and_eq_false_imp,Q0,Rc,P3];constructor
 ·rintro ⟨⟨h1,h2⟩,h3⟩;have a:uU t:=⟨h1,h2,fun h=>by
   have:=(h3 h).2;have:0<t.length:=Qi.2 h2;omega⟩
  refine ⟨a,fun c=>?_⟩;rcases Qz (bU t) with h | h
  ·have:=(h3 ((xg a).2 h)).1;rw [c] at this;cases this
  exact h
 rintro ⟨a,h⟩;refine ⟨⟨a.1,a.2.1⟩,fun h0=>?_⟩;have h1:=(xg a).1 h0;have h2:=a.2.2 h0;refine ⟨?_,by omega⟩;cases c:neg with
 | false=>rfl
 | true=>have:=h c;omega
theorem Gj (s:Str):s=if (cI 45 s).2 then 45::(cI 45 s).1 else (cI 45 s).1:=by
 unfold cI;split
 ·rename_i h;cases s with
  | nil=>cases h
  | cons b s =>
   have a:b=45:=by simpa using h
   subst a;rfl
 rfl
theorem GY (h:xf s=true):s=txt (ix s):=by
 obtain ⟨h1,h2⟩:=xe.1 h;unfold ix;rw [zC _ _ h2,<- oc h1];exact Gj s
def oS (zn:Int):Option Str->Bool
 | none=>true
 | some b=>decide (1<ix b) && !(zn == 0) && (Nat.gcd zn.natAbs (ix b).natAbs == 1)
def aV (s:Str):Bool:=cE (jK 47 s).1 && cE ((jK 47 s).2.getD [49]) && oS (ix (jK 47 s).1) (jK 47 s).2
theorem rA :cE s=true ↔ okD (cI 45 s).1=true/\((cI 45 s).2=true->0<bU (cI 45 s).1):=by
 unfold cE;rw [PL,xe,yh,PI];constructor
 ·rintro ⟨⟨h1,h2⟩,h3⟩;exact ⟨⟨h1,h3⟩,h2⟩
 rintro ⟨⟨h1,h3⟩,h2⟩;exact ⟨⟨h1,h2⟩,h3⟩
theorem Jp (s:Str):(ix s).natAbs=bU (cI 45 s).1:=by
 unfold ix sgZ;split <;> omega
theorem ED (h:s.length<=n):(jK 47 s).1.length<=n/\((jK 47 s).2.getD [49]).length<=n+1:=by
 rcases gD 47 s with ⟨h1,_⟩ | ⟨a,post,h1,h2,_⟩
 ·rw [h1];exact ⟨h,by simp⟩
 have e:=congrArg List.length h2;rw [PH,PR] at e;rw [h1];simp only [QQ];omega
theorem one_val:([49]:Str)=txt 1:=by
 unfold txt;rw [aF om_,show bk (1:Int).natAbs=bk 1 from rfl,bk];rfl
theorem so (n:Nat):((⟨(bk n).toArray⟩:ByteArray).data.toList == (⟨#[49]⟩:ByteArray).data.toList)=(n == 1):=by
 show (bk n == [49])=_;rw [Ot,Sv,PI,Q0];constructor
 ·intro h;have h2:=(bA n).2;rw [h] at h2;exact h2.symm
 rintro rfl;rw [bk];rfl
theorem E2 (C:Mem)(s:Str)(d:∀ c∈s,eO c=true)(e:s≠[])(f:s.length<=18):Gives cx.P 251 [ah s,.int .i64 10,.int .i64 64] C (.tuple #[.int .u64 (bU s),.nilIface]):=by
 refine Tk func251 26 U3 fun w0=>Tb 2 [0,1,2] Z<|Tc 3 Z fun R a=>Ts (E1 Tryz.parseU s d e f _ kr_) U7 fl_<|C6 5 [0,1,2,8,9] a Z<|Tc 1 Z fun R a=>Vg false Z Z Z Z Z (.inr ⟨Z,Z⟩) kr_ Z Z<|Th [0,1,2,8,9,18] a Z<|G.cd (fun b=>?_) fun b=>?_
 ·cases b
 refine Tb 3 [6,7] Z<|Tn (G.dropAll (TD U3 ?_));exact ⟨Z,Z⟩
theorem BY (C:Mem)(i:Nat)(h:i<100):Gives cx.P 313 [.int .i64 i] C (ah (bk i)):=by
 have h1:=Gives.ofCalls (f:=313) (args:=[.int .i64 i]) (P:=cx.P) kr_ (fun w=>Any.internal_strconv_small Tryz.small10 i h w) C;rw [dO] at h1;exact h1
theorem AM (u:Nat):Lib.nDigits u=(bk u).length:=by rw [<- dO,Lib.decDigits_length]
theorem CQ (C:Mem)(l:Tabs C)(u:Nat)(s:u<9223372036854775808):Gives cx.P 298 [.int .u64 u,.int .i64 10] C (ah (bk u)):=by
 refine Tk func298 32 U3 fun w0=>Tb 1 [0,1] Z<|Tb 2 [0,1,10] Z<|G.cd (fun g=>?_) fun g=>?_
 ·refine Tb 2 [0,12] Z<|G.cd (fun e=>?_) fun e=>?_
  ·have h:u<100:=by
    have:(u:Int)<100:=by simpa using e
    omega
   exact Tc 1 Z fun R a=>TR (c:=(u:Int)) U8 (by rw [IntKind.wrap_i64];omega) fl_<|To (BY _ u h) U7<|C6 1 [4] a Z<|Tl U2<|⟨Z,Z⟩
  have h:100<=u:=by
   have:¬ (u:Int)<100:=by simpa using e
   omega
  have t:Lib.nDigits u<=19:=by
   rw [AM];exact eE om_ om_
  refine Tf fun R a=>Tq U5 fun i=>Th [0,5] a Z<|Tc 1 Z fun R a=>Ts (wc Tryz.nDig u om_ om_ _ l.pow.m_ kr_) U7 fl_<|C6 1 [0,5,6] a Z<|TC [(3,3)] Z fun R a=>Te U6<|Uu 0 (Lib.nDigits u) 24 U12 (fun _=>⟨.inl ⟨Z,Z⟩,.inr ⟨_,Z⟩,.inl ⟨Z,Z⟩,by omega,by omega,by decide⟩) U2<|Te U6<|D.call (yA Tryz.fmt10 i 24 u 393 (List.replicate 24 (Value.int .u8 0)) om_ (fun j d=>(by rw [Q2,aL om_])) om_ _ kr_) Z (.inr dc_) U6 (PC _) fl_ fun w _ z _ m=>Th [5,6] a Z ?_;obtain ⟨_,rfl,cs,rfl,A,n⟩:=m;refine G.freeze 0 Z (fun o _ p=>?_);have q:(bk u).length=Lib.nDigits u:=(AM u).symm;have k:Sl o 1 (.slice (some ⟨i,0,none⟩) ((bk u).map fun b=>[Value.int .u8 b.toNat]).length 24) ((bk u).map fun b=>[Value.int .u8 b.toNat]) :=
   Sl.ofBlock p (by intro r hr;obtain ⟨y,_,rfl⟩:=PF.1 hr;rfl) (fun j v d=>by
    rw [gg,PD] at d;cases f:(bk u)[j]? with
    | none=>rw [f] at d;cases d
    | some x=>rw [f] at d;cases d;simpa using n j x f) aq (by simp [maxLen])
  rw [am,q] at k;exact Tc 1 Z fun R a=>Uu 0 (Lib.nDigits u) 24 U12 (fun _=>⟨.inl ⟨Z,Z⟩,.inr ⟨_,Z⟩,.inl ⟨Z,Z⟩,by omega,by omega,by decide⟩) U2<|UH k.m_ U11 fl_<|C6 1 [4] a Z<|Tl U2<|⟨Z,Z⟩
 exact absurd g dc_
theorem CR (C:Mem)(a:Tabs C)(u:Nat)(b:u<9223372036854775808):Gives cx.P 255 [.int .u64 u,.int .i64 10] C (ah (bk u)):=by
 exact Tk func255 8 U3 fun w0=>Tb 1 [0,1] Z<|Tc 2 Z fun R c=>To (CQ _ a.m_ u b) U7<|C6 1 [4] c Z<|Tl U2<|⟨Z,Z⟩
theorem jy (C:Mem)(z:Int)(m:Nat)(d:m<=18):Gives cx.P 188 [ah (txt z),.int .i64 m] C (.tuple #[.int .i64 (if (txt z).length<=m then z else 0),.bool (decide ((txt z).length<=m))]):=by
 refine Tk func188 20 U3 fun w0=>Tb 2 [0,1] Z<|Tb 4 [0,11] Z<|G.cd (fun b=>?_) fun b=>?_
 ·have a:¬ (txt z).length<=m:=by
   have:(m:Int)<((txt z).length:Int):=by simpa using b
   omega
  refine Tb 2 [4,5] Z<|Tn (G.dropAll (TD U3 ?_));exact ⟨by rw [aF a,P7 a],Z⟩
 have a:(txt z).length<=m:=by
  have:¬ (m:Int)<((txt z).length:Int):=by simpa using b
  omega
 refine Tc 1 Z fun R c=>Ts (yZ Tryz.atoi z om_ _ kr_) U7 fl_<|C6 5 [6,7] c Z<|Tx [0,1,2,3,4] [] Z kr_ fun R e c=>Tg 2 Z<|Vg true Z Z Z Z Z (.inl ⟨Z,Z⟩) kr_ Z Z<|C6 2 [4,5] c Z<|Tn (G.dropAll (TD U3 ?_));exact ⟨by rw [aL a,PV a],Z⟩
theorem iR (C:Mem)(z:Int)(t:(bk z.natAbs).length<=1000000):Pur cx.P 189 [ah (txt z)] C fun u D=>∃ p,u=.agg ⟨[.bool (decide (z<0)),p]⟩/\NineC D p z.natAbs:=by
 obtain ⟨S,g⟩:∃ S,bk z.natAbs=S:=⟨_,rfl⟩;have b:=(bA z.natAbs).1;have i:=(bA z.natAbs).2;rw [g] at t b i;refine Tk func189 44 U3 fun w0=>Tf fun R a=>Tq U5 fun b2=>Th [0,2] a Z<|Tc 1 Z fun R a=>To (GC _ (txt z) 45) U7 ?_;rw [dJ,g];refine C6 5 [2,3,4] a Z<|Tc 2 Z fun R a=>Up (S.length) (9) U6 om_ (.inl ⟨Z,by omega⟩) U2<|TL (((S.length / 9+1:Nat):Int)) U4 om_ om_ om_ U2<|Um U9 (PG _) (by show 8*(S.length / 9+1)<=281474976710656;omega) (by simp only [maxLen];omega) fl_ fun L=>C6 1 [2,3,4,5] a Z ?_;rw [show (ah S:Value)=ah (S.take S.length) by rw [PO]];refine G.loop (fun fr M k v=>∃ (q j:Nat)(out:List Nat)(w:Value),(q<=S.length/\(q=0∨q+9*j=S.length)/\out.length=j/\j<=S.length/\(q=0∨j<S.length)/\Dig9 out/\bu out=bU (S.drop q))/\fr=[(2,[],.pointer (some ⟨b2,0,none⟩)),(3,[],ah (S.take q)),(4,[],.bool (decide (z<0))),(5,[],w)]/\k=[.arr w 285 1 j (out.map cM).flatten,.obj b2 (.cells ⟨[.bool false,.slice none 0 0]⟩ 273 (0,0))]/\v=q+1) (hn_ [2,3,4,5] Z) ⟨S.length,0,[],_,⟨Py _,by omega,Z,PG _,by have:=Qi.2 b.2.1;omega,(fun x y=>(by cases y)),by rw [QA];rfl⟩,Z,Z,Z⟩ (fun fr N O m _ A=>?_);obtain ⟨q,j,out,w,⟨Q,T,d,U,V,l,e⟩,rfl,rfl,rfl⟩:=A;refine Tb 3 [2,3,4,5,21] Z<|G.cd (fun f=>?_) fun f=>?_
 ·have B:(⟨(S.take q).toArray⟩:ByteArray).data.toList.length=q:=by
   show (S.take q).length=q;rw [PM];omega
  have E:(S.take q).length=q:=B;have o:0<q:=by
   have h:(0:Int)<(((⟨(S.take q).toArray⟩:ByteArray).data.toList.length:Nat):Int):=by simpa using f
   omega
  have F:(gC S (q-9) q).length<=9/\0<(gC S (q-9) q).length:=by
   unfold gC;rw [RB,PM];omega
  have H:∀ c∈gC S (q-9) q,eO c=true:=fun c I=>b.1 c (QR (Sm I));refine Tc 2 Z fun R a=>TL (((q:Int)-9)) U4 om_ om_ om_ U2<|D.max (((q-9:Nat):Int)) U6 om_ U2<|C6 1 [2,3,4,5,6] a Z<|Tc 2 Z fun R a=>Uj (q-9) (S.take q).length U9 (fun _=>⟨.inr ⟨_,Z⟩,.inl ⟨Z,Z⟩,.inl ⟨Z,Z⟩,by omega,Py _,Py _⟩) U2 ?_;rw [show (((S.take q).take (S.take q).length).drop (q-9))=gC S (q-9) q from by rw [PO];rfl];refine Ts (E2 _ (gC S (q-9) q) H (Qi.1 F.2) om_) U7 fl_<|C6 5 [2,3,4,5,6,7] a Z<|Tx [0,1,4,5,6,2,3,7,8] [] Z kr_ fun R W a=>Tg 4 Z<|Uj 0 (q-9) U9 (fun _=>⟨.inl ⟨Z,Z⟩,.inr ⟨_,Z⟩,.inl ⟨Z,Z⟩,by omega,by omega,Py _⟩) U2<|Tz [cM (bU (gC S (q-9) q))] U12 fun X _ _ J=>D.append (j:=0) U11 J Z ax (by show (j+1)*8<=_;omega) fl_ fun r=>C6 2 [2,3,4,5] a Z ?_;rw [show ((S.take q).take (q-9)).drop 0=S.take (q-9) from by rw [QO,Sy,QD om_]];refine Tu (L':=[.arr r 285 1 (j+1) ((out++[bU (gC S (q-9) q)]).map cM).flatten,.obj b2 (.cells ⟨[.bool false,.slice none 0 0]⟩ 273 (0,0))]) (by simp [cM])<|Tp (m':=q-9+1) om_ mup (hn_ [2,3,4,5] Z) ⟨q-9,j+1,out++[bU (gC S (q-9) q)],r,⟨by omega,by omega,by simp [d],by omega,by omega,l.snoc (Jr b.1 om_),BR om_ d om_ e⟩,Z,Z,Z⟩
 have o:q=0:=by
  have E:(S.take q).length=q:=by rw [PM];omega
  have h:¬ (0:Int)<(((S.take q).length:Nat):Int):=by simpa using f
  omega
 subst o;rw [QO,i] at e;refine TC [(2,3)] Z fun R a=>Tg 2 Z<|D.call (gm _ _ out (n:=j) d) Z (.inr dc_) U6 (PC _) fl_ (fun Y _ aa _ K=>?_);obtain ⟨rfl,s⟩:=K;obtain ⟨Au,cu,rfl,_⟩:=id s;refine Tw [.bool (decide (z<0)),_] U8<|Tj (j:=0) U12<|Th [2] a Z<|Tn (TY ag U4 ?_);exact ⟨Z,_,Z,DC out,ij l,by rw [ii,e],s⟩
theorem Da (k:Nat)(s:Str):bU (List.replicate k 48++s)=bU s:=by
 induction k with
 | zero=>rfl
 | succ k a=>rw [QC,Rh,dK,a];simp
theorem LZ (h:x<1000000000):mb 9 x=List.replicate (9-(bk x).length) 48++bk x:=by
 obtain ⟨h1,h2,h3⟩:=kw 9 x h;obtain ⟨h4,h5⟩:=bA x;have b:(bk x).length<=9:=eE om_ om_;refine yJ h2 (fun c a=>?_) (by rw [h1];simp;omega) (by rw [h3,Da,h5]);rcases PQ.1 a with a | a
 ·rw [RC a];rfl
 exact h4.1 c a
def JN (l:List Nat)(j:Nat)(s:Str):Prop:=(j=0/\s=[])∨(0<j/\uU s/\bU s=bu (l.drop (l.length-j))/\0<bU s)
theorem CG (b:xw l)(d:j<l.length)(h:JN l j s):JN l (j+1) (s++if j=0 then bk (g9 l (l.length-1-j)) else mb 9 (g9 l (l.length-1-j))):=by
 have a:l[l.length-1-j]?=some (g9 l (l.length-1-j)):=wx om_;refine .inr ⟨by omega, ?_⟩;rw [show l.length-(j+1)=l.length-1-j by omega];rcases h with ⟨rfl,rfl⟩ | ⟨h0,h1,h2,h3⟩
 ·rw [aL rfl,Rw];obtain ⟨h4,h5⟩:=bA (g9 l (l.length-1-0));have c:bu (l.drop (l.length-1-0))=g9 l (l.length-1-0):=by
   rw [PW om_,show l.length-1-0+1=l.length by omega,QA];rw [al om_] at a;rw [Q8 a];show _+B9*0=_;omega
  refine ⟨h4,by rw [h5,c], ?_⟩;rw [h5];rcases Qz (g9 l (l.length-1-0)) with h | h
  ·rw [h] at a;exact absurd (by rw [RH];exact a) b.2
  exact h
 rw [aF om_];rw [show l.length-j=l.length-1-j+1 by omega] at h2;exact CO b.1 a h1 h2 h3
theorem jL (C:Mem)(U:Tabs C)(m:Bool)(v:Value)(n:Nat)(V:NineC C v n)(W:n<B9 ^ 100000):Gives cx.P 191 [.agg ⟨[.bool m,v]⟩] C (ah (txt (sgZ m n))):=by
 obtain ⟨ls,J,K,aj,hs⟩:=V.get W;obtain ⟨A,c,rfl,_⟩:=id hs;simp only [am] at hs ⊢;refine UI kr_ func191 Z 34 Z Z fun w0=>Tf fun R a=>Tv U6 fun b1=>C6 1 [1] a Z<|G.freeze 0 Z fun _ _ o=>Tc 1 Z fun R a=>Td (PtrTo.block (Mem.get o mup) _) U8<|C6 2 [1,10] a Z<|G.cd (fun y=>?_) fun y=>?_
 ·have L:ls=[]:=by
   have:(ls.length:Int)=0:=by simpa using y
   exact Ql om_
  refine Tb 1 [2] Z<|Tn (UM (Kc Z Z) ?_ Jg);subst L;refine ⟨?_,Z⟩;rw [<- K,(zB (sgZ m (bu []))).2 (by cases m <;> rfl)];rfl
 have L:0<ls.length:=by
  have:¬ (ls.length:Int)=0:=by simpa using y
  omega
 obtain ⟨d,g⟩:∃ d:Str,(if m then [45] else [])=d:=⟨_,rfl⟩;have ak:d.length<=1:=by rw [<- g];split <;> simp
 refine Tf fun R a=>Tq U5 fun b=>Th [1,3] a Z<|G.nilArr 5 1<|G.perm (L':=[.obj b (.cells ⟨[.pointer none,.slice none 0 0]⟩ 344 (0,0)),.arr (.slice none 0 0) 5 1 0 []]) (List.Perm.swap _ _ _)<|Tc 1 Z fun R a=>Td (PtrTo.block (Mem.get o mup) _) U8<|Th [1,3,12] a Z<|G.cut (fun fr X e z=>∃ (q:Option Addr)(w:Value),(q=none∨q=some ⟨b,0,none⟩)/\fr=[(1,[],.pointer (some ⟨b1,0,none⟩)),(3,[],.pointer (some ⟨b,0,none⟩))]/\e=[.obj b (.cells ⟨[.pointer q,w]⟩ 344 (0,0)),.arr w 5 1 d.length (u8s d)]) ?_ (fun fr _ al z _ f=>?_)
 ·refine G.cd (fun B=>?_) fun B=>?_
  ·rw [aL B] at g;subst g;refine TC [(0,3)] Z fun R a=>D.call (uV _ b none (.slice none 0 0) [] 45 (.inl Z) ap) Z (.inr dc_) U6 (PC _) fl_ fun an _ ao _ Y=>Th [1,3] a Z ?_;obtain ⟨w1,rfl⟩:=Y;refine Tr 0 mup (hn_ [1,3] Z) ⟨some ⟨b,0,none⟩,w1,.inr Z,Z,Z⟩
  rw [aF (by rw [B];decide)] at g;subst g;refine Tr 0 mup (hn_ [1,3] Z) ⟨none,.slice none 0 0,.inl Z,Z,Z⟩
 obtain ⟨q ,w,hq,rfl,rfl⟩:=f;refine Tc 1 Z fun R a=>Td (PtrTo.block (Mem.get o mup) _) U8<|TM (BA _ A ls.length c) U7 fun ar _ _ aa=>Th [1,3,16] a Z ?_;obtain ⟨bb,rfl,ab⟩:=aa;refine Tu (L':=[.obj b (.cells ⟨[.pointer q,w]⟩ 344 (0,0)),.arr w 5 1 (d++[]).length (u8s (d++[]))]) (by rw [PY])<|G.rangeFunc Z Z Z kr_ (sG _ bb _ _ ls ab hs.m_ om_) (fun j e=>∃ (q:Option Addr)(w:Value)(s:Str),((q=none∨q=some ⟨b,0,none⟩)/\JN ls j s/\s.length<=9*j)/\e=[.obj b (.cells ⟨[.pointer q,w]⟩ 344 (0,0)),.arr w 5 1 (d++s).length (u8s (d++s))]) ⟨q,w,[],⟨hq,.inl ⟨Z,Z⟩,by simp⟩,Z⟩ Z (fun _ _=>rfl) (fun u v=>[(1,[],.pointer (some ⟨b1,0,none⟩)),(3,[],.pointer (some ⟨b,0,none⟩)),(4,[],u),(5,[],v)]) (fun l u v W1 e=>?_) (fun l j u v e W1 f E=>?_) (fun bD e f=>?_)
 ·exact Tb 1 [1,3,4,18] Z<|Tb 1 [1,3,4,5] Z<|Vr ⟨Z,Z,Z,Z,trivial⟩
 ·obtain ⟨q,w,s,⟨F,p,M⟩,rfl⟩:=f;have N:j<ls.length:=by have:=(aJ.1 E).1;rwa [fL] at this
  rw [uI N] at E;cases E
  have O:=CG J N p;obtain ⟨x,H⟩:∃ x,g9 ls (ls.length-1-j)=x:=⟨_,rfl⟩;have i:x<B9:=by rw [<- H];exact kD J.1 _
  rw [show ls.getD (ls.length-1-j) 0=x from H];rw [H] at O;have au:(bk x).length<=9:=eE (by rw [B9v] at i;omega) om_;have ac:=LZ (x:=x) (by rw [B9v] at i;exact i);have av:(mb 9 x).length=9:=(kw 9 x (by rw [B9v] at i;omega)).1;refine Tc 1 Z fun R a=>Ts (CR _ U.m_ x (by rw [B9v] at i;omega)) U7 fl_<|C6 1 [1,3,4,6] a Z<|Tc 2 Z fun R a=>Td (PtrTo.block (Mem.get o mup) _) U8<|Te U6<|Tm _ U7<|C6 1 [3,6,26] a Z<|G.cut (fun fr X e z=>∃ (k:Option Addr)(r:Value)(t:Str),((k=none∨k=some ⟨b,0,none⟩)/\t++bk x=d++(s++if j=0 then bk x else mb 9 x)/\t.length<=9*j+10)/\fr=[(3,[],.pointer (some ⟨b,0,none⟩)),(6,[],ah (bk x))]/\e=[.obj b (.cells ⟨[.pointer k,r]⟩ 344 (0,0)),.arr r 5 1 t.length (u8s t)]) ?_ (fun fr _ aw z _ f=>?_)
  ·refine G.cd (fun I=>?_) fun I=>?_
   ·have Q:0<j:=by
     have:((ls.length-1-j:Nat):Int)<(ls.length:Int)-1:=by simpa using I
     omega
    refine TC [(3,3)] Z fun R a=>Tg 2 Z<|Uj (bk x).length 9 U9 (fun _=>⟨.inr ⟨_,Z⟩,.inl ⟨Z,Z⟩,.inl ⟨Z,Z⟩,by omega,Py _,Py _⟩) U2 ?_;rw [show ((([48,48,48,48,48,48,48,48,48]:Str).take 9).drop (bk x).length)=List.replicate (9-(bk x).length) 48 from by rw [show (([48,48,48,48,48,48,48,48,48]:Str).take 9)=List.replicate 9 48 from rfl,List.drop_replicate]];refine D.call (jT _ b q w (d++s) (List.replicate (9-(bk x).length) 48) F aq) Z (.inr dc_) U6 (PC _) fl_ fun ax _ ay _ ad=>Th [3,6] a Z ?_;obtain ⟨w1,rfl⟩:=ad;refine Tr 0 mup (hn_ [3,6] Z) ⟨some ⟨b,0,none⟩,w1,_,⟨.inr Z,by rw [aF om_,ac];simp [],by simp;omega⟩,Z,Z⟩
   have Q:j=0:=by
    have:¬ ((ls.length-1-j:Nat):Int)<(ls.length:Int)-1:=by simpa using I
    omega
   refine Tr 0 mup (hn_ [3,6] Z) ⟨q,w,d++s,⟨F,by rw [aL Q,P8],by simp;omega⟩,Z,Z⟩
  obtain ⟨k ,r ,t,⟨ae,af,az⟩,rfl,rfl⟩:=f;refine TC [(1,3)] Z fun R a=>Te U6<|D.call (jT _ b k r t (bk x) ae om_) Z (.inr dc_) U6 (PC _) fl_ fun aA _ aB _ ag=>Ui [] trivial (a _ _ _ Z ?_);obtain ⟨w4,rfl⟩:=ag;rw [af];exact UU (R:=fun e=>∃ (q:Option Addr)(w:Value)(s:Str),((q=none∨q=some ⟨b,0,none⟩)/\JN ls (j+1) s/\s.length<=9*(j+1))/\e=[.obj b (.cells ⟨[.pointer q,w]⟩ 344 (0,0)),.arr w 5 1 (d++s).length (u8s (d++s))]) (PC _) ⟨some ⟨b,0,none⟩,w4,_,⟨.inr Z,O,by rw [PH];split <;> omega⟩,Z⟩
 obtain ⟨q,w,s,⟨F,p,M⟩,rfl⟩:=f;rw [fL] at p;obtain ⟨aC,S,T,aD⟩:0<ls.length/\uU s/\bU s=bu (ls.drop (ls.length-ls.length))/\0<bU s:=p.elim (fun h=>by omega) id;rw [RW,QO,K] at T;refine G.perm (L':=[.obj b (.cells ⟨[.pointer q,w]⟩ 344 (0,0)),.arr w 5 1 (d++s).length (u8s (d++s)),.obj bD (.deferred (some []))]) (pkL [1,1,0] Z)<|TC [(0,3)] Z fun R a=>D.call (Dg _ b q w (d++s) (fun h=>S.2.1 (SD.1 h).2) (by simp;rw [fL] at M;omega)) Z (.inr dc_) U6 (PC _) fl_ fun aE _ aG _ ai=>C6 1 [2] a Z ?_;obtain ⟨rfl,rfl⟩:=ai;refine Tn (Vp (Kc Z Z) ?_);refine ⟨?_,Z⟩;have es:s=bk n:=by rw [<- T];exact oc S
 rw [zC m n (fun _=>by omega),es,<- g];cases m <;> rfl
theorem si (a:0<Q):(x+B9*t) / Q=B9*(t / Q)+(x+B9*(t % Q)) / Q/\(x+B9*t) % Q=(x+B9*(t % Q)) % Q:=by
 have h:x+B9*t=(x+B9*(t % Q))+Q*(B9*(t / Q)):=by
  have h1:=Su t Q;have h2:B9*t=B9*(t % Q)+B9*(Q*(t / Q)):=by rw [<- QJ,h1]
  rw [h2,S5];omega
 rw [h,So _ _ a,Nat.add_mul_mod_self_left];exact ⟨by omega,Z⟩
theorem lS (a:0<Q)(b:x<B9):(x+B9*(t % Q)) / Q<B9:=by
 rw [Rn a];have h1:=P2 t a;have h2:B9*(t % Q+1)<=B9*Q:=QW _ h1;rw [QJ] at h2;omega
theorem fp (h:j<l.length):bu (l.drop j)=g9 l j+B9*bu (l.drop (j+1)):=by
 rw [PW h,bu,yy (al h)]
theorem kR (h:j<l.length):bu ((l.set j x).drop j)=x+B9*bu (l.drop (j+1)):=by
 rw [PW (by simpa using h),bu,List.getElem_set_self,List.drop_set_of_lt om_]
theorem sf (C:Mem)(va M:Value)(m d:Nat)(ha:NineC C va m)(hm:m<B9 ^ 200000)(F:Sl C 1 M ([d].map cM))(H:0<d)(hd:d<B9) :
  Pur cx.P 227 [va,M] C fun u D=>∃ q r,u=.tuple #[q,r]/\NineC D q (m / d)/\NineC D r (m % d):=by
 have aa:NineC C M d:=⟨[d],⟨fun x o=>(by rw [PU.1 o];exact hd),by simp;omega⟩,by show d+B9*0=d;omega,F⟩;have N:=ha;obtain ⟨a,an,ab,aF,O⟩:=ha.get hm;obtain ⟨A0,c0,rfl,_⟩:=id O;obtain ⟨B0,d0,rfl,aG⟩:=id F;simp only [am,ba] at F aa O N ⊢;have p:=B9v;refine UI kr_ func227 Z 146 Z Z fun w0=>Tf fun R b=>Tv U6 fun b3=>Tq U5 fun g=>C6 1 [0,3,4,5] b Z<|G.freeze 1 Z fun _ _ K=>Tc 1 Z fun R b=>Td (PtrTo.block (Mem.get K mup) _) U8<|To (ph _ N.m_ aa.m_) U7<|C6 1 [0,3,4,5,17] b Z<|G.cd (fun Q=>?_) fun Q=>?_
 ·have S:m<d:=by
   have:jA m d<0:=by simpa using Q
   exact iQ.1 this
  refine Tc 1 Z fun R b=>Tj (j:=0) U12<|C6 1 [4,5] b Z<|Tn (UM (Aa ag Z Z Z Z Z) ?_ Jg);refine ⟨Z,_,_,Z, ?_, ?_⟩
  ·rw [RS S];exact NineC.zero _
  rw [Sn S];exact N.mono mup
 have S:d<=m:=by
  have h:¬ jA m d<0:=by simpa using Q
  rw [iQ] at h;omega
 obtain ⟨n,hn⟩:∃ n,a.length=n:=⟨_,rfl⟩;refine Tf fun R b=>Td (PtrTo.block (Mem.get K mup) _) U8<|C6 2 [0,3,4,5,21] b Z<|G.cd (fun ac=>?_) fun ac=>?_
 ·refine Tc 2 Z fun R b=>Um U9 (Py _) (by show 8*a.length<=281474976710656;omega) (by simp only [maxLen];omega) fl_ fun f=>Tj (j:=1) U12<|Th [0,3,4] b Z<|Tf fun R b=>Tq U5 fun k=>Tj (j:=0) U12<|Th [0,3,4,6] b Z<|Tc 1 Z fun R b=>TM (BA _ A0 a.length c0) U7 fun aH _ _ ao=>Th [3,4,6,26] b Z ?_;obtain ⟨bb,rfl,aq⟩:=ao;refine Tu (L':=[.obj k (.cells ⟨[.int .u64 ((bu (a.drop (a.length-0)) % d:Nat):Int)]⟩ 285 (0,0)),.obj g (.cells ⟨[qU f a.length a.length]⟩ 271 (0,0)),.arr (qU f a.length a.length) 285 1 a.length ((List.replicate a.length 0).map cM).flatten]) (by rw [<- DD,Sj,QA,show bu []=0 from Z,Nat.zero_mod];rfl)<|G.rangeFunc Z Z Z kr_ (sG _ bb _ _ a aq O.m_ om_) (fun j e=>∃ (c:List Nat),(c.length=a.length/\Dig9 c/\bu (c.drop (a.length-j))=bu (a.drop (a.length-j)) / d)/\e=[.obj k (.cells ⟨[.int .u64 ((bu (a.drop (a.length-j)) % d:Nat):Int)]⟩ 285 (0,0)),.obj g (.cells ⟨[qU f a.length a.length]⟩ 271 (0,0)),.arr (qU f a.length a.length) 285 1 a.length (c.map cM).flatten]) ⟨List.replicate a.length 0,⟨P9,(fun x o=>by rw [RC o];decide),by rw [Sj,QA,Sh ap];simp [bu]⟩,Z⟩ Z (fun _ _=>rfl) (fun u v=>[(3,[],.pointer (some ⟨b3,0,none⟩)),(4,[],.pointer (some ⟨g,0,none⟩)),(6,[],.pointer (some ⟨k,0,none⟩)),(7,[],u),(8,[],v)]) (fun l u v W1 e=>?_) (fun l j u v e W1 s U=>?_) (fun bD e s=>?_)
  ·exact Tb 1 [3,4,6,7,28] Z<|Tb 1 [3,4,6,7,8] Z<|Vr ⟨Z,Z,Z,Z,Z,trivial⟩
  ·obtain ⟨c,⟨I,L,B⟩,rfl⟩:=s;have ar:j<a.length:=by have:=(aJ.1 U).1;rwa [fL] at this
   rw [uI ar] at U;cases U
   obtain ⟨i,hi⟩:∃ i,a.length-1-j=i:=⟨_,rfl⟩;have ad:a.length-j=i+1:=by omega
   obtain ⟨T,hT⟩:∃ T,bu (a.drop (i+1))=T:=⟨_,rfl⟩;have au:=kD an.1 i;have aI:=P2 T H;have hX:T % d*B9+g9 a i<18446744073709551616:=by
    have:=Qp B9 (show T % d<=999999999 by omega);rw [p] at this ⊢;omega
   rw [hi,ad,hT,show a.getD i 0=g9 a i from rfl];rw [ad,hT] at B;have av:T % d*B9+g9 a i=g9 a i+B9*(T % d):=by rw [Qk,RV]
   have V:=si (t:=T) (x:=g9 a i) H;have ah:=lS (t:=T) H au;rw [<- av] at V ah;refine Tf fun R b=>Ti ag U9<|D.int (((T % d*B9:Nat):Int)) U4 (by rw [show (1000000000:Int)=((B9:Nat):Int) from Z,<- Qe,IntKind.wrap_u64];omega) U2<|Te U6<|D.int (((T % d*B9+g9 a i:Nat):Int)) U4 (by rw [IntKind.wrap_u64];omega) U2<|Tj (j:=0) U12<|Th [3,4,6,7] b Z<|G.cut (fun fr W e X=>(True)/\fr=[]/\e=[.obj k (.cells ⟨[.int .u64 (((T % d*B9+g9 a i) % d:Nat):Int)]⟩ 285 (0,0)),.arr (qU f a.length a.length) 285 1 a.length (aD (c.map cM).flatten [Value.int .u64 (((T % d*B9+g9 a i) / d:Nat):Int)] (i*1)),.obj g (.cells ⟨[qU f a.length a.length]⟩ 271 (0,0))]) ?_ (fun fr aK aL X aM s=>?_)
   ·refine TX (.cut [0,1,2,3,4,5,6,8,9,10,12] (.alt 7 (.fin [11,13,14]) (.alt 13 (.fin [7,11,14]) .stop))) [] U2 kr_ fun R p b w=>Ti af U9<|Te U6<|Ti ag U9<|Td (PtrTo.block (Mem.get K mup) _) U8<|Tt F.m_ U10 om_ (rfl:([d].map cM)[(0:Int).toNat]?=some (cM d)) fl_ fun aN aw=>Td aw U8<|Up (T % d*B9+g9 a i) (d) U6 om_ (.inr ⟨Z,by omega⟩) U2<|Td (PtrTo.block (Mem.get K mup) _) U8<|Tt F.m_ U10 om_ (rfl:([d].map cM)[(0:Int).toNat]?=some (cM d)) fl_ fun aO ax=>Td ax U8<|TE (i*1) U10 aj U2<|TP w Z ⟨?_, ?_,trivial⟩
    ·first | refine Ua ag U9 ?_ | refine Ua af U9 ?_
     refine TS (T % d*B9+g9 a i) (d) U6 om_ U2<|TJ (j:=2) U11 (by show i*1+1<=_;rw [bP eD,I];omega)<|Tj (j:=1) U12<|Ui [] trivial (b _ _ _ Z ?_);clear b p w R;exact Tr 0 (Mem.le.refl _) (fr':=[]) trivial ⟨trivial,Z,Z⟩
    refine TJ (j:=2) U11 (by show i*1+1<=_;rw [bP eD,I];omega) ?_
    first | refine Ua ag U9 ?_ | refine Ua af U9 ?_
    refine TS (T % d*B9+g9 a i) (d) U6 om_ U2<|Tj (j:=1) U12<|Ui [] trivial (b _ _ _ Z ?_);clear b p w R;exact Tr 0 (Mem.le.refl _) (fr':=[]) trivial ⟨trivial,Z,Z⟩
   obtain ⟨_,rfl,rfl⟩:=s;refine G.perm (L':=[.obj k (.cells ⟨[.int .u64 (((T % d*B9+g9 a i) % d:Nat):Int)]⟩ 285 (0,0)),.obj g (.cells ⟨[qU f a.length a.length]⟩ 271 (0,0)),.arr (qU f a.length a.length) 285 1 a.length (aD (c.map cM).flatten [Value.int .u64 (((T % d*B9+g9 a i) / d:Nat):Int)] (i*1))]) (pkL [0,1,0] Z) ?_;have ai:bu (a.drop i)=g9 a i+B9*T:=by rw [fp om_,hT]
   have ay:bu (a.drop (a.length-(j+1))) % d=(T % d*B9+g9 a i) % d:=by rw [show a.length-(j+1)=i by omega,ai,V.2]
   exact Tu (L':=[.obj k (.cells ⟨[.int .u64 ((bu (a.drop (a.length-(j+1))) % d:Nat):Int)]⟩ 285 (0,0)),.obj g (.cells ⟨[qU f a.length a.length]⟩ 271 (0,0)),.arr (qU f a.length a.length) 285 1 a.length ((c.set i ((T % d*B9+g9 a i) / d)).map cM).flatten]) (by rw [ay,<- bK eD _ (by omega:i<c.length)];rfl)<|UU (R:=fun e=>∃ (c:List Nat),(c.length=a.length/\Dig9 c/\bu (c.drop (a.length-(j+1)))=bu (a.drop (a.length-(j+1))) / d)/\e=[.obj k (.cells ⟨[.int .u64 ((bu (a.drop (a.length-(j+1))) % d:Nat):Int)]⟩ 285 (0,0)),.obj g (.cells ⟨[qU f a.length a.length]⟩ 271 (0,0)),.arr (qU f a.length a.length) 285 1 a.length (c.map cM).flatten]) (PC _) ⟨c.set i ((T % d*B9+g9 a i) / d),⟨by simp [I],L.set ah,by rw [show a.length-(j+1)=i by omega,ai,kR om_,B,V.1];omega⟩,Z⟩
  obtain ⟨c,⟨I,L,B⟩,rfl⟩:=s;rw [fL,RW,QO,QO,ab] at B;rw [fL,RW,QO,ab];refine G.freezeArr 3 (c.map cM) rfl rfl (by intro r hr;obtain ⟨y,_,rfl⟩:=PF.1 hr;rfl) (by rw [am,I]) fun Cq aP ak=>G.cut (fun fr W e X=>∃ (E z:Value),(NineC W E (m / d)/\NineC W z (m % d))/\fr=[(4,[],.pointer (some ⟨g,0,none⟩)),(5,[],z)]/\e=[.obj g (.cells ⟨[E]⟩ 271 (0,0)),.obj bD (.deferred (some [])),.obj k (.cells ⟨[.int .u64 ((m % d:Nat):Int)]⟩ 285 (0,0))]) ?_ (fun fr aQ aR X aS s=>?_)
  ·refine TX (.cut [0,2] (.alt 1 (.fin [3,4,5,6]) (.alt 3 (.fin [1,4,5,6]) .stop))) [] U2 kr_ fun R p b w=>Ti ae U9<|Ti af U9<|TP w Z ⟨?_, ?_,trivial⟩
   ·refine TM (vi _ L ak.m_) U7 fun E az _ A=>Tz [cM (m % d)] U12 fun aA aB _ Y=>TG (vi _ (l:=[m % d]) (fun x o=>by rw [PU.1 o];have:=P2 m H;omega) Y.m_) U7 fl_ (fun z aC _ J=>?_);obtain ⟨A7,m7,c7,rfl⟩:=A.form;refine Tj (j:=2) U12<|Te U6<|Th [4,5] b Z ?_;clear b p w R;rw [show bu [m % d]=m % d from (by show m % d+B9*0=m % d;omega)] at J;rw [B] at A;exact Tr 0 mup (hn_ [4,5] Z) ⟨_,z,⟨A.mono mup,J.mono mup⟩,Z,Z⟩
   refine Tz [cM (m % d)] U12 fun aA aB _ Y=>TM (vi _ L ak.m_) U7 fun E az _ A=>TG (vi _ (l:=[m % d]) (fun x o=>by rw [PU.1 o];have:=P2 m H;omega) Y.m_) U7 fl_ (fun z aC _ J=>?_);obtain ⟨A7,m7,c7,rfl⟩:=A.form;refine Tj (j:=2) U12<|Te U6<|Th [4,5] b Z ?_;clear b p w R;rw [show bu [m % d]=m % d from (by show m % d+B9*0=m % d;omega)] at J;rw [B] at A;exact Tr 0 mup (hn_ [4,5] Z) ⟨_,z,⟨A.mono mup,J.mono mup⟩,Z,Z⟩
  obtain ⟨E,z,⟨al,aE⟩,rfl,rfl⟩:=s;refine G.perm (L':=[.obj bD (.deferred (some [])),.obj g (.cells ⟨[E]⟩ 271 (0,0)),.obj k (.cells ⟨[.int .u64 ((m % d:Nat):Int)]⟩ 285 (0,0))]) (pkL [1,0,0] Z) ?_;obtain ⟨A7,m7,c7,rfl⟩:=al.form;refine Tn (Vp (Aa ag Z Z Z Z Z) ?_);exact ⟨Z,_,_,Z,al,aE⟩
 exact absurd ac dc_
theorem ve (h:Dig9 l)(a:k<=l.length):bu l / B9 ^ k=bu (l.drop k):=by
 have e:bu l=bu (l.take k)+B9 ^ k*bu (l.drop k):=by
  conv=>lhs;rw [<- Qs k l]
  rw [fu,PM,QD a]
 have h1:=iG (h.take k);rw [PM,QD a] at h1;rw [e,So _ _ (RU dc_),RS h1,QV]
theorem uc {b a:List Nat}(f:xw b)(c:xw a)(j:0<a.length)(m:a.length<=b.length):bu b / bu a<=bu (b.drop (a.length-1)) / g9 a (a.length-1)/\0<g9 a (a.length-1):=by
 have d:bu (a.drop (a.length-1))=g9 a (a.length-1):=by
  rw [fp om_,show a.length-1+1=a.length by omega,QA];show _+B9*0=_;omega
 have h1:=ve c.1 (k:=a.length-1) om_;have h2:=ve f.1 (k:=a.length-1) om_;have e:0<g9 a (a.length-1):=by
  rcases Qz (g9 a (a.length-1)) with h | h
  ·have h3:=wx (l:=a) (i:=a.length-1) om_;rw [h] at h3;exact absurd (by rw [RH];exact h3) c.2
  exact h
 refine ⟨?_,e⟩;rw [<- h2,<- d,<- h1,Nat.div_div_eq_div_mul];have g:0<B9 ^ (a.length-1):=RU dc_;rw [d] at h1;refine Nat.div_le_div_left (Nat.mul_div_le _ _) ?_;rw [h1];exact R2 g e
theorem AS (h:l.length=k+1):bu (l.drop k)=g9 l k:=by
 rw [fp om_,show k+1=l.length by omega,QA];show _+B9*0=_;omega
theorem IV (h:l.length=k+2):bu (l.drop k)=g9 l (k+1)*B9+g9 l k:=by
 rw [fp om_,AS (k:=k+1) om_,Qk];omega
theorem yW (c:xw a)(d:xw b)(h:bu b<=bu a):b.length<=a.length:=by
 rcases P4 a.length b.length with h1 | h1
 ·have:=tW c.1 d h1;omega
 exact h1
theorem xh (c:xw a)(d:xw b)(h:bu a<B9*bu b):a.length<=b.length+1:=by
 have h2:=iG d.1;refine sD c (QK h ?_);rw [QL,Qk];exact Qp _ (Nat.le_of_lt h2)
theorem jq {f:Nat}(a:m<B9 ^ k)(b:f<B9):m*f<B9 ^ (k+1):=by
 rw [QL];exact Rs a b
theorem Oy {a:Nat}(h:x<B9*a)(b:a<B9 ^ k):x<B9 ^ (k+1):=by
 rw [QL,Qk _ B9];exact RJ h (Nat.mul_lt_mul_of_pos_left b dc_)
theorem JL (l:List Nat):(l.map cM).all (fun r=>r.all me)=true:=by
 rw [List.all_map,PT];intro x _;rfl
theorem CZ (C:Mem)(va vb:Value)(m n:Nat)(ha:NineC C va m)(hb:NineC C vb n)(hm:m<B9 ^ 100000)(aG:B9<=n) :
  Pur cx.P 227 [va,vb] C fun u D=>∃ q r,u=.tuple #[q,r]/\NineC D q (m / n)/\NineC D r (m % n):=by
 have aH:0<n:=QK dc_ aG;have ad:=ha;have ae:=hb;obtain ⟨B,Q,bF,ah⟩:=hb;obtain ⟨A0,a0,c0,rfl⟩:=ha.form;obtain ⟨B0,d0,rfl,a2,bG,_⟩:=id ah;simp only [am] at ah ae a2 ⊢;have bH:maxLen<=9223372036854775807:=by simp [maxLen]
 have S:=B9v;have bI:2<=B.length:=by
  rcases P4 B.length 2 with h | h
  ·have h2:=iG Q.1;have h3:B9 ^ B.length<=B9 ^ 1:=PZ dc_ om_;rw [Nat.pow_one] at h3;omega
  exact h
 refine UI kr_ func227 Z 146 Z Z (fun w0=>?_);refine Tf fun R a=>?_;refine Tv U6 (fun b3=>?_);refine Tq U5 (fun e=>?_);refine C6 1 [0,3,4,5] a Z ?_;clear a R;refine Tc 1 Z fun R a=>?_
 skip
 refine Ti af U9 ?_;refine To (ph _ ad.m_ ae.m_) U7 ?_;refine C6 1 [0,3,4,5,17] a Z ?_;clear a R;refine G.cd (fun ai=>?_) fun ai=>?_
 ·have U:m<n:=by
   have:jA m n<0:=by simpa using ai
   exact iQ.1 this
  refine Tc 1 Z fun R a=>?_;refine Tj (j:=0) U12 ?_;refine C6 1 [4,5] a Z ?_;clear a R;refine Tn (UM (Aa ag Z Z Z Z Z) ?_ Jg);refine ⟨Z,_,_,Z, ?_, ?_⟩
  ·rw [RS U];exact NineC.zero _
  rw [Sn U];exact ad.mono mup
 have U:n<=m:=by
  have h:¬ jA m n<0:=by simpa using ai
  rw [iQ] at h;omega
 refine Tf fun R a=>?_;refine Ti af U9 ?_;refine C6 2 [0,3,4,5,21] a Z ?_;clear a R;refine G.cd (fun aI=>?_) fun aI=>?_
 ·exact absurd aI aq
 have bJ:=kD Q.1 (B.length-1);have a3:(B.map cM)[((B.length:Int)-1).toNat]?=some (cM (g9 B (B.length-1))):=by
  rw [show ((B.length:Int)-1).toNat=B.length-1 by omega];exact jb om_
 obtain ⟨f,hf⟩:∃ f,B9 / (g9 B (B.length-1)+1)=f:=⟨_,rfl⟩;refine Tf fun R a=>?_;refine Ti af U9 ?_;refine Ti af U9 ?_;refine Te U6 ?_;refine Tm _ U7 ?_;refine Tt ah.m_ U10 om_ a3 fl_ (fun bL a4=>?_);refine Td a4 U8 ?_;refine D.int (((g9 B (B.length-1)+1:Nat):Int)) U4 (by rw [IntKind.wrap_u64];omega) U2 ?_;refine Up (B9) (g9 B (B.length-1)+1) U6 om_ (.inr ⟨Z,by omega⟩) U2 ?_;refine C6 1 [0,3,4,5,9] a Z ?_;clear a R;rw [hf];have w:0<f:=by rw [<- hf];exact Nat.div_pos om_ om_
 have o:f<B9:=by
  rw [<- hf];have h1:=(uc Q Q om_ (Py _)).2;exact Nat.div_lt_self dc_ om_
 have y:n<B9 ^ 100000:=Qu U hm;refine Tx [0,1,3,4,2,5,6,7] [] Z kr_ (fun R S a=>?_);refine Tg 2 Z ?_;refine Ti af U9 ?_;refine Te U6 ?_;refine TG (xL (k:=100000) _ ad.m_ hm o om_) U7 fl_ (fun bM _ _ a5=>?_);refine TG (xL (k:=100000) _ ae.m_ y o om_) U7 fl_ (fun bN _ a6 aJ=>?_);refine Te U6 ?_;obtain ⟨a7,bO,a8,rfl⟩:=aJ.form;refine Tj (j:=1) U12 ?_;refine Th [0,3,4,5,9] a Z ?_;clear a S R;have aK:=a5.mono a6;have aL:=aJ;refine G.freeze 0 Z (fun C3 aM v=>?_);obtain ⟨P,a9,aj,bQ,ak⟩:=(aK.mono aM).get (jq hm o);obtain ⟨W,p,z,bR,V⟩:=(aL.mono aM).get (jq y o);obtain ⟨PA,pc,rfl,_⟩:=id ak;obtain ⟨bS,bT,bb,_⟩:=id V;cases bb
 simp only [am] at ak V v aK aL ⊢;have al:NineC C3 (.slice a7 W.length a8) (n*f):=⟨W,p,z,V⟩;have A:0<n*f:=R2 aH w;have an:n*f<B9 ^ 100001:=dH (k:=100001) (n:=100000+1) (jq (k:=100000) y o) (Py _);have bU:2<=W.length:=by
  have h1:B9<=bu W:=by rw [z];exact PP aG (RR _ w)
  rcases P4 W.length 2 with h | h
  ·have h2:=iG p.1;have h3:B9 ^ W.length<=B9 ^ 1:=PZ dc_ om_;rw [Nat.pow_one] at h3;omega
  exact h
 have bV:1<=P.length:=by
  rcases Qz P.length with h | h
  ·have:P=[]:=Ql h;subst this;have h1:m*f=0:=by rw [<- aj];rfl
   have h2:0<m*f:=R2 om_ w;omega
  exact h
 have bc:=(uc p p om_ (Py _)).2;have bW:=kD p.1 (W.length-1);refine Tc 2 Z fun R a=>?_;refine Um U9 (Py _) (by show 8*P.length<=281474976710656;omega) (by simp only [maxLen];omega) fl_ (fun d=>?_);refine Tj (j:=1) U12 ?_;refine Th [0,3,4,5,9] a Z ?_;clear a R;refine Tf fun R a=>?_;refine Td (PtrTo.block (Mem.get v mup) _) U8 ?_;refine Td (PtrTo.block (Mem.get v mup) _) U8 ?_;refine Te U6 ?_;refine Tm _ U7 ?_;refine Tt V.m_ U10 om_ (by rw [show ((W.length:Int)-1).toNat=W.length-1 by omega];exact jb om_:(W.map cM)[((W.length:Int)-1).toNat]?=some (cM (g9 W (W.length-1)))) fl_ (fun bX bd=>?_);refine Td bd U8 ?_;refine C6 1 [0,3,4,5,9,10] a Z ?_;clear a R;refine Tc 2 Z fun R a=>?_;refine Tm _ U7 ?_;refine C6 1 [0,3,4,5,9,10,11] a Z ?_;clear a R;refine Tu (L':=[.obj e (.cells ⟨[qU d P.length P.length]⟩ 271 (0,0)),.arr (qU d P.length P.length) 285 1 P.length ((List.replicate P.length 0).map cM).flatten]) (by rw [<- DD];rfl) ?_;refine G.loop (fun fr Y g E=>∃ (i:Nat)(c:List Nat)(v5:Value),(i<=P.length/\c.length=P.length/\Dig9 c/\bu (c.drop i)=bu (P.drop i) / (n*f)/\NineC Y v5 (bu (P.drop i) % (n*f))/\∀ j,j<i->g9 c j=0)/\fr=[(0,[],.slice PA P.length pc),(3,[],.pointer (some ⟨b3,0,none⟩)),(4,[],.pointer (some ⟨e,0,none⟩)),(5,[],v5),(9,[],.int .u64 f),(10,[],.int .u64 (g9 W (W.length-1))),(11,[],.int .i64 ((i:Int)-1))]/\g=[.obj e (.cells ⟨[qU d P.length P.length]⟩ 271 (0,0)),.arr (qU d P.length P.length) 285 1 P.length (c.map cM).flatten]/\E=i+1) (hn_ [0,3,4,5,9,10,11] Z) ⟨P.length,List.replicate P.length 0,_,⟨Py _,P9,(fun x hx=>by rw [RC hx];decide),by rw [QA,Sh ap];simp [bu],by rw [QA,show bu []=0 from Z,Nat.zero_mod];exact NineC.zero _,fun j _=>Ba _ j⟩,Z,Z,Z⟩ (fun fr bY bZ m _ F=>?_);obtain ⟨i,c,v5,⟨hi,aa,ao,H,ab,ar⟩,rfl,rfl,rfl⟩:=F;refine Tb 2 [0,3,4,5,9,10,11,78] Z ?_;refine G.cd (fun au=>?_) fun au=>?_
 ·have aN:0<i:=by
   have:(0:Int)<=(i:Int)-1:=by simpa using au
   omega
  obtain ⟨j,rfl⟩:∃ j,i=j+1:=⟨i-1,by omega⟩;obtain ⟨T,hT⟩:∃ T,bu (P.drop (j+1))=T:=⟨_,rfl⟩;rw [hT] at H ab;have aO:=P2 T A;obtain ⟨I,be,bf,b0,aP⟩:=ab.get (m:=100001) (RJ aO (dH (k:=100001) (n:=100000+1) (jq (k:=100000) y o) (Py _)));obtain ⟨RA,rc,aQ,_⟩:=id aP;rw [am] at aQ;subst aQ;obtain ⟨X,hX⟩:∃ X,g9 P j+B9*(T % (n*f))=X:=⟨_,rfl⟩;have aR:=kD a9.1 j;have bg:bu (g9 P j::I)=X:=by rw [bu,bf,hX]
  have J:=si (t:=T) (x:=g9 P j) A;have bh:=lS (t:=T) A aR;rw [hX] at J bh;have ac:bu (P.drop j)=g9 P j+B9*T:=by rw [fp om_,hT]
  refine TC [(7,3)] Z (fun R a=>?_);refine Tg 2 Z ?_;refine Tt ak.m_ U10 om_ (by rw [show ((((j+1:Nat):Int)-1)).toNat=j by omega];exact jb om_:(P.map cM)[((((j+1:Nat):Int)-1)).toNat]?=some (cM (g9 P j))) fl_ (fun b1 bi=>?_);refine Td bi U8 ?_;refine Un [cM (g9 P j)] U12 fl_ (fun b2=>?_);refine Te U6 ?_;refine D.append (j:=0) U11 aP.m_ (JL I) (by simp only [am,ba,maxLen];omega) (by simp only [am,ba];omega) fl_ (fun b5=>?_);refine D.call (gm _ _ (g9 P j::I) (n:=1+(I.map cM).length) (by rw [am];simp;omega)) Z (.inr dc_) U6 (PC _) fl_ (fun bj bk b6 _ bl=>?_);refine C6 1 [0,3,4,5,9,10,11] a Z ?_;clear a R;obtain ⟨rfl,hu⟩:=bl;have K:NineC bk bj X:=⟨DC (g9 P j::I),ij (fun x hx=>(PN.1 hx).elim (fun h=>by rw [h];exact aR) (be.1 x)),by rw [ii,bg],hu⟩;have aS:X<B9*(n*f):=by
   have h1:B9*(T % (n*f)+1)<=B9*(n*f):=QW _ aO;rw [QJ] at h1;omega
  have aT:X<B9 ^ 100002:=dH (k:=100002) (n:=100001+1) (Oy (k:=100001) aS an) (Py _);obtain ⟨b,L,av,b7,aw⟩:=K.get aT;obtain ⟨XA,xc,aU,_⟩:=id aw;rw [am] at aU;subst aU;refine Tc 1 Z fun R a=>?_;refine Td (PtrTo.block (Mem.get v mup) _) U8 ?_;refine To (ph _ K.m_ al.m_) U7 ?_;refine C6 1 [0,3,4,5,9,10,11,92] a Z ?_;clear a R;refine G.cd (fun ax=>?_) fun ax=>?_
  ·have aV:X<n*f:=by
    have:jA X (n*f)<0:=by simpa using ax
    exact iQ.1 this
   refine Tc 1 Z fun R a=>?_;refine Tm _ U7 ?_;refine C6 1 [0,3,4,5,9,10,11] a Z ?_;clear a R;rw [show ((j+1:Nat):Int)-1-1=(j:Int)-1 by omega];refine Tp (m':=j+1) om_ mup (hn_ [0,3,4,5,9,10,11] Z) ⟨j,c,_,⟨by omega,aa,ao,by rw [fp (l:=c) om_,ar j om_,H,ac,J.1,RS aV];omega,by rw [ac,J.2,Sn aV];exact K.mono mup,fun j' h=>ar j' om_⟩,Z,Z,Z⟩
  have bm:n*f<=X:=by
   have h:¬ jA X (n*f)<0:=by simpa using ax
   rw [iQ] at h;omega
  have bn:=yW L p (by rw [av,z];exact bm);have b8:=xh L p (by rw [av,z];exact aS);have ay:=(uc L p om_ bn).1;obtain ⟨s,az⟩:∃ s,bu (b.drop (W.length-1))=s:=⟨_,rfl⟩;rw [av,z,az] at ay;have b9:=kD L.1 (b.length-1);have ca:=kD L.1 (b.length-2);refine Tc 3 Z fun R a=>?_;refine Tm _ U7 ?_;refine Tt aw.m_ U10 om_ (by rw [show ((b.length:Int)-1).toNat=b.length-1 by omega];exact jb om_:(b.map cM)[((b.length:Int)-1).toNat]?=some (cM (g9 b (b.length-1)))) fl_ (fun cb bo=>?_);refine Td bo U8 ?_;refine C6 1 [0,3,4,5,9,10,11,12] a Z ?_;clear a R;refine Tc 2 Z fun R a=>?_;refine Td (PtrTo.block (Mem.get v mup) _) U8 ?_;refine C6 2 [0,3,4,5,9,10,11,12,103] a Z ?_;clear a R;refine G.cut (fun fr Y g E=>(s<1000000000000000000)/\fr=[(0,[],.slice PA P.length pc),(3,[],.pointer (some ⟨b3,0,none⟩)),(4,[],.pointer (some ⟨e,0,none⟩)),(5,[],.slice XA b.length xc),(9,[],.int .u64 f),(10,[],.int .u64 (g9 W (W.length-1))),(11,[],.int .i64 (((j+1:Nat):Int)-1)),(12,[],.int .u64 (s:Nat))]/\g=[.obj e (.cells ⟨[qU d P.length P.length]⟩ 271 (0,0)),.arr (qU d P.length P.length) 285 1 P.length (c.map cM).flatten]) ?_ (fun fr _ cc E _ F=>?_)
  ·refine G.cd (fun aA=>?_) fun aA=>?_
   ·have bp:b.length=W.length-1+2:=by
     have:(W.length:Int)<(b.length:Int):=by simpa using aA
     omega
    have M:=IV bp;rw [az,show W.length-1+1=b.length-1 by omega,show W.length-1=b.length-2 by omega] at M;have bq:g9 b (b.length-1)*B9<=999999999*B9:=Qp _ om_;rw [show 999999999*B9=999999999000000000 from rfl] at bq;refine Tc 1 Z fun R a=>?_;refine D.int (((g9 b (b.length-1)*B9:Nat):Int)) U4 (by rw [show (1000000000:Int)=((B9:Nat):Int) from Z,<- Qe,IntKind.wrap_u64];omega) U2 ?_;refine Tg 3 Z ?_;refine Tm _ U7 ?_;refine Tt aw.m_ U10 om_ (by rw [show ((b.length:Int)-2).toNat=b.length-2 by omega];exact jb om_:(b.map cM)[((b.length:Int)-2).toNat]?=some (cM (g9 b (b.length-2)))) fl_ (fun ce br=>?_);refine Td br U8 ?_;refine D.int (((s:Nat):Int)) U4 (by rw [M,IntKind.wrap_u64];omega) U2 ?_;refine C6 1 [0,3,4,5,9,10,11,12] a Z ?_;clear a R;refine Tr 0 mup (hn_ [0,3,4,5,9,10,11,12] Z) ⟨by omega,Z,Z⟩
   have bs:b.length=W.length-1+1:=by
    have:¬ (W.length:Int)<(b.length:Int):=by simpa using aA
    omega
   have M:=AS bs;rw [az,show W.length-1=b.length-1 by omega] at M;rw [<- M];refine Tr 0 mup (hn_ [0,3,4,5,9,10,11,12] Z) ⟨by omega,Z,Z⟩
  obtain ⟨cf,rfl,rfl⟩:=F;obtain ⟨N,aB⟩:∃ N,s / g9 W (W.length-1)=N:=⟨_,rfl⟩;rw [aB] at ay;have cg:N<=s:=by rw [<- aB];exact QE _ _
  refine Tc 2 Z fun R a=>?_;refine Up (s) (g9 W (W.length-1)) U6 bc (.inr ⟨Z,by omega⟩) U2 ?_;rw [aB];refine D.min (((min N 999999999:Nat):Int)) U6 om_ U2 ?_;refine C6 1 [0,3,4,5,9,10,11,12] a Z ?_;clear a R;refine Tf fun R a=>?_;refine Td (PtrTo.block (Mem.get v mup) _) U8 ?_;refine Te U6 ?_;refine TG (xL (k:=100001) _ al.m_ an om_ om_) U7 fl_ (fun bt _ _ bv=>?_);refine C6 1 [0,3,4,5,9,10,11,12,13] a Z ?_;clear a R;refine G.loop (fun fr Y g E=>∃ (dd:Nat)(aC:Value),(X / (n*f)<=dd/\dd<B9/\NineC Y aC (n*f*dd))/\fr=[(0,[],.slice PA P.length pc),(3,[],.pointer (some ⟨b3,0,none⟩)),(4,[],.pointer (some ⟨e,0,none⟩)),(5,[],.slice XA b.length xc),(9,[],.int .u64 f),(10,[],.int .u64 (g9 W (W.length-1))),(11,[],.int .i64 (((j+1:Nat):Int)-1)),(12,[],.int .u64 (dd:Nat)),(13,[],aC)]/\g=[.obj e (.cells ⟨[qU d P.length P.length]⟩ 271 (0,0)),.arr (qU d P.length P.length) 285 1 P.length (c.map cM).flatten]/\E=dd+1) (hn_ [0,3,4,5,9,10,11,12,13] Z) ⟨min N 999999999,bt,⟨by have h:=Nat.le_min.2 ⟨ay,(by omega:X / (n*f)<=999999999)⟩;exact h,by omega,bv.mono mup⟩,Z,Z,Z⟩ (fun fr ch ci m _ F=>?_);obtain ⟨dd,aC,⟨bw,aW,aE⟩,rfl,rfl,rfl⟩:=F;refine Tc 2 Z fun R a=>?_;refine To (ph _ aE.m_ K.m_) U7 ?_;refine C6 1 [0,3,4,5,9,10,11,12,13,123] a Z ?_;clear a R;refine G.cd (fun aF=>?_) fun aF=>?_
  ·have O:X<n*f*dd:=by
    have:0<jA (n*f*dd) X:=by simpa using aF
    exact E6.1 this
   have bx:1<=dd:=by
    rcases Qz dd with h | h
    ·rw [h] at O;omega
    exact h
   refine Tc 1 Z fun R a=>?_;refine Td (PtrTo.block (Mem.get v mup) _) U8 ?_;refine TG (tS (k:=100002) _ aE.m_ al.m_ (dH (k:=100002) (n:=100001+1) (jq (k:=100001) an aW) (Py _)) (RR _ bx) om_) U7 fl_ (fun bz _ _ aX=>?_);refine C6 1 [0,3,4,5,9,10,11,12,13] a Z ?_;clear a R;refine Tc 1 Z fun R a=>?_;refine D.int (((dd-1:Nat):Int)) U4 (by rw [IntKind.wrap_u64];omega) U2 ?_;refine C6 1 [0,3,4,5,9,10,11,12,13] a Z ?_;clear a R;rw [show n*f*dd-n*f=n*f*(dd-1) from by rw [Nat.mul_sub,QG]] at aX;refine Tp (m':=dd-1+1) om_ mup (hn_ [0,3,4,5,9,10,11,12,13] Z) ⟨dd-1,bz,⟨by have h:=(Rn A).2 (by rw [Qk];exact O);omega,by omega,aX.mono mup⟩,Z,Z,Z⟩
  have O:n*f*dd<=X:=by
   have h:¬ 0<jA (n*f*dd) X:=by simpa using aF
   rw [E6] at h;omega
  have aY:dd=X / (n*f):=Nat.le_antisymm ((Nat.le_div_iff_mul_le A).2 (by rw [Qk];exact O)) bw;have bA:X-n*f*dd=X % (n*f):=by rw [aY];have:=Su X (n*f);omega
  refine Tx [0,1,2,3,4,5,6,7,8] [] Z kr_ (fun R S a=>?_);refine Ti ag U9 ?_;refine Tg 4 Z ?_;refine TG (tS (k:=100002) _ K.m_ aE.m_ aT O om_) U7 fl_ (fun bB _ _ aZ=>?_);refine TE (j*1) U10 (fun _=>⟨by omega,by omega,(by rw [show (((j+1:Nat):Int)-1).toNat=j by omega])⟩) U2 ?_;refine TJ (j:=1) U11 (by show j*1+1<=_;rw [bP eD,aa];omega) ?_;refine Te U6 ?_;refine Th [0,3,4,5,9,10,11] a Z ?_;clear a S R;refine Tc 1 Z fun R a=>?_;refine Tm _ U7 ?_;refine C6 1 [0,3,4,5,9,10,11] a Z ?_;clear a R;rw [show ((j+1:Nat):Int)-1-1=(j:Int)-1 by omega];refine G.perm (L':=[.obj e (.cells ⟨[qU d P.length P.length]⟩ 271 (0,0)),.arr (qU d P.length P.length) 285 1 P.length (aD (c.map cM).flatten (cM dd) (j*1))]) (List.Perm.swap _ _ _) ?_;refine Tu (L':=[.obj e (.cells ⟨[qU d P.length P.length]⟩ 271 (0,0)),.arr (qU d P.length P.length) 285 1 P.length ((c.set j dd).map cM).flatten]) (by rw [<- bK eD _ (by omega:j<c.length)]) ?_;rw [bA] at aZ;refine Tp (m':=j+1) om_ mup (hn_ [0,3,4,5,9,10,11] Z) ⟨j,c.set j dd,bB,⟨by omega,by simp [aa],ao.set aW,by rw [kR om_,H,ac,J.1,aY];omega,by rw [ac,J.2];exact aZ.mono mup,fun j' h=>by rw [pK om_];exact ar j' om_⟩,Z,Z,Z⟩
 have aN:i=0:=by
  have:¬ (0:Int)<=(i:Int)-1:=by simpa using au
  omega
 subst aN;rw [QO,QO,aj,Nat.mul_div_mul_right _ _ w] at H;rw [QO,aj,Nat.mul_mod_mul_right] at ab;refine Tc 2 Z fun R a=>?_;refine Tz [cM f] U12 (fun cj _ _ bC=>?_);refine TG (sf _ _ _ (m % n*f) f ab.m_ (by
  have h1:=jq (k:=100000) (RJ (P2 m aH) y) o;exact dH (k:=200000) (n:=100000+1) h1 dc_) bC.m_ w o) U7 fl_ (fun ck _ _ bD=>?_)
 obtain ⟨q2,r2,rfl,a1,cl⟩:=bD;rw [Nat.mul_div_cancel _ w] at a1;refine C6 4 [4,5] a Z ?_;clear a R;refine G.perm (L':=[.arr (qU d P.length P.length) 285 1 P.length (c.map cM).flatten,.obj e (.cells ⟨[qU d P.length P.length]⟩ 271 (0,0))]) (List.Perm.swap _ _ _) ?_;refine TC [(1,3)] Z (fun R a=>?_);refine Ti af U9 ?_;refine D.call (gm _ _ c aa) Z (.inr dc_) U6 (PC _) fl_ (fun cm _ cn _ bE=>?_);refine Te U6 ?_;obtain ⟨rfl,hu⟩:=bE;obtain ⟨Au,cu,rfl,_⟩:=id hu;refine Tj (j:=0) U12 ?_;refine C6 1 [4,5] a Z ?_;clear a R;refine Tn (UM (Aa ag Z Z Z Z Z) ?_ Jg);exact ⟨Z,_,_,Z,⟨DC c,ij ao,by rw [ii,H],hu⟩,a1.mono mup⟩
theorem wJ (C:Mem)(a b:Value)(m n:Nat)(g:NineC C a m)(h:NineC C b n)(i:m<B9 ^ 100000)(f:0<n) :
  Pur cx.P 227 [a,b] C fun u D=>∃ q r,u=.tuple #[q,r]/\NineC D q (m / n)/\NineC D r (m % n):=by
 rcases P4 n B9 with c | c
 ·obtain ⟨l,h1,h2,h3,h4⟩:=h.get (m:=1) (by rw [Nat.pow_one];exact c);have j:l≠[]:=fun e=>by rw [e] at h2;rw [<- h2] at f;exact absurd f dc_
  obtain ⟨d,rfl⟩:∃ d,l=[d]:=by
   cases l with
   | nil=>exact absurd rfl j
   | cons d l=>cases l with
    | nil=>exact ⟨d,rfl⟩
    | cons e l=>simp at h3
  have o:d=n:=by rw [<- h2];show d=d+B9*0;omega
  subst o;exact sf C a b m d g (dH (k:=200000) (n:=100000) i dc_) h4 f c
 exact CZ C a b m n g h i c
theorem I5 (C:Mem)(s:Str)(c:UInt8):Gives cx.P 250 [ah s,ah [c]] C (.bool (cI c s).2):=by
 exact Tk func250 8 U3 fun w0=>Tb 1 [0,1] Z<|Tc 2 Z fun R a=>To (yw _ s c) U7<|C6 1 [4] a Z<|Tl U2<|⟨Z,Z⟩
theorem DS (C:Mem)(s:Str)(c:UInt8):Gives cx.P 277 [ah s,ah [c]] C (ah (cI c s).1):=by
 refine Tk func277 13 U3 fun w0=>Tb 1 [0,1] Z<|Tc 2 Z fun R d=>To (yw _ s c) U7<|Th [0,1,7] d Z<|G.cd (fun a=>?_) fun a=>?_
 ·have h:s.head?=some c:=P1 fun h=>by unfold cI at a;rw [aF h] at a;cases a
  have e:1<=s.length:=by cases s with
   | nil=>cases h
   | cons b s=>simp
  refine Tc 3 Z fun R d=>Uj 1 s.length U9 (fun _=>⟨.inr ⟨_,Z⟩,.inl ⟨Z,Z⟩,.inl ⟨Z,Z⟩,by omega,Py _,Py _⟩) U2<|C6 1 [4] d Z<|Tl U2 ?_;unfold cI;rw [aL h];refine ⟨?_,Z⟩;rw [PO,List.drop_one];rfl
 have h:¬ s.head?=some c:=fun h=>by unfold cI at a;rw [aL h] at a;cases a
 refine Tb 2 [4] Z<|Tl U2 ?_;unfold cI;rw [aF h];exact ⟨Z,Z⟩
theorem zD (C:Mem)(s:Str)(c:UInt8):Gives cx.P 225 [ah s,ah [c]] C (ah (cI c s).1):=by
 exact Tk func225 8 U3 fun w0=>Tb 1 [0,1] Z<|Tc 2 Z fun R a=>To (DS _ s c) U7<|C6 1 [4] a Z<|Tl U2<|⟨Z,Z⟩
def dE (z:Int):Int:=if z<0 then -1 else if z=0 then 0 else 1
theorem lH (C:Mem)(z:Int):Gives cx.P 186 [ah (txt z)] C (.int .i64 (dE z)):=by
 refine Tk func186 9 U3 fun w0=>Tb 1 [0] Z ?_
 skip
 refine Tb 3 [0,3] Z<|G.cd (fun h3=>?_) fun h3=>?_
 ·have b:z=0:=by
   have h:=kS z;rw [h] at h3;exact OQ h3
  exact Tb 1 [2] Z<|Tl U2<|⟨by rw [b];rfl,Z⟩
 have b:z≠0:=by
  have h:=kS z;rw [h] at h3;exact PE h3
 refine Tc 1 Z fun R d=>To (I5 _ (txt z) 45) U7<|C6 1 [6] d Z<|G.cd (fun a=>?_) fun a=>?_
 ·have c:z<0:=by
   rw [dJ] at a;exact OQ a
  exact Tb 1 [2] Z<|Tl U2<|⟨by rw [dE,aL c],Z⟩
 have c:¬ z<0:=by
  rw [dJ] at a;exact PE a
 exact Tb 1 [2] Z<|Tl U2<|⟨by rw [dE,aF c,aF b],Z⟩
theorem rT (C:Mem)(a:Tabs C)(z:Int)(b:-9223372036854775808<=z)(c:z<=9223372036854775807):Gives cx.P 185 [.int .i64 z] C (ah (txt z)):=by
 exact Tk func185 5 U3 fun w0=>Tb 1 [0] Z<|Tc 1 Z fun R d=>To (iZ _ a.m_ z b c) U7<|C6 1 [2] d Z<|Tl U2<|⟨Z,Z⟩
theorem ml (z:Int):(txt z).length<=(bk z.natAbs).length+1:=by unfold txt;split <;> simp
theorem tZ (C:Mem)(z:Int)(e:(bk z.natAbs).length<=1000000):Gives cx.P 133 [ah (txt z)] C (ah (txt (-z))):=by
 have f:=ml z;refine Tk func133 14 U3 fun w0=>Tb 1 [0] Z<|Tc 1 Z fun R a=>To (lH _ z) U7<|Th [0,4] a Z<|Tb 2 [0,4,5] Z<|G.cd (fun h5=>?_) fun h5=>?_
 ·have d:0<z:=by
   have h:dE z=1:=by simpa using h5
   unfold dE at h;split at h
   ·cases h
   split at h
   ·cases h
   omega
  refine Tc 1 Z fun R a=>Uh U6 (fun _=>(by simp only [PR,P6];omega)) U2<|C6 1 [2] a Z<|Tl U2<|⟨?_,Z⟩;unfold txt;rw [aF om_,aL om_,Sz];rfl
 have d:¬ 0<z:=fun h=>by
  have h2:dE z=1:=by unfold dE;rw [aF om_,aF om_]
  rw [h2] at h5;cases h5
 refine Tb 2 [0,9] Z<|G.cd (fun b=>?_) fun b=>?_
 ·have c:z<0:=by
   have h:dE z=-1:=by simpa using b
   unfold dE at h;split at h
   ·assumption
   split at h <;> cases h
  refine Tc 1 Z fun R a=>Uj 1 (txt z).length U9 (fun _=>⟨.inr ⟨_,Z⟩,.inl ⟨Z,Z⟩,.inl ⟨Z,Z⟩,(by unfold txt;rw [aL c];simp),Py _,Py _⟩) U2<|C6 1 [2] a Z<|Tl U2<|⟨?_,Z⟩;rw [PO];unfold txt;rw [aL c,aF om_,Sz];rfl
 have c:¬ z<0:=fun h=>by
  have h2:dE z=-1:=by unfold dE;rw [aL h]
  rw [h2] at b;cases b
 refine Tb 2 [2] Z<|Tl U2<|⟨?_,Z⟩;rw [show z=0 by omega];rfl
theorem GG:∀ {s t:Str},(∀ c∈s,eO c=true)->(∀ c∈t,eO c=true)->s.length=t.length->Lib.compareBytes s t=jA (bU s) (bU t)
 | [],[],_,_,_=>rfl
 | [],_::_,_,_,h=>by simp at h
 | _::_,[],_,_,h=>by simp at h
 | c::s,d::t,hs,g,k=>by
  have e:s.length=t.length:=by simpa using k
  have i:∀ x∈s,eO x=true:=fun x f=>hs x (by simp [f]);have j:∀ x∈t,eO x=true:=fun x f=>g x (by simp [f]);have l:=GG i j e;have h1:=dS i;have h2:=dS j;have m:=hs c ap;have n:=g d ap;simp only [eO,PI] at m n;rw [dK,dK,e];rw [e] at h1;simp only [Lib.compareBytes];obtain ⟨p,o⟩:∃ p,10 ^ t.length=p:=⟨_,rfl⟩;rw [o] at h1 h2 ⊢;by_cases a:c<d
  ·rw [aL a];have r:c.toNat<d.toNat:=a;have h3:(c.toNat-48+1)*p<=(d.toNat-48)*p:=Qp _ om_;rw [Re] at h3;unfold jA;rw [aL om_]
  rw [aF a];by_cases b:d<c
  ·rw [aL b];have u:d.toNat<c.toNat:=b;have h3:(d.toNat-48+1)*p<=(c.toNat-48)*p:=Qp _ om_;rw [Re] at h3;unfold jA;rw [aF om_,aL om_]
  rw [aF b,l];have q:c.toNat=d.toNat:=by
   have h3:¬ c.toNat<d.toNat:=a;have h4:¬ d.toNat<c.toNat:=b;omega
  rw [q];unfold jA;split <;> rename_i h5
  ·rw [aL om_]
  split <;> rename_i v
  ·rw [aF om_,aL om_]
  rw [aF om_,aF om_]
theorem pV {a b:Nat}(h:(bk a).length<(bk b).length):a<b:=by
 obtain ⟨h1,h2⟩:=bA a;obtain ⟨h3,h4⟩:=bA b;have c:=Qi.2 h1.2.1;have h5:=dS h1.1;have d:=oa h3 om_;have e:10 ^ (bk a).length<=10 ^ ((bk b).length-1):=PZ dc_ om_;omega
theorem MM {a b:Nat}(h:(bk a).length=(bk b).length):Lib.compareBytes (bk a) (bk b)=jA a b:=by
 obtain ⟨h1,h2⟩:=bA a;obtain ⟨h3,h4⟩:=bA b;rw [GG h1.1 h3.1 h,h2,h4]
def uS (z w:Int):Int:=if z<w then -1 else if w<z then 1 else 0
theorem ec (z:Int):(z<0/\dE z=-1)∨(z=0/\dE z=0)∨(0<z/\dE z=1):=by
 unfold dE;split
 ·exact .inl ⟨by assumption,Z⟩
 split
 ·exact .inr (.inl ⟨by assumption,Z⟩)
 exact .inr (.inr ⟨by omega,Z⟩)
theorem yS (h:dE z=dE w):uS z w=dE z*jA z.natAbs w.natAbs:=by
 have a:=ec w;rw [<- h] at a;unfold uS jA;rcases ec z with ⟨h1,h2⟩ | ⟨h1,h2⟩ | ⟨h1,h2⟩ <;> rw [h2] at a ⊢
 ·have h3:w<0:=by omega
  split <;> split <;> (try split) <;> omega
 ·have h3:w=0:=by omega
  subst h1 h3;simp
 have h3:0<w:=by omega
 split <;> split <;> (try split) <;> omega
theorem H1 (z:Int):IntKind.i64.wrap (-(dE z))=-(dE z):=by
 rcases ec z with ⟨h1,h2⟩ | ⟨h1,h2⟩ | ⟨h1,h2⟩ <;> rw [h2] <;> rfl
theorem Ea (C:Mem)(a b:Str):Gives cx.P 226 [ah a,ah b] C (.int .i64 (Lib.compareBytes a b)):=xV Tryz.scmp a b C kr_
theorem pG (C:Mem)(z w:Int)(_m:(bk z.natAbs).length<=1000000)(_n:(bk w.natAbs).length<=1000000):Gives cx.P 161 [ah (txt z),ah (txt w)] C (.int .i64 (uS z w)):=by
 have ez:(cI 45 (txt z)).1=bk z.natAbs:=by rw [dJ]
 have j:(cI 45 (txt w)).1=bk w.natAbs:=by rw [dJ]
 refine Tk func161 41 U3 fun w0=>Tb 1 [0,1] Z<|Tc 1 Z fun R b=>To (lH _ z) U7<|Te U6<|To (lH _ w) U7<|C6 2 [0,1,5,6] b Z<|Tb 3 [0,1,5,6,15] Z<|G.cd (fun c=>?_) fun c=>?_
 ·have k:dE z≠dE w:=by simpa using c
  refine Tb 3 [18] Z<|G.cd (fun d=>?_) fun d=>?_
  ·have a:dE z<dE w:=by simpa using d
   refine Tb 1 [4] Z<|Tl U2<|⟨?_,Z⟩;rw [uS,aL (by unfold dE at a;split at a <;> split at a <;> (try split at a) <;> omega)]
  have a:¬ dE z<dE w:=by simpa using d
  refine Tb 1 [4] Z<|Tl U2<|⟨?_,Z⟩;have h:w<z:=by
   have h2:dE w<dE z:=by omega
   unfold dE at h2;split at h2 <;> split at h2 <;> (try split at h2) <;> omega
  rw [uS,aF om_,aL h]
 have f:dE z=dE w:=by simpa using c
 refine Tc 1 Z fun R b=>To (zD _ (txt z) 45) U7<|Te U6<|To (zD _ (txt w) 45) U7 ?_;rw [ez,j];refine C6 2 [5,7,8] b Z<|Tb 5 [5,7,8,27] Z<|G.cd (fun g=>?_) fun g=>?_
 ·have k:(bk z.natAbs).length≠(bk w.natAbs).length:=fun e=>by
   have h:(((bk z.natAbs).length:Nat):Int)≠(((bk w.natAbs).length:Nat):Int):=by simpa using g
   exact h (by rw [e])
  refine Tb 5 [5,32] Z<|G.cd (fun i=>?_) fun i=>?_
  ·have a:z.natAbs<w.natAbs:=pV (by
    have h:(((bk z.natAbs).length:Nat):Int)<(((bk w.natAbs).length:Nat):Int):=by simpa using i
    omega)
   refine Tb 3 [4] Z<|Tl U2<|⟨?_,Z⟩;rw [Int.zero_sub,H1,yS f,show jA z.natAbs w.natAbs=-1 from aL a];congr 1;omega
  have a:w.natAbs<z.natAbs:=pV (by
   have h:¬ (((bk z.natAbs).length:Nat):Int)<(((bk w.natAbs).length:Nat):Int):=by simpa using i
   omega)
  refine Tb 2 [4] Z<|Tl U2<|⟨?_,Z⟩;rw [yS f,show jA z.natAbs w.natAbs=1 from by unfold jA;rw [aF om_,aL a]];congr 1;omega
 have l:(bk z.natAbs).length=(bk w.natAbs).length:=by
  have h:(((bk z.natAbs).length:Nat):Int)=(((bk w.natAbs).length:Nat):Int):=by simpa using g
  omega
 refine Tc 3 Z fun R b=>To (Ea _ (bk z.natAbs) (bk w.natAbs)) U7 ?_;rw [MM l];refine TL ((uS z w)) U4 (by rw [yS f]) (by unfold uS;split <;> (try split) <;> omega) (by unfold uS;split <;> (try split) <;> omega) U2 ?_
 exact C6 1 [4] b Z<|Tl U2<|⟨Z,Z⟩
def nC (b:Bool):Int:=if b then 0 else 2
theorem wu (C:Mem)(s:Str):Gives cx.P 160 [ah s] C (.int .i64 (nC (cE s))):=by
 obtain ⟨t,neg,p⟩:∃ t b,cI 45 s=(t,b):=⟨_,_,rfl⟩;have g:cE s=(t.all eO && !(t == []) && !(t.head? == some 48 && (neg || decide (1<t.length))) && decide (t.length<=200)):=by unfold cE xf;rw [p]
 refine Tk func160 47 U3 fun w0=>Tb 1 [0] Z<|Tc 1 Z fun R a=>Ts (by have h:=GC C s 45;rw [p] at h;exact h) U7 fl_<|C6 5 [3,4] a Z<|Tc 6 Z fun R a=>TN U8<|Tg 2 Z<|Ue (b:=t.headD 0) U8 (fun r=>⟨by omega,(by
  cases t with
  | nil=>exact Bool.noConfusion (show true=false from r.1)
  | cons b t=>rfl)⟩) U2 ?_
 refine Tg 7 Z<|TN U8<|TB U8<|TN U8<|Th [3,30] a Z<|G.cd (fun d=>?_) fun d=>?_
 ·have j:cE s=false:=by
   rw [g];cases t with
   | nil=>simp
   | cons b t =>
    simp at d;rcases d with h | ⟨h,h2⟩
    ·simp;intro _ _;omega
    have e:b=48:=SN.1 (by show b.toNat=48;omega);subst e;have u:(neg || decide (1<((48:UInt8)::t).length))=true:=by
     rcases h2 with h2 | h2
     ·rw [PV aq];simp
     rw [h2];rfl
    rw [u];simp
  exact Tb 1 [2] Z<|Tl U2<|⟨by rw [j];rfl,Z⟩
 have v:t.length<=200:=by
  simp at d;omega
 refine Tb 3 [3,32,33] Z<|G.loop (fun fr E w y=>∃ (i:Nat),(i<=t.length/\∀ c∈t.take i,eO c=true)/\fr=[(3,[],ah t),(32,[],.int .i64 t.length),(33,[],.int .i64 i)]/\w=[]/\y=t.length-i) (hn_ [3,32,33] Z) ⟨0,⟨PG _,by simp⟩,Z,Z,Z⟩ (fun fr F H m _ z=>?_);obtain ⟨i,⟨I,k⟩,rfl,rfl,rfl⟩:=z;refine Tb 1 [3,32,33,34] Z<|G.cd (fun l=>?_) fun l=>?_
 ·have n:i<t.length:=by simpa using l
  obtain ⟨c,f⟩:∃ c,t[i]?=some c:=⟨t[i],al n⟩;refine Tb 2 [3,5,32,33] Z<|Tc 2 Z fun R a=>Ue U8 (fun _=>⟨by omega,f⟩) U2<|Tg 4 Z<|Ue U8 (fun _=>⟨by omega,f⟩) U2<|Te U6<|TN U8<|Th [3,32,33,45] a Z<|G.cd (fun o=>?_) fun o=>?_
  ·have j:cE s=false:=by
    have h1:t.all eO=false:=by
     rw [RM];refine ⟨c,Px f, ?_⟩;simp at o;unfold eO;simp;omega
    rw [g,h1];rfl
   exact Tb 1 [2] Z<|Tl U2<|⟨by rw [j];rfl,Z⟩
  have A:eO c=true:=by
   simp at o;unfold eO;simp;omega
  refine Tf fun R a=>Tm _ U7<|C6 1 [3,32,33] a Z<|Tp (m':=t.length-(i+1)) om_ mup (hn_ [3,32,33] Z) ⟨i+1,⟨by omega,fun x q=>by
   rw [P0,f] at q;rcases PQ.1 q with h | h
   ·exact k x h
   simp at h;subst h;exact A⟩,rfl,rfl,rfl⟩
 have n:t.length<=i:=by
  have:¬ i<t.length:=by simpa using l
  omega
 rw [Qg n] at k;have B:t.all eO=true:=PT.2 k;have D:cE s=true:=by
  rw [g,B,PV v];cases t with
  | nil=>simp at d
  | cons b t =>
   simp at d;simp;by_cases e:b=48
   ·subst e;have h5:=d.2;simp at h5;exact .inr ⟨h5.2,Ql om_⟩
   exact .inl e
 exact Tb 1 [2] Z<|Tl U2<|⟨by rw [D];rfl,Z⟩
end Go.Proofs.YtfjcldheldflbaaGreatDoor
