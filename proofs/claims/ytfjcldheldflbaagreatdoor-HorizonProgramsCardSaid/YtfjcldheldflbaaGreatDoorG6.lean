/- Laws that the proofs of this seat share, part 6. -/
import Derived.Test.YtfjcldheldflbaaGreatDoorG5
import Derived.Test.YtfjcldheldflbaaGreatDoorShelf
set_option maxHeartbeats 4000000
namespace Go.Proofs.YtfjcldheldflbaaGreatDoor
open Go.Proofs.Tryz
open Go Go.Jog
set_option maxRecDepth 100000
variable {Q:Nat}{a b:List Nat}{i j k:Nat}{l:List Nat}{m n:Nat}{o p:List Int}{q:List Nat}{s:Str}{t:Nat}{w:Int}{x:Nat}{z:Int}
def gI (p:List Int)(i:Nat):Int:=p.getD i 0
theorem Gh (h:k<p.length):(p.map pU)[k]?=some (pU (gI p k))/\p[k]?=some (gI p k):=by
 have e:p[k]?=some (gI p k):=by
  unfold gI;rw [ax,ak h];rfl
 exact ⟨by rw [Pi,e];rfl,e⟩
theorem rR (h:p.length<=k):gI p k=0:=by
 unfold gI;rw [ax,Pq h];rfl
theorem KX (p:List Int)(k:Nat):iC (p.take (k+1))=iC (p.take k)+(10000:Int) ^ k*gI p k:=by
 rcases PQ k p.length with h | h
 ·exact D2 (Gh h).2
 rw [rR h,PZ h,PZ om_];simp
theorem EN (o:Int):(o-o % 10000).tdiv 10000=(o-o % 10000) / 10000:=Int.tdiv_eq_ediv_of_dvd (Int.dvd_of_emod_eq_zero om_)
theorem JG (C:Mem)(v:Value)(p:List Int)(g:Sl C 1 v (p.map pU))(H:0<=iC p)(I:∀ x∈p, -1000000000000<=x/\x<=1000000000000)(O:p.length<=100000):Pur cx.P 235 [v] C fun u D=>PieC D u (iC p).toNat:=by
 obtain ⟨k,c0,rfl,_⟩:=id g;simp only [al] at g ⊢;refine S4 func235 43 U3 fun w0=>SR 1 [0] Z<|SR 1 [0,3] Z<|SR 1 [0,3,4] Z<|SR 1 [0,3,4,5] Z<|G.nilArr 3 1<|G.loop (fun fr B b c=>∃ (i:Nat)(o:Int)(out:List Nat)(w:Value),(out.length=i/\DigP out/\-1000000000000<=o/\o<=1000000000000/\iC (p.take i)=(bK out:Nat)+(10000:Int) ^ i*o/\(p.length<=i->(i:Int)+o<=1000000100000))/\fr=[(0,[],.slice k p.length c0),(3,[],w),(4,[],.int .i64 o),(5,[],.int .i64 i)]/\b=[.arr w 3 1 i (out.map aT).flatten]/\c=(p.length-i)*4611686018427387904+o.natAbs) (hn_ [0,3,4,5] Z) ⟨0,0,[],_,⟨Z,(fun x J=>(by cases J)),by omega,by omega,by simp [iC,bK],fun h=>by omega⟩,Z,Z,Z⟩ (fun fr Q S m _ d=>?_);obtain ⟨i,o,out,w,⟨e,l,T,U,n,E⟩,rfl,rfl,rfl⟩:=d;have q:p.length<=i->0<=o:=fun h=>by
  refine ID e l (V:=iC p) H ?_;rw [<- n,PZ h]
 have W:(i:Int)<=1000000100000:=by
  rcases PQ i p.length with h | h
  ·omega
  have:=q h;have:=E h;omega
 refine SS 7 Z fun R a=>Tt U8<|SY [0,3,4,5,14] a Z<|G.cd (fun r=>?_) fun r=>?_
 ·have s:i<p.length∨o≠0:=by
   simp at r;omega
  have X:-1000000000000<=gI p i/\gI p i<=1000000000000:=by
   rcases PQ i p.length with h | h
   ·exact I _ (Pe (Gh h).2)
   rw [rR h];omega
  refine SR 4 [0,3,4,5,20] Z<|G.cut (fun fr B b c=>(True)/\fr=[(0,[],.slice k p.length c0),(3,[],w),(4,[],.int .i64 (o+gI p i)),(5,[],.int .i64 i)]/\b=[.arr w 3 1 i (out.map aT).flatten]) ?_ (fun fr _ Y c _ d=>?_)
  ·refine G.cd (fun t=>?_) fun t=>?_
   ·have f:i<p.length:=by simpa using t
    refine SS 3 Z fun R a=>Ta g.m_ U10 om_ (Gh f).1 fl_ fun aa K=>SU K U8<|S2 _ Z U6<|C6 1 [0,3,4,5] a Z<|S9 0 (Mem.le.refl _) (hn_ [0,3,4,5] Z) ⟨trivial,Z,Z⟩
   have f:p.length<=i:=by
    have:¬ i<p.length:=by simpa using t
    omega
   rw [show o=o+gI p i by rw [rR f,Int.add_zero]];refine S9 0 (Mem.le.refl _) (hn_ [0,3,4,5] Z) ⟨trivial,by rw [rR f];simp,Z⟩
  obtain ⟨_,rfl,rfl⟩:=d;refine SS 1 Z fun R a=>Vm (Int.tmod (o+gI p i) 10000) Z Z Z Z Z Z om_ Z Z Z<|C6 1 [0,3,4,5,6] a Z ?_;have y:=If (o+gI p i);have ab:-10000<=Int.tmod (o+gI p i) 10000/\Int.tmod (o+gI p i) 10000<10000:=by
   have:=Sx (o+gI p i) (show (10000:Int)≠0 by decide);have:=Int.emod_lt_of_pos (o+gI p i) (show (0:Int)<10000 by decide);split at y <;> omega
  refine SR 2 [0,3,4,5,6,30] Z<|G.cut (fun fr B b c=>(True)/\fr=[(0,[],.slice k p.length c0),(3,[],w),(4,[],.int .i64 (o+gI p i)),(5,[],.int .i64 i),(6,[],.int .i64 (((o+gI p i) % 10000).toNat:Nat))]/\b=[.arr w 3 1 i (out.map aT).flatten]) ?_ (fun fr _ ac c _ d=>?_)
  ·refine G.cd (fun z=>?_) fun z=>?_
   ·have A:Int.tmod (o+gI p i) 10000<0:=by simpa using z
    rw [aL A] at y;refine SS 1 Z fun R a=>Ts (((((o+gI p i) % 10000).toNat:Nat):Int)) U4 om_ om_ om_ U2<|C6 1 [0,3,4,5,6] a Z<|S9 0 (Mem.le.refl _) (hn_ [0,3,4,5,6] Z) ⟨trivial,Z,Z⟩
   have A:¬ Int.tmod (o+gI p i) 10000<0:=by simpa using z
   rw [aF A] at y;rw [show Int.tmod (o+gI p i) 10000=((((o+gI p i) % 10000).toNat:Nat):Int) by omega];refine S9 0 (Mem.le.refl _) (hn_ [0,3,4,5,6] Z) ⟨trivial,Z,Z⟩
  obtain ⟨_,rfl,rfl⟩:=d;refine SS 2 Z fun R a=>Th [aT (((o+gI p i) % 10000).toNat)] U12 fun ad _ _ L=>D.append (j:=0) U11 L Z aw (by show (i+1)*8<=_;omega) fl_ fun F=>C6 1 [0,3,4,5,6] a Z<|SS 2 Z fun R a=>Ts ((o+gI p i-(o+gI p i) % 10000)) U4 om_ om_ om_ U2<|Ub ((o+gI p i-(o+gI p i) % 10000) / 10000) U6 om_ (EN _) (by rw [IntKind.wrap_i64];omega) U2<|C6 1 [0,3,4,5] a Z<|SS 1 Z fun R a=>S2 _ Z U6<|C6 1 [0,3,4,5] a Z ?_;have hm:(p.length-(i+1))*4611686018427387904+((o+gI p i-(o+gI p i) % 10000) / 10000).natAbs<(p.length-i)*4611686018427387904+o.natAbs:=by
   rcases PQ i p.length with h2 | h2
   ·omega
   have h3:=q h2;rw [rR h2];omega
  refine Tc (L':=[.arr F 3 1 (i+1) ((out++[((o+gI p i) % 10000).toNat]).map aT).flatten]) (by simp [aT])<|S6 (m':=(p.length-(i+1))*4611686018427387904+((o+gI p i-(o+gI p i) % 10000) / 10000).natAbs) om_ mup (hn_ [0,3,4,5] Z) ⟨i+1,(o+gI p i-(o+gI p i) % 10000) / 10000,out++[((o+gI p i) % 10000).toNat],F,⟨by simp [e],l.snoc (by show ((o+gI p i) % 10000).toNat<10000;omega),by omega,by omega,by
   refine G3 e ?_;rw [KX,n,Sm];omega,fun h=>by
   rcases PQ i p.length with h2 | h2
   ·omega
   have h3:=q h2;have h4:=E h2;rw [rR h2] at *;omega⟩,rfl,rfl,rfl⟩
 have s:p.length<=i/\o=0:=by
  simp at r;omega
 refine Tk [(1,3)] Z fun R a=>SV U6<|D.call (ut _ _ out e) Z (.inr dc_) U6 (Pk _) fl_ (fun ae _ af _ M=>?_);obtain ⟨rfl,N⟩:=M;refine C6 1 [2] a Z<|S3 U2<|⟨Z,wY out,lT l, ?_,N⟩;rw [PZ s.1,s.2] at n;rw [ii];omega
theorem zD:∀ (l:List Int)(i:Nat)(x:Int),i<l.length->iC (l.set i x)=iC l+(10000:Int) ^ i*(x-gI l i)
 | [],i,x,h=>by simp at h
 | a::l,0,x,_=>by
  show x+10000*iC l=a+10000*iC l+1*(x-a);omega
 | a::l,i+1,x,h=>by
  have b:=zD l i x (by simpa using h);show a+10000*iC (l.set i x)=a+10000*iC l+(10000:Int) ^ (i+1)*(x-gI l i);rw [b,Sm,<- Int.mul_assoc,Int.pow_succ,Int.mul_comm ((10000:Int) ^ i) 10000];omega
theorem D1 (l:List Int):iC (l++[0])=iC l:=by rw [vh];omega
structure Joins (p q:List Nat)(k:Int)(i:Nat)(o:List Int):Prop where
 len:o.length=max p.length i
 val:iC o=(bK p:Nat)+k*(bK (q.take i):Nat)
 rest:∀ j,i<=j->gI o j=(gP p j:Nat)
 lim:∀ x∈o, -100000000<=x/\x<=100000000
theorem N7 (p:List Nat)(j:Nat):gI (p.map fun x:Nat=>(x:Int)) j=(gP p j:Nat):=by
 unfold gI gP;rw [ax,ax,Pi];cases p[j]? <;> rfl
theorem yv (p q:List Nat)(k:Int)(a:DigP p):Joins p q k 0 (p.map fun x:Nat=>(x:Int)):=by
 refine ⟨by simp,by rw [zE];simp [bK],fun j _=>N7 p j,fun x b=>?_⟩;obtain ⟨y,hy,rfl⟩:=Pn.1 b;have:y<10000:=a y hy;omega
theorem Joins.zero {p:List Nat}{k:Int}(h:Joins p q k i o)(c:o.length<=i):iC (o++[0])=(bK p:Nat)+k*(bK (q.take i):Nat)/\(∀ j,i<=j->gI (o++[0]) j=(gP p j:Nat))/\(∀ x∈o++[0], -100000000<=x/\x<=100000000):=by
 refine ⟨by rw [D1,h.val],fun j a=>?_,fun x b=>?_⟩
 ·have h1:=h.rest j a;have h2:gI o j=0:=by unfold gI;rw [ax,Pq om_];rfl
  rw [<- h1,h2];unfold gI;rw [ax,PJ om_];cases j-o.length <;> rfl
 rcases Px.1 b with h1 | h1
 ·exact h.lim x h1
 simp at h1;subst h1;omega
theorem Gg {x:Int}(h:i≠j):gI (o.set i x) j=gI o j:=by
 unfold gI;rw [ax,ax,SA h]
theorem CS {p:List Nat}{k:Int}{y:Nat}(d:DigP p)(f:DigP q)(a:-9999<=k/\k<=9999)(b:q[i]?=some y)(g:o.length=max p.length (i+1))
  (h:iC o=(bK p:Nat)+k*(bK (q.take i):Nat)) (c:∀ j,i<=j->gI o j=(gP p j:Nat)) (l:∀ x∈o, -100000000<=x/\x<=100000000) :
  Joins p q k (i+1) (o.set i (gI o i+k*(y:Nat))):=by
 have n:y<10000:=f y (Pe b);have r:gP p i<10000:=Gf d i;have s:-99980001<=k*(y:Int)/\k*(y:Int)<=99980001:=by
  have h0:(0:Int)<=y:=by omega
  have h1:k*(y:Int)<=9999*(y:Int):=Ru a.2 h0;have h2:(-9999:Int)*(y:Int)<=k*(y:Int):=Ru a.1 h0;omega
 refine ⟨by rw [P3];exact g, ?_,fun j t=>?_,fun x m=>?_⟩
 ·rw [zD o i _ om_,h,iB b];have e:((bK (q.take i)+BP ^ i*y:Nat):Int)=(bK (q.take i):Nat)+(10000:Int) ^ i*(y:Int):=by
   rw [RW,PL,Int.natCast_pow];rfl
  rw [e,Sm,show gI o i+k*(y:Int)-gI o i=k*(y:Int) by omega,Int.mul_left_comm];omega
 ·rw [Gg om_];exact c j om_
 rcases Qw m with h1 | h1
 ·exact l x h1
 subst h1;rw [c i (Pf _)];omega
theorem Bn (h:k<p.length):p[k]?=some (gI p k):=by
 unfold gI;rw [ax,ak h];rfl
theorem mQ (h:B6 l)(a:bK l<BP ^ m):l.length<=m:=by
 apply PO;intro b;have h1:=uE h om_;have h2:BP ^ m<=BP ^ (l.length-1):=PK dc_ om_;omega
theorem ui (x:Int):(pU x).length=1:=rfl
theorem fp (x:Nat):(aT x).length=1:=rfl
theorem G4 (C:Mem)(v:Value)(p:List Int)(b:p.length=n)(c:0<=iC p)(d:∀ x∈p, -1000000000000<=x/\x<=1000000000000)(e:p.length<=100000):Jog.Fn cx.P 235 [v] C [.arr v 3 1 n (p.map pU).flatten] fun u a f=>f=[]/\PieC a u (iC p).toNat :=
 Jog.Fn.give (p.map pU) kr_ (by intro r hr;obtain ⟨y,_,rfl⟩:=Pn.1 hr;rfl) (by rw [al,b]) (fun a _ hs=>JG a v p hs c d e)
theorem wC (C:Mem)(J K:Value)(p q:List Nat)(k:Int)(W:Sl C 1 J (p.map aT))(f:Sl C 1 K (q.map aT))(L:DigP p)(M:DigP q)(g:-9999<=k/\k<=9999)(X:0<=(bK p:Int)+k*(bK q:Int))(aq:p.length<=50000)(ar:q.length<=50000) :
  Pur cx.P 175 [J,K,.int .i64 k,.int .i64 0] C fun u D=>PieC D u ((bK p:Int)+k*(bK q:Int)).toNat:=by
 obtain ⟨N,c0,rfl,_⟩:=id f;simp only [al] at f ⊢;refine S4 func175 45 U3 fun w0=>SR 1 [0,1,2,3] Z<|SX fun R b=>TY [] U12 fl_ fun au=>SV U6<|D.append (j:=0) U11 W (by rw [PD];intro r hr;obtain ⟨y,_,rfl⟩:=Pn.1 hr;rfl) (by rw [al];simp only [PV,maxLen];omega) (by rw [al];show (0+p.length)*8<=_;omega) fl_ fun Y=>C6 1 [1,2,3,9] b Z<|SR 1 [1,2,3,9,10] Z<|Tc (L':=[.arr Y 3 1 (p.map fun x:Nat=>(x:Int)).length (((p.map fun x:Nat=>(x:Int)).map pU).flatten)]) (by rw [Qe];simp;rfl)<|G.loop (fun fr C' d n=>∃ (i:Nat)(o:List Int)(w:Value),(i<=q.length/\Joins p q k i o)/\fr=[(1,[],.slice N q.length c0),(2,[],.int .i64 k),(3,[],.int .i64 0),(9,[],w),(10,[],.int .i64 i)]/\d=[.arr w 3 1 o.length (o.map pU).flatten]/\n=q.length-i) (hn_ [1,2,3,9,10] Z) ⟨0,_,_,⟨Pm _,yv p q k L⟩,Z,Z,Z⟩ (fun fr av ax m _ z=>?_);obtain ⟨i,o,w,⟨hi,c⟩,rfl,rfl,rfl⟩:=z;refine SR 4 [1,2,3,9,10,17] Z<|G.cd (fun A=>?_) fun A=>?_
 ·have B:i<q.length:=by simpa using A
  have ay:=c.len;refine G.loop (fun fr C' d n=>∃ (a:List Int)(E:Value),((a=o∨(a=o++[0]/\o.length<=i)))/\fr=[(1,[],.slice N q.length c0),(2,[],.int .i64 k),(3,[],.int .i64 0),(9,[],E),(10,[],.int .i64 i)]/\d=[.arr E 3 1 a.length (a.map pU).flatten]/\n=i+1-a.length) (hn_ [1,2,3,9,10] Z) ⟨o,w,.inl Z,Z,Z,Z⟩ (fun fr az aA m _ z=>?_);obtain ⟨a,E,F,rfl,rfl,rfl⟩:=z;refine Vx 0 Z (fun Aw O he=>?_);subst he;have aB:a.length<=50002:=by
   have h1:a.length<=o.length+1:=by
    have h2:=F.imp (fun e=>congrArg List.length e) (fun e=>congrArg List.length e.1);rw [Po,aY] at h2;omega
   omega
  refine SS 4 Z fun R b=>Ts (((i:Nat):Int)) U4 om_ om_ om_ U2<|C6 1 [1,2,3,9,10,25] b Z<|G.cd (fun H=>?_) fun H=>?_
  ·have Q:a.length<=i:=by
    have:(a.length:Int)<=i:=by simpa using H
    omega
   have aa:a=o:=by
    refine F.elim id fun h=>?_;have:=h.1 ▸ Q;rw [Po,aY] at this;omega
   subst aa;refine SS 1 Z fun R b=>Th [pU 0] U12 fun aC _ _ ab=>D.append (j:=0) U11 ab Z aw (by show (a.length+1)*8<=_;omega) fl_ fun S=>C6 1 [1,2,3,9,10] b Z<|Tc (L':=[.arr S 3 1 (a++[0]).length ((a++[0]).map pU).flatten]) (by simp [pU]) ?_;have aD:i+1-(a++[0]).length<i+1-a.length:=by rw [Po,aY];omega
   refine S6 (m':=i+1-(a++[0]).length) om_ mup (hn_ [1,2,3,9,10] Z) ⟨a++[0],S,.inr ⟨Z,Q⟩,Z,Z,Z⟩
  have I:i<a.length:=by
   have:¬ (a.length:Int)<=i:=by simpa using H
   omega
  have ac:a.length=max p.length (i+1)/\iC a=(bK p:Nat)+k*(bK (q.take i):Nat)/\(∀ j,i<=j->gI a j=(gP p j:Nat))/\(∀ x∈a, -100000000<=x/\x<=100000000):=by
   refine F.elim (fun h=>?_) fun h=>?_
   ·subst h;exact ⟨by omega,c.val,c.rest,c.lim⟩
   obtain ⟨h1,h2⟩:=h;subst h1;have h3:=c.zero h2;exact ⟨by rw [Po,aY];omega,h3⟩
  obtain ⟨ad,ae,af,T⟩:=ac;obtain ⟨ah,ai⟩:=pM (l:=q) (k:=i) B;have aE:gP q i<10000:=Gf M i;have aF:-99980001<=k*((gP q i:Nat):Int)/\k*((gP q i:Nat):Int)<=99980001:=by
   have h0:(0:Int)<=((gP q i:Nat):Int):=by omega
   have h1:k*((gP q i:Nat):Int)<=9999*((gP q i:Nat):Int):=Ru g.2 h0;have h2:(-9999:Int)*((gP q i:Nat):Int)<=k*((gP q i:Nat):Int):=Ru g.1 h0;omega
  have aG:=T _ (Pe (Bn I));refine Va 0 (m:=a.length-1) (v:=.slice Aw a.length O) (t:=3) (s:=1) (xs:=(a.map pU).flatten) (by rw [show a.length-1+1=a.length by omega];rfl) (fun g0 cc ak=>?_);injection ak with am aH an;subst am an;refine Tg [0,1,2,3,4,5,6,7,8,9,10,11,12,13,14] [] Z kr_ fun R hB b=>SZ 3 Z<|Ts (((i:Nat):Int)) U4 om_ om_ om_ U2<|Tm (i*1) U10 aj U2<|TF ag U6 (fun _=>(by rw [er ui (Bn I)];rfl)) U2<|SZ 3 Z<|Ta f.m_ U10 om_ ah fl_ fun aI ao=>SU ao U8<|S2 _ Z U6<|S2 _ Z U6<|Tm (i*1) U10 aj U2<|Tr (j:=0) U11 (by show i*1+1<=_;rw [bU ui];omega)<|SY [1,2,3,9,10] b Z<|SS 1 Z fun R b=>S2 _ Z U6<|C6 1 [1,2,3,9,10] b Z<|Tc (L':=[.arr (.slice (some ⟨g0,0,none⟩) a.length O) 3 1 (a.set i (gI a i+k*((gP q i:Nat):Int))).length ((a.set i (gI a i+k*((gP q i:Nat):Int))).map pU).flatten]) (by rw [<- bN ui _ I,P3];rfl)<|S6 (m':=q.length-(i+1)) om_ mup (hn_ [1,2,3,9,10] Z) ⟨i+1,_,_,⟨by omega,CS L M g ai ad ae af T⟩,Z,Z,Z⟩
 have B:i=q.length:=by
  have:¬ i<q.length:=by simpa using A
  omega
 have U:iC o=(bK p:Int)+k*(bK q:Int):=by rw [c.val,B,Pv]
 refine Tk [(1,3)] Z fun R b=>SV U6<|D.call (G4 _ _ o Z (by rw [U];exact X) (fun x hx=>by have:=c.lim x hx;omega) (by have:=c.len;omega)) Z (.inr dc_) U6 (Pk _) fl_ (fun aJ _ aK _ ap=>?_);obtain ⟨rfl,V⟩:=ap;refine C6 1 [8] b Z<|S3 U2 ?_;rw [U] at V;exact ⟨Z,V⟩
theorem M9 (n:Nat):ko ([.int .i64 0]:List Value) n=((List.replicate n 0).map aT).flatten:=by
 rw [eS,RX];rfl
theorem vg (h:j<l.length):bK (l.drop j)=gP l j+BP*bK (l.drop (j+1)):=by
 rw [PI h,(aJ.1 (pM h).2).2];rfl
theorem sS (h:j<l.length):bK ((l.set j x).drop j)=x+BP*bK (l.drop (j+1)):=by
 rw [vg (by rw [P3];exact h),List.drop_set_of_lt om_];congr 1;unfold gP;rw [ax,Sn h];rfl
theorem Jp (h:DigP l)(a:x<BP):DigP (l.set j x):=fun y hy=>by
 rcases Qw hy with h1 | h1
 ·exact h y h1
 rw [h1];exact a
theorem AS (C:Mem)(O Q:Value)(p q:List Nat)(v:Sl C 1 O (p.map aT))(g:Sl C 1 Q (q.map aT))(ai:DigP p)(w:B6 q)(i:0<bK q)(aH:p.length<=10000)(aI:q.length<=10000) :
  Pur cx.P 230 [O,Q] C fun u D=>∃ u1 S,u=.tuple #[u1,S]/\PieC D u1 (bK p / bK q)/\PieC D S (bK p % bK q):=by
 obtain ⟨T,c0,rfl,_⟩:=id v;obtain ⟨U,V,rfl,_⟩:=id g;simp only [al] at v g ⊢;refine S4 func230 58 U3 fun w0=>SR 2 [0,1] Z<|SS 2 Z fun R b=>TT U9 (Pf _) (by show 8*p.length<=281474976710656;omega) (by simp only [maxLen];omega) fl_ fun d=>C6 1 [0,1,6] b Z<|SR 1 [0,1,6,7] Z<|SS 2 Z fun R b=>S2 _ Z U6<|C6 1 [0,1,6,7,8] b Z<|Tc (L':=[.arr (qW d p.length p.length) 3 1 p.length ((List.replicate p.length 0).map aT).flatten]) (by rw [<- M9];rfl)<|G.loop (fun fr W e z=>∃ (k:Nat)(o l:List Nat)(A:Value),(k<=p.length/\o.length=p.length/\DigP o/\bK (o.drop k)=bK (p.drop k) / bK q/\Sl W 1 A (l.map aT)/\B6 l/\bK l=bK (p.drop k) % bK q)/\fr=[(0,[],.slice T p.length c0),(1,[],.slice U q.length V),(6,[],qW d p.length p.length),(7,[],A),(8,[],.int .i64 ((k:Int)-1))]/\e=[.arr (qW d p.length p.length) 3 1 p.length (o.map aT).flatten]/\z=k+1) (hn_ [0,1,6,7,8] Z) ⟨p.length,List.replicate p.length 0,[],.slice none 0 0,⟨Pf _,PB,(fun x c=>by rw [Rk c];decide),by rw [Qk,R2 am];simp [bK],Sl.nil _ _,⟨fun x c=>(by cases c),by simp⟩,by rw [Qk];simp [bK]⟩,Z,Z,Z⟩ (fun fr aJ aK m _ B=>?_);obtain ⟨k,o,l,A,⟨hk,X,Y,aa,hs,E,F⟩,rfl,rfl,rfl⟩:=B;refine SR 2 [0,1,6,7,8,19] Z<|G.cd (fun H=>?_) fun H=>?_
 ·have ab:0<k:=by
   have:(0:Int)<=(k:Int)-1:=by simpa using H
   omega
  obtain ⟨j,rfl⟩:∃ j,k=j+1:=⟨k-1,by omega⟩;rw [show ((j+1:Nat):Int)-1=(j:Int) by omega];obtain ⟨ak,aL⟩:=pM (l:=p) (k:=j) om_;have c:gP p j<BP:=Gf ai j;have aM:gP p j<10000:=c;have aN:l.length<=q.length:=mQ E (by rw [F];exact Rt (PY _ i) (mh w.1));have an:DigP (gP p j::l):=fun y hy=>by
   rcases Ps.1 hy with h | h
   ·rw [h];exact c
   exact E.1 y h
  refine Tk [(7,3)] Z fun R b=>SZ 2 Z<|Ta v.m_ U10 om_ ak fl_ fun aO ao=>SU ao U8<|TY [aT (gP p j)] U12 fl_ fun aP=>SV U6<|D.append (j:=0) U11 hs.m_ (by rw [PD];intro r hr;obtain ⟨y,_,rfl⟩:=Pn.1 hr;rfl) (by rw [al];simp only [aY,maxLen];omega) (by rw [al];show (1+l.length)*8<=_;omega) fl_ fun aQ=>D.call (ut _ _ (gP p j::l) (n:=1+(l.map aT).length) (by rw [al];simp;omega)) Z (.inr dc_) U6 (Pk _) fl_ (fun ac ap aR _ aq=>?_);obtain ⟨rfl,I⟩:=aq;refine C6 1 [0,1,6,7,8] b Z ?_;obtain ⟨r,ad,J,ae,aS⟩:∃ r,B6 r/\bK r=gP p j+BP*(bK (p.drop (j+1)) % bK q)/\Sl ap 1 ac (r.map aT)/\r.length<=20000:=⟨wY (gP p j::l),lT an,by rw [ii];show gP p j+BP*bK l=_;rw [F],I,by unfold wY;rw [Pw,Pz];omega⟩;have K:=Gw (t:=bK (p.drop (j+1))) (x:=gP p j) i;rw [<- vg om_,<- J] at K;have ar:bK r / bK q<BP:=by rw [J];exact wU i c
  have aU:bK r / bK q<10000:=ar;refine SR 2 [0,1,6,7,8,9,10] Z<|G.loop (fun fr W e z=>∃ (low a:Nat),(low<=bK r / bK q/\bK r / bK q<=a/\a<=9999)/\fr=[(0,[],.slice T p.length c0),(1,[],.slice U q.length V),(6,[],qW d p.length p.length),(7,[],ac),(8,[],.int .i64 j),(9,[],.int .i64 low),(10,[],.int .i64 a)]/\e=[.arr (qW d p.length p.length) 3 1 p.length (o.map aT).flatten]/\z=a-low) (hn_ [0,1,6,7,8,9,10] Z) ⟨0,9999,⟨Pm _,by omega,Pf _⟩,Z,Z,Z⟩ (fun fr aV aW m _ B=>?_);obtain ⟨low,a,⟨au,av,aw⟩,rfl,rfl,rfl⟩:=B;refine SR 3 [0,1,6,7,8,9,10,32] Z<|G.cd (fun L=>?_) fun L=>?_
  ·have s:low<a:=by simpa using L
   obtain ⟨ax,ay⟩:=Mm i au av s;refine SS 2 Z fun R b=>S2 _ Z U6<|S2 _ Z U6<|Ub ((((low+a+1) / 2:Nat):Int)) U6 om_ (by rw [RI om_];omega) (by rw [IntKind.wrap_i64];omega) U2<|C6 1 [0,1,6,7,8,9,10,11] b Z<|SS 3 Z fun R b=>To (wC _ _ _ [] q ((((low+a+1) / 2:Nat):Int)) (Sl.nil _ _) g.m_ (fun x c=>(by cases c)) w.1 om_ (by rw [<- PL];omega) am om_) U7 fl_ (fun aX _ _ az=>?_);obtain ⟨l2,aA,aB,aC⟩:=az;have af:bK l2=bK q*((low+a+1) / 2):=by
    have h0:((bK ([]:List Nat):Nat):Int)=0:=rfl;rw [aB,h0,Int.zero_add,<- PL,Rc,P1]
   refine S8 (Iy _ _ _ r l2 ae.m_ aC.m_ ad aA) U7<|SY [0,1,6,7,8,9,10,11,42] b Z<|G.cd (fun M=>?_) fun M=>?_
   ·have N:bK r<bK q*((low+a+1) / 2):=by
     rw [<- af];simpa using M
    have f:=ax N;refine SS 1 Z fun R b=>S2 _ Z U6<|C6 1 [0,1,6,7,8,9,10] b Z ?_;rw [show ((((low+a+1) / 2:Nat):Int))-1=(((low+a+1) / 2-1:Nat):Int) by omega];refine S6 (m':=(low+a+1) / 2-1-low) om_ mup (hn_ [0,1,6,7,8,9,10] Z) ⟨low,(low+a+1) / 2-1,⟨f.1,f.2,by omega⟩,Z,Z,Z⟩
   have N:¬ bK r<bK q*((low+a+1) / 2):=by
    rw [<- af];simpa using M
   have f:=ay N;refine SR 2 [0,1,6,7,8,9,10] Z<|S6 (m':=a-(low+a+1) / 2) om_ mup (hn_ [0,1,6,7,8,9,10] Z) ⟨(low+a+1) / 2,a,⟨f.1,f.2,aw⟩,Z,Z,Z⟩
  have s:low=bK r / bK q:=by
   have:¬ low<a:=by simpa using L
   omega
  have ag:((bK r:Nat):Int) + -(low:Int)*((bK q:Nat):Int)=((bK r % bK q:Nat):Int):=by
   have h1:=RV (bK r) (bK q);rw [<- s] at h1;have h2:((bK q*low+bK r % bK q:Nat):Int)=(bK r:Nat):=by rw [h1]
   rw [RW,PL] at h2;rw [Int.neg_mul,Int.mul_comm (low:Int)];omega
  refine SS 3 Z fun R b=>Tm (j*1) U10 aj U2<|Tr (j:=0) U11 (by show j*1+1<=_;rw [bU fp];omega)<|SY [0,1,6,7,8,9] b Z<|SS 4 Z fun R b=>?_;rw [show IntKind.i64.wrap (0-(low:Int))=-(low:Int) by rw [IntKind.wrap_i64];omega];refine To (wC _ _ _ r q (-(low:Int)) ae.m_ g.m_ ad.1 w.1 om_ (by rw [ag];omega) om_ om_) U7 fl_ (fun aZ _ _ aD=>?_);obtain ⟨l3,aE,ah,aF⟩:=aD;rw [ag,Rc] at ah;refine C6 1 [0,1,6,7,8] b Z<|SS 1 Z fun R b=>S2 _ Z U6<|C6 1 [0,1,6,7,8] b Z<|Tc (L':=[.arr (qW d p.length p.length) 3 1 p.length ((o.set j low).map aT).flatten]) (by rw [<- bN fp _ (by omega:j<o.length)];rfl)<|S6 (m':=j+1) om_ mup (hn_ [0,1,6,7,8] Z) ⟨j,o.set j low,l3,_,⟨by omega,by rw [P3];exact X,Jp Y (by show low<BP;omega),by rw [sS om_,aa,K.1,s];omega,aF.mono mup,aE,by rw [ah,K.2,J]⟩,Z,Z,Z⟩
 have ab:k=0:=by
  have:¬ (0:Int)<=(k:Int)-1:=by simpa using H
  omega
 subst ab;refine Tk [(1,3)] Z fun R b=>SV U6<|D.call (ut _ _ o X) Z (.inr dc_) U6 (Pk _) fl_ (fun a0 _ a1 _ aG=>?_);obtain ⟨rfl,I⟩:=aG;refine C6 3 [4,5] b Z<|S7 (G.dropAll (Tp U3 ?_));exact ⟨Z,_,_,Z,⟨wY o,lT Y,by rw [ii,<- Qv (l:=o),aa,Qv],I⟩,⟨l,E,by rw [F,Qv],hs.mono mup⟩⟩
theorem dF (z:Int):cK 45 (txt z)=(bj z.natAbs,decide (z<0)):=by
 unfold txt;split
 ·rename_i h;rw [PG h];rfl
 rename_i h;rw [PT h];unfold cK;rw [aF];intro h0;have h1:=(bB z.natAbs).1.1 45 (List.mem_of_mem_head? h0);revert h1;decide
theorem zI (z:Int):txt z=[48] ↔ z=0:=by
 constructor
 ·intro h;have h1:(cK 45 (txt z)).1=[48]:=by rw [h];rfl
  rw [dF] at h1;have h2:=(bB z.natAbs).2;have h3:bj z.natAbs=[48]:=h1;rw [h3] at h2;have h4:bW [48]=0:=rfl;omega
 rintro rfl;unfold txt;rw [aF om_,show bj (0:Int).natAbs=bj 0 from rfl,bj];rfl
theorem kY (z:Int):((⟨(txt z).toArray⟩:ByteArray).data.toList == (⟨#[48]⟩:ByteArray).data.toList)=decide (z=0):=by
 show (txt z == [48])=_;rw [Oc,Qb];exact zI z
theorem de (n:Nat):txt (n:Int)=bj n:=by
 unfold txt;rw [aF om_];rfl
theorem fy (C:Mem)(z:Int):Gives cx.P 172 [af (txt z)] C (.tuple #[.bool (decide (z<0)),af (bj z.natAbs)]):=by
 have h:=split_fn C (txt z)
 rwa [dF] at h
theorem GG {c:UInt8}(h:s[i]?=some c):bW (s.take (i+1))=10*bW (s.take i)+(c.toNat-48):=by
 rw [GI h];omega
theorem wX (a:∀ c∈s,eP c=true)(d:s.length<=17)(i:Nat):bW (s.take i)<100000000000000000:=by
 have h1:=dP (s:=s.take i) (fun c b=>a c (Qy b));have h2:10 ^ (s.take i).length<=10 ^ 17:=PK dc_ (by rw [Pw];omega);omega
theorem HV (C:Mem)(z:Int)(b:(bj z.natAbs).length<=17):Gives cx.P 177 [af (txt z)] C (.tuple #[.int .i64 z,.bool true]):=by
 obtain ⟨s,k⟩:∃ s,bj z.natAbs=s:=⟨_,rfl⟩;have hs:=(bB z.natAbs).1.1;have d:=(bB z.natAbs).2;rw [k] at b hs d;refine S4 func177 45 U3 fun w0=>SR 2 [0] Z<|SS 1 Z fun R a=>Tb (by have h:=fy C z;rw [k] at h;exact h) U7 fl_<|C6 5 [4,5] a Z<|SR 3 [4,5,16] Z<|G.cd (fun l=>?_) fun l=>?_
 ·exfalso;have:(s.length:Int) > 19:=by simpa using l
  omega
 refine SR 1 [4,5,6] Z<|SR 1 [4,5,6,7] Z<|G.loop (fun fr w p q=>∃ (i:Nat),(i<=s.length)/\fr=[(4,[],.bool (decide (z<0))),(5,[],af s),(6,[],.int .i64 (-((bW (s.take i):Nat):Int))),(7,[],.int .i64 i)]/\p=[]/\q=s.length-i) (hn_ [4,5,6,7] Z) ⟨0,Pm _,Z,Z,Z⟩ (fun fr x y m _ r=>?_);obtain ⟨i,A,rfl,rfl,rfl⟩:=r;refine SR 4 [4,5,6,7,20] Z<|G.cd (fun e=>?_) fun e=>?_
 ·have f:i<s.length:=by simpa using e
  obtain ⟨c,g⟩:∃ c,s[i]?=some c:=⟨s[i],ak f⟩;have t:=hs c (Pe g);have B:48<=c.toNat/\c.toNat<=57:=by simpa [eP] using t
  have D:=wX hs b i;have u:(-9223372036854775808+(((c.toNat:Nat):Int)-48)).tdiv 10=-((9223372036854775808-(((c.toNat:Nat):Int)-48)) / 10):=by
   rw [show (-9223372036854775808+(((c.toNat:Nat):Int)-48))=-(9223372036854775808-(((c.toNat:Nat):Int)-48)) by omega,Int.neg_tdiv,RI om_]
  refine SS 2 Z fun R a=>TJ U8 (fun _=>⟨by omega,g⟩) U2<|Tz (c:=((c.toNat:Nat):Int)) U8 (by rw [IntKind.wrap_i64];omega) fl_<|S2 _ Z U6<|C6 1 [4,5,6,7,8] a Z<|SS 2 Z fun R a=>S2 _ Z U6<|Ub (-((9223372036854775808-(((c.toNat:Nat):Int)-48)) / 10)) U6 om_ u (by rw [IntKind.wrap_i64];omega) U2<|C6 1 [4,5,6,7,8,32] a Z<|G.cd (fun n=>?_) fun n=>?_
  ·exfalso;simp only [Pp] at n;omega
  refine SS 1 Z fun R a=>S2 _ Z U6<|SV U6<|S2 _ Z U6<|C6 1 [4,5,6,7] a Z<|SS 1 Z fun R a=>S2 _ Z U6<|C6 1 [4,5,6,7] a Z ?_;rw [show 10 * -((bW (s.take i):Nat):Int)-(((c.toNat:Nat):Int)-48)=-((bW (s.take (i+1)):Nat):Int) by rw [GG g];omega];refine S6 (m':=s.length-(i+1)) om_ mup (hn_ [4,5,6,7] Z) ⟨i+1,om_,Z,Z,Z⟩
 have f:i=s.length:=by
  have:¬ i<s.length:=by simpa using e
  omega
 rw [f,Pv,d];refine SR 2 [6,37] Z<|G.cd (fun j=>?_) fun j=>?_
 ·have v:z<0:=by simpa using j
  refine SR 3 [2,3] Z<|S7 (G.dropAll (Tp U3 ?_));refine ⟨?_,Z⟩;rw [show -((z.natAbs:Nat):Int)=z by omega]
 have v:¬ z<0:=by simpa using j
 have E:z.natAbs<100000000000000000:=by
  have:=wX hs b s.length
  rwa [Pv,d] at this
 refine SR 3 [6,40] Z<|G.cd (fun o=>?_) fun o=>?_
 ·exfalso;simp at o;omega
 refine SR 4 [2,3] Z<|S7 (G.dropAll (Tp U3 ?_));refine ⟨?_,Z⟩;rw [show IntKind.i64.wrap (0 - -((z.natAbs:Nat):Int))=z by rw [IntKind.wrap_i64];omega]
theorem BL (C:Mem)(z:Int):Gives cx.P 171 [af (txt z)] C (.tuple #[.int .i64 (if (bj z.natAbs).length<=17 then z else 0),.bool (decide ((bj z.natAbs).length<=17))]):=by
 refine S4 func171 18 U3 fun w0=>SR 2 [0] Z<|SS 1 Z fun R b=>S8 (fy C z) U7<|C6 5 [0,5] b Z<|SR 3 [0,13] Z<|G.cd (fun c=>?_) fun c=>?_
 ·have a:¬ (bj z.natAbs).length<=17:=by
   have:((bj z.natAbs).length:Int) > 17:=by simpa using c
   omega
  refine SR 2 [2,3] Z<|S7 (G.dropAll (Tp U3 ?_));rw [aF a,PT a];exact ⟨Z,Z⟩
 have a:(bj z.natAbs).length<=17:=by
  have:¬ ((bj z.natAbs).length:Int) > 17:=by simpa using c
  omega
 refine SS 1 Z fun R b=>S8 (HV _ z a) U7<|C6 4 [2,3] b Z<|S7 (G.dropAll (Tp U3 ?_));rw [aL a,PG a];exact ⟨Z,Z⟩
theorem lk (C:Mem)(a:Tabs C)(z:Int)(b:-9223372036854775808<=z)(c:z<=9223372036854775807):Gives cx.P 106 [.int .i64 z] C (af (txt z)):=by
 exact S4 func106 5 U3 fun w0=>SR 1 [0] Z<|SS 1 Z fun R d=>S8 (iY _ a z b c) U7<|C6 1 [2] d Z<|S3 U2<|⟨Z,Z⟩
theorem xY (C:Mem)(z:Int):Gives cx.P 165 [af (txt z)] C (.int .i64 (if z<0 then -1 else if z=0 then 0 else 1)):=by
 refine S4 func165 13 U3 fun w0=>SR 1 [0] Z<|SS 1 Z fun R e=>S8 (fy C z) U7<|C6 5 [0,3] e Z<|SR 1 [0,10] Z<|G.cd (fun b=>?_) fun b=>?_
 ·have c:z<0:=by simpa using b
  refine SR 1 [2] Z<|S3 U2 ?_;rw [aL c];exact ⟨Z,Z⟩
 have c:¬ z<0:=by simpa using b
 rw [aF c];refine SR 2 [12] Z<|G.cd (fun a=>?_) fun a=>?_
 ·rw [kY] at a;have d:z=0:=by simpa using a
  refine SR 1 [2] Z<|S3 U2 ?_;rw [aL d];exact ⟨Z,Z⟩
 rw [kY] at a;have d:¬ z=0:=by simpa using a
 refine SR 1 [2] Z<|S3 U2 ?_;rw [aF d];exact ⟨Z,Z⟩
theorem rG (C:Mem)(z:Int)(d:(bj z.natAbs).length<=1000000):Gives cx.P 166 [af (txt z)] C (af (txt (-z))):=by
 refine S4 func166 18 U3 fun w0=>SR 1 [0] Z<|SS 1 Z fun R a=>S8 (fy C z) U7<|C6 5 [0,3,4] a Z<|SS 4 Z fun R a=>Tt U8<|SY [4,14] a Z<|G.cd (fun b=>?_) fun b=>?_
 ·rw [kY] at b;have c:z<=0:=by simp at b;omega
  refine SR 2 [2] Z<|S3 U2<|⟨?_,Z⟩;rw [show txt (-z)=bj z.natAbs by rw [show -z=((z.natAbs:Nat):Int) by omega,de]]
 rw [kY] at b;have c:0<z:=by simp at b;omega
 refine SS 1 Z fun R a=>TP U6 (fun _=>(by simp only [Pz,PV];omega)) U2<|C6 1 [2] a Z<|S3 U2<|⟨?_,Z⟩;rw [show txt (-z)=45::bj z.natAbs by unfold txt;rw [aL om_];congr 2;omega];rfl
theorem sy (C:Mem)(z:Int):Gives cx.P 229 [af (txt z)] C (af (bj z.natAbs)):=by
 exact S4 func229 11 U3 fun w0=>SR 1 [0] Z<|SS 1 Z fun R a=>S8 (fy C z) U7<|C6 5 [4] a Z<|SR 2 [2] Z<|S3 U2<|⟨Z,Z⟩
theorem Pg:BP ^ 200=10 ^ 800:=by decide +kernel
theorem gu (h:n<BP ^ 200):(bj n).length<=800:=eE (by rw [<- Pg];exact h) om_
theorem PieC.take {D:Mem}{u:Value}(h:PieC D u n)(a:n<BP ^ 201):∃ l,B6 l/\bK l=n/\l.length<=201/\Sl D 1 u (l.map aT):=by
 obtain ⟨l,h1,h2,h3⟩:=h;exact ⟨l,h1,h2,mQ h1 (by rw [h2];exact a),h3⟩
theorem nC (C:Mem)(n:Nat)(h:n<BP ^ 200):Pur cx.P 173 [af (bj n)] C fun u D=>∃ l,B6 l/\bK l=n/\l.length<=200/\Sl D 1 u (l.map aT) :=
 (K3 C (bj n) (bB n).1.1 (by have:=gu h;omega)).mono fun u D _ _ ⟨h0,l,h1,h2,h3⟩=>⟨h0,l,h1,by rw [h2,(bB n).2],mQ h1 (by rw [h2,(bB n).2];exact h),h3⟩
theorem Ov:BP ^ 200+BP ^ 200<BP ^ 201:=by decide +kernel
theorem BK (h:(bj z.natAbs).length<=17):z.natAbs<100000000000000000:=by
 have h1:=dP (bB z.natAbs).1.1;rw [(bB z.natAbs).2] at h1;have h2:10 ^ (bj z.natAbs).length<=10 ^ 17:=PK dc_ h;omega
theorem Lb (h:decide (z<0)=decide (w<0)):sgZ (decide (z<0)) (z.natAbs+w.natAbs)=z+w:=by
 rw [Qb] at h;unfold sgZ;by_cases a:z<0
 ·have:=h.1 a;rw [PG a,aL rfl];omega
 have:¬ w<0:=fun h1=>a (h.2 h1);rw [PT a,aF am];omega
theorem Lc (h:decide (z<0)≠decide (w<0))(b:¬ z.natAbs<w.natAbs):sgZ (decide (z<0)) (z.natAbs-w.natAbs)=z+w:=by
 rw [ne_eq,Qb] at h;unfold sgZ;by_cases a:z<0
 ·have:¬ w<0:=fun h1=>h ⟨fun _=>h1,fun _=>a⟩;rw [PG a,aL rfl];omega
 have:w<0:=PO fun h1=>h ⟨fun h2=>absurd h2 a,fun h2=>absurd h2 h1⟩;rw [PT a,aF am];omega
theorem oE (C:Mem)(n:Nat):Gives cx.P 172 [af (bj n)] C (.tuple #[.bool false,af (bj n)]):=by
 have h:=fy C (n:Int);rw [de,PT om_] at h;exact h
theorem qq (C:Mem)(n:Nat):Gives cx.P 171 [af (bj n)] C (.tuple #[.int .i64 (if (bj n).length<=17 then (n:Int) else 0),.bool (decide ((bj n).length<=17))]):=by
 have h:=BL C (n:Int);rw [de] at h;exact h
theorem qt (h:(bj n).length<=17):n<100000000000000000:=BK (z:=(n:Int)) h
theorem Fh (C:Mem)(a:Tabs C)(n:Nat)(h:n<=9223372036854775807):Gives cx.P 106 [.int .i64 n] C (af (bj n)):=by
 have h:=lk C a (n:Int) om_ om_
 rwa [de] at h
theorem tP (C:Mem)(a:Tabs C)(v:Value)(l:List Nat)(b:Sl C 1 v (l.map aT))(c:DigP l)(d:l.length<=100000):Gives cx.P 174 [.bool false,v] C (af (bj (bK l))):=by
 have h:=FD C a false v l b c d;rw [show sgZ false (bK l)=((bK l:Nat):Int) from rfl,de] at h;exact h
theorem OO {q:Nat}(h:q<=9223372036854775807):IntKind.i64.wrap ((q:Nat):Int)=(q:Nat):=by rw [IntKind.wrap_i64];omega
theorem lP (C:Mem)(d:Tabs C)(a b:Nat)(l:a<BP ^ 200)(m:b<BP ^ 200)(e:0<b):Gives cx.P 168 [af (bj a),af (bj b)] C (.tuple #[af (bj (a / b)),af (bj (a % b))]):=by
 have D:=Ov;refine S4 func168 93 U3 fun w0=>SR 2 [0,1] Z<|SS 1 Z fun R c=>S8 (qq C a) U7<|C6 5 [0,1,6,7] c Z<|SS 1 Z fun R c=>S8 (qq _ b) U7<|C6 5 [0,1,6,7,8,9] c Z<|SS 3 Z fun R c=>Tl U8<|SY [0,1,6,8,31] c Z<|G.cd (fun f=>?_) fun f=>?_
 ·have hs:(bj a).length<=17/\(bj b).length<=17:=by simpa using f
  have h1:=qt hs.1;have h2:=qt hs.2;rw [aL hs.1,aL hs.2];have h0:=Qo a b;refine Tg [0,1,2,3,4,5,6,7] [] Z kr_ fun R E c=>SZ 2 Z<|Ub (((a / b:Nat):Int)) U6 om_ (by rw [RI om_];rfl) (OO om_) U2<|SZ 2 Z<|TZ U6 om_ om_ U2<|C6 2 [6,8,10,11] c Z<|SR 2 [6,8,10,11,39] Z<|G.cd (fun g=>?_) fun g=>?_
  ·exfalso;have h3:=Sx (a:Int) (show (b:Int)≠0 by omega);simp only [Pp] at g;omega
  rw [<- Int.natCast_emod];have h3:=Qo a b;have h4:=PY a e;refine SS 1 Z fun R c=>Tb (Fh _ d (a / b) om_) U7 fl_<|SV U6<|Tb (Fh _ d (a % b) om_) U7 fl_<|C6 2 [4,5] c Z<|S7 (G.dropAll (Tp U3 ?_));exact ⟨Z,Z⟩
 refine SS 1 Z fun R c=>S8 (oE _ a) U7<|C6 5 [1,12,13] c Z<|SS 1 Z fun R c=>S8 (oE _ b) U7<|C6 5 [12,13,14,15] c Z<|SS 1 Z fun R c=>Tv (nC _ a l) U7 (fun F _ _ n=>?_);obtain ⟨lp,o,p,H,q⟩:=n;refine SV U6<|Tv (nC _ b m) U7 (fun I _ _ r=>?_);obtain ⟨s,t,u,J,v⟩:=r;refine To (AS _ _ _ lp s q.m_ v.m_ o.1 t om_ om_ om_) U7 fl_ (fun K _ _ w=>?_);obtain ⟨u1,L,rfl,h,i⟩:=w;rw [p,u] at h i;obtain ⟨l1,x,y,M,z⟩:=PieC.take h (by have:=Qo a b;omega);obtain ⟨l2,A,B,N,j⟩:=PieC.take i (by have:=PY a e;omega);obtain ⟨A2,c2,rfl,_⟩:=id j;refine C6 5 [12,14,15,16,17] c Z<|SS 5 Z fun R c=>Tl U8<|SY [12,14,15,16,17,78] c Z<|G.cd (fun k=>?_) fun k=>?_
 ·exfalso;simp at k
 refine SS 4 Z fun R c=>Tb (tP _ d.m_ _ l1 z.m_ x.1 om_) U7 fl_<|SV U6<|Tb (tP _ d.m_ _ l2 j.m_ A.1 om_) U7 fl_<|C6 2 [4,5] c Z<|S7 (G.dropAll (Tp U3 ?_));rw [y,B];exact ⟨Z,Z⟩
theorem KC (n:Nat):((⟨(bj n).toArray⟩:ByteArray).data.toList == (⟨#[48]⟩:ByteArray).data.toList)=decide (n=0):=by
 have h:=kY (n:Int);rw [de] at h;rw [h,Qb];omega
theorem CZ (C:Mem)(h:Tabs C)(z w:Int)(i:z.natAbs<BP ^ 200)(j:w.natAbs<BP ^ 200):Gives cx.P 167 [af (txt z),af (txt w)] C (af (bj (Nat.gcd z.natAbs w.natAbs))):=by
 refine S4 func167 22 U3 fun w0=>SR 1 [0,1] Z<|SS 1 Z fun R e=>S8 (sy _ z) U7<|SV U6<|S8 (sy _ w) U7<|C6 2 [0,1] e Z<|G.loop (fun fr p k l=>∃ (a b:Nat),(a<BP ^ 200/\b<BP ^ 200/\Nat.gcd a b=Nat.gcd z.natAbs w.natAbs)/\fr=[(0,[],af (bj a)),(1,[],af (bj b))]/\k=[]/\l=b+1) (hn_ [0,1] Z) ⟨z.natAbs,w.natAbs,⟨i,j,Z⟩,Z,Z,Z⟩ (fun fr q r m _ n=>?_);obtain ⟨a,b,⟨o,f,g⟩,rfl,rfl,rfl⟩:=n;refine SR 2 [0,1,12] Z<|G.cd (fun c=>?_) fun c=>?_
 ·have d:0<b:=by
   rw [KC] at c;have:b≠0:=by simpa using c
   omega
  have s:=PY a d;refine SS 2 Z fun R e=>S8 (lP _ h.m_ a b o f d) U7<|C6 5 [1,6] e Z<|SR 4 [0,1] Z<|S6 (m':=a % b+1) om_ mup (hn_ [0,1] Z) ⟨b,a % b,⟨f,by omega,by rw [<- g,N9 a b d]⟩,Z,Z,Z⟩
 have d:b=0:=by
  rw [KC] at c;simpa using c
 refine SR 2 [4] Z<|S3 U2<|⟨?_,Z⟩;rw [<- g,d,RY]
def ix (s:Str):Int:=sgZ (cK 45 s).2 (bW (cK 45 s).1)
theorem xn {t:Str}(h:uY t):t.head?=some 48 ↔ bW t=0:=by
 constructor
 ·intro h0;have h1:=h.2.2 h0;cases t with
  | nil=>cases h0
  | cons b t =>
   have a:b=48:=by simpa using h0
   have d:t=[]:=by cases t with
    | nil=>rfl
    | cons c t=>simp at h1
   subst a d;rfl
 intro h0;have:=qo h (bB 0).1 (by rw [h0,(bB 0).2]);rw [this,bj];rfl
theorem xl :xm s=true ↔ uY (cK 45 s).1/\((cK 45 s).2=true->0<bW (cK 45 s).1):=by
 obtain ⟨t,neg,d⟩:∃ t b,cK 45 s=(t,b):=⟨_,_,rfl⟩;unfold xm;rw [d];simp only [Pu,RJ,Q0,ne_eq,PD,Bool.and_eq_false_imp,QO,QW,PP];constructor
 ·rintro ⟨⟨h1,h2⟩,h3⟩;have a:uY t:=⟨h1,h2,fun h=>by
   have:=(h3 h).2;have:0<t.length:=P4.2 h2;omega⟩
  refine ⟨a,fun c=>?_⟩;rcases Qj (bW t) with h | h
  ·have:=(h3 ((xn a).2 h)).1;rw [c] at this;cases this
  exact h
 rintro ⟨a,h⟩;refine ⟨⟨a.1,a.2.1⟩,fun h0=>?_⟩;have h1:=(xn a).1 h0;have h2:=a.2.2 h0;refine ⟨?_,by omega⟩;cases c:neg with
 | false=>rfl
 | true=>have:=h c;omega
theorem Gv (s:Str):s=if (cK 45 s).2 then 45::(cK 45 s).1 else (cK 45 s).1:=by
 unfold cK;split
 ·rename_i h;cases s with
  | nil=>cases h
  | cons b s =>
   have a:b=45:=by simpa using h
   subst a;rfl
 rfl
theorem G7 (h:xm s=true):s=txt (ix s):=by
 obtain ⟨h1,h2⟩:=xl.1 h;unfold ix;rw [zJ _ _ h2,<- nY h1];exact Gv s
def oS (zn:Int):Option Str->Bool
 | none=>true
 | some b=>decide (1<ix b) && !(zn == 0) && (Nat.gcd zn.natAbs (ix b).natAbs == 1)
def aW (s:Str):Bool:=cI (jL 47 s).1 && cI ((jL 47 s).2.getD [49]) && oS (ix (jL 47 s).1) (jL 47 s).2
theorem rx :cI s=true ↔ okD (cK 45 s).1=true/\((cK 45 s).2=true->0<bW (cK 45 s).1):=by
 unfold cI;rw [Pu,xl,yk,Pp];constructor
 ·rintro ⟨⟨h1,h2⟩,h3⟩;exact ⟨⟨h1,h3⟩,h2⟩
 rintro ⟨⟨h1,h3⟩,h2⟩;exact ⟨⟨h1,h2⟩,h3⟩
theorem Js (s:Str):(ix s).natAbs=bW (cK 45 s).1:=by
 unfold ix sgZ;split <;> omega
theorem EK (h:s.length<=n):(jL 47 s).1.length<=n/\((jL 47 s).2.getD [49]).length<=n+1:=by
 rcases gw 47 s with ⟨h1,_⟩ | ⟨a,post,h1,h2,_⟩
 ·rw [h1];exact ⟨h,by simp⟩
 have e:=congrArg List.length h2;rw [Po,Pz] at e;rw [h1];simp only [Qx];omega
theorem one_val:([49]:Str)=txt 1:=by
 unfold txt;rw [aF om_,show bj (1:Int).natAbs=bj 1 from rfl,bj];rfl
theorem si (n:Nat):((⟨(bj n).toArray⟩:ByteArray).data.toList == (⟨#[49]⟩:ByteArray).data.toList)=(n == 1):=by
 show (bj n == [49])=_;rw [Oc,SD,Pp,QO];constructor
 ·intro h;have h2:=(bB n).2;rw [h] at h2;exact h2.symm
 rintro rfl;rw [bj];rfl
theorem E8 (C:Mem)(s:Str)(d:∀ c∈s,eP c=true)(e:s≠[])(f:s.length<=18):Gives cx.P 251 [af s,.int .i64 10,.int .i64 64] C (.tuple #[.int .u64 (bW s),.nilIface]):=by
 refine S4 func251 26 U3 fun w0=>SR 2 [0,1,2] Z<|SS 3 Z fun R a=>Tb (E7 Tryz.parseU s d e f _ kr_) U7 fl_<|C6 5 [0,1,2,8,9] a Z<|SS 1 Z fun R a=>UR false Z Z Z Z Z (.inr ⟨Z,Z⟩) kr_ Z Z<|SY [0,1,2,8,9,18] a Z<|G.cd (fun b=>?_) fun b=>?_
 ·cases b
 refine SR 3 [6,7] Z<|S7 (G.dropAll (Tp U3 ?_));exact ⟨Z,Z⟩
theorem Ck (C:Mem)(i:Nat)(h:i<100):Gives cx.P 313 [.int .i64 i] C (af (bj i)):=by
 have h1:=Gives.ofCalls (f:=313) (args:=[.int .i64 i]) (P:=cx.P) kr_ (fun w=>Any.internal_strconv_small Tryz.small10 i h w) C;rw [dL] at h1;exact h1
theorem Bb (u:Nat):Lib.nDigits u=(bj u).length:=by rw [<- dL,Lib.decDigits_length]
theorem Da (C:Mem)(l:Tabs C)(u:Nat)(s:u<9223372036854775808):Gives cx.P 298 [.int .u64 u,.int .i64 10] C (af (bj u)):=by
 refine S4 func298 32 U3 fun w0=>SR 1 [0,1] Z<|SR 2 [0,1,10] Z<|G.cd (fun g=>?_) fun g=>?_
 ·refine SR 2 [0,12] Z<|G.cd (fun e=>?_) fun e=>?_
  ·have h:u<100:=by
    have:(u:Int)<100:=by simpa using e
    omega
   exact SS 1 Z fun R a=>Tz (c:=(u:Int)) U8 (by rw [IntKind.wrap_i64];omega) fl_<|S8 (Ck _ u h) U7<|C6 1 [4] a Z<|S3 U2<|⟨Z,Z⟩
  have h:100<=u:=by
   have:¬ (u:Int)<100:=by simpa using e
   omega
  have t:Lib.nDigits u<=19:=by
   rw [Bb];exact eE om_ om_
  refine SX fun R a=>Te U5 fun i=>SY [0,5] a Z<|SS 1 Z fun R a=>Tb (wn Tryz.nDig u om_ om_ _ l.pow.m_ kr_) U7 fl_<|C6 1 [0,5,6] a Z<|Tk [(3,3)] Z fun R a=>SV U6<|Ul 0 (Lib.nDigits u) 24 U12 (fun _=>⟨.inl ⟨Z,Z⟩,.inr ⟨_,Z⟩,.inl ⟨Z,Z⟩,by omega,by omega,by decide⟩) U2<|SV U6<|D.call (yC Tryz.fmt10 i 24 u 393 (List.replicate 24 (Value.int .u8 0)) om_ (fun j d=>(by rw [QI,aL om_])) om_ _ kr_) Z (.inr dc_) U6 (Pk _) fl_ fun w _ z _ m=>SY [5,6] a Z ?_;obtain ⟨_,rfl,cs,rfl,A,n⟩:=m;refine G.freeze 0 Z (fun o _ p=>?_);have q:(bj u).length=Lib.nDigits u:=(Bb u).symm;have k:Sl o 1 (.slice (some ⟨i,0,none⟩) ((bj u).map fun b=>[Value.int .u8 b.toNat]).length 24) ((bj u).map fun b=>[Value.int .u8 b.toNat]) :=
   Sl.ofBlock p (by intro r hr;obtain ⟨y,_,rfl⟩:=Pn.1 hr;rfl) (fun j v d=>by
    rw [fX,Pi] at d;cases f:(bj u)[j]? with
    | none=>rw [f] at d;cases d
    | some x=>rw [f] at d;cases d;simpa using n j x f) ap (by simp [maxLen])
  rw [al,q] at k;exact SS 1 Z fun R a=>Ul 0 (Lib.nDigits u) 24 U12 (fun _=>⟨.inl ⟨Z,Z⟩,.inr ⟨_,Z⟩,.inl ⟨Z,Z⟩,by omega,by omega,by decide⟩) U2<|Un k.m_ U11 fl_<|C6 1 [4] a Z<|S3 U2<|⟨Z,Z⟩
 exact absurd g dc_
theorem Db (C:Mem)(a:Tabs C)(u:Nat)(b:u<9223372036854775808):Gives cx.P 255 [.int .u64 u,.int .i64 10] C (af (bj u)):=by
 exact S4 func255 8 U3 fun w0=>SR 1 [0,1] Z<|SS 2 Z fun R c=>S8 (Da _ a.m_ u b) U7<|C6 1 [4] c Z<|S3 U2<|⟨Z,Z⟩
theorem jA (C:Mem)(z:Int)(m:Nat)(d:m<=18):Gives cx.P 188 [af (txt z),.int .i64 m] C (.tuple #[.int .i64 (if (txt z).length<=m then z else 0),.bool (decide ((txt z).length<=m))]):=by
 refine S4 func188 20 U3 fun w0=>SR 2 [0,1] Z<|SR 4 [0,11] Z<|G.cd (fun b=>?_) fun b=>?_
 ·have a:¬ (txt z).length<=m:=by
   have:(m:Int)<((txt z).length:Int):=by simpa using b
   omega
  refine SR 2 [4,5] Z<|S7 (G.dropAll (Tp U3 ?_));exact ⟨by rw [aF a,PT a],Z⟩
 have a:(txt z).length<=m:=by
  have:¬ (m:Int)<((txt z).length:Int):=by simpa using b
  omega
 refine SS 1 Z fun R c=>Tb (zf Tryz.atoi z om_ _ kr_) U7 fl_<|C6 5 [6,7] c Z<|Tg [0,1,2,3,4] [] Z kr_ fun R e c=>SZ 2 Z<|UR true Z Z Z Z Z (.inl ⟨Z,Z⟩) kr_ Z Z<|C6 2 [4,5] c Z<|S7 (G.dropAll (Tp U3 ?_));exact ⟨by rw [aL a,PG a],Z⟩
theorem iO (C:Mem)(z:Int)(v:(bj z.natAbs).length<=1000000):Pur cx.P 189 [af (txt z)] C fun u D=>∃ p,u=.agg ⟨[.bool (decide (z<0)),p]⟩/\NineC D p z.natAbs:=by
 obtain ⟨S,i⟩:∃ S,bj z.natAbs=S:=⟨_,rfl⟩;have b:=(bB z.natAbs).1;have k:=(bB z.natAbs).2;rw [i] at v b k;refine S4 func189 44 U3 fun w0=>SX fun R a=>Te U5 fun d=>SY [0,2] a Z<|SS 1 Z fun R a=>S8 (GO _ (txt z) 45) U7 ?_;rw [dF,i];refine C6 5 [2,3,4] a Z<|SS 2 Z fun R a=>TV (S.length) (9) U6 om_ (.inl ⟨Z,by omega⟩) U2<|Ts (((S.length / 9+1:Nat):Int)) U4 om_ om_ om_ U2<|TT U9 (Pm _) (by show 8*(S.length / 9+1)<=281474976710656;omega) (by simp only [maxLen];omega) fl_ fun M=>C6 1 [2,3,4,5] a Z ?_;rw [show (af S:Value)=af (S.take S.length) by rw [Pv]];refine G.loop (fun fr N l y=>∃ (q j:Nat)(out:List Nat)(w:Value),(q<=S.length/\(q=0∨q+9*j=S.length)/\out.length=j/\j<=S.length/\(q=0∨j<S.length)/\Dig9 out/\bq out=bW (S.drop q))/\fr=[(2,[],.pointer (some ⟨d,0,none⟩)),(3,[],af (S.take q)),(4,[],.bool (decide (z<0))),(5,[],w)]/\l=[.arr w 285 1 j (out.map cP).flatten,.obj d (.cells ⟨[.bool false,.slice none 0 0]⟩ 273 (0,0))]/\y=q+1) (hn_ [2,3,4,5] Z) ⟨S.length,0,[],_,⟨Pf _,by omega,Z,Pm _,by have:=P4.2 b.2.1;omega,(fun x A=>(by cases A)),by rw [Qk];rfl⟩,Z,Z,Z⟩ (fun fr O Q m _ B=>?_);obtain ⟨q,j,out,w,⟨T,U,e,V,W,o,f⟩,rfl,rfl,rfl⟩:=B;refine SR 3 [2,3,4,5,21] Z<|G.cd (fun g=>?_) fun g=>?_
 ·have E:(⟨(S.take q).toArray⟩:ByteArray).data.toList.length=q:=by
   show (S.take q).length=q;rw [Pw];omega
  have F:(S.take q).length=q:=E;have r:0<q:=by
   have h:(0:Int)<(((⟨(S.take q).toArray⟩:ByteArray).data.toList.length:Nat):Int):=by simpa using g
   omega
  have H:(gv S (q-9) q).length<=9/\0<(gv S (q-9) q).length:=by
   unfold gv;rw [Rj,Pw];omega
  have I:∀ c∈gv S (q-9) q,eP c=true:=fun c J=>b.1 c (Qy (R7 J));refine SS 2 Z fun R a=>Ts (((q:Int)-9)) U4 om_ om_ om_ U2<|D.max (((q-9:Nat):Int)) U6 om_ U2<|C6 1 [2,3,4,5,6] a Z<|SS 2 Z fun R a=>TQ (q-9) (S.take q).length U9 (fun _=>⟨.inr ⟨_,Z⟩,.inl ⟨Z,Z⟩,.inl ⟨Z,Z⟩,by omega,Pf _,Pf _⟩) U2 ?_;rw [show (((S.take q).take (S.take q).length).drop (q-9))=gv S (q-9) q from by rw [Pv];rfl];refine Tb (E8 _ (gv S (q-9) q) I (P4.1 H.2) om_) U7 fl_<|C6 5 [2,3,4,5,6,7] a Z<|Tg [0,1,4,5,6,2,3,7,8] [] Z kr_ fun R X a=>SZ 4 Z<|TQ 0 (q-9) U9 (fun _=>⟨.inl ⟨Z,Z⟩,.inr ⟨_,Z⟩,.inl ⟨Z,Z⟩,by omega,by omega,Pf _⟩) U2<|Th [cP (bW (gv S (q-9) q))] U12 fun Y _ _ K=>D.append (j:=0) U11 K Z aw (by show (j+1)*8<=_;omega) fl_ fun s=>C6 2 [2,3,4,5] a Z ?_;rw [show ((S.take q).take (q-9)).drop 0=S.take (q-9) from by rw [Qv,Sf,Qn om_]];refine Tc (L':=[.arr s 285 1 (j+1) ((out++[bW (gv S (q-9) q)]).map cP).flatten,.obj d (.cells ⟨[.bool false,.slice none 0 0]⟩ 273 (0,0))]) (by simp [cP])<|S6 (m':=q-9+1) om_ mup (hn_ [2,3,4,5] Z) ⟨q-9,j+1,out++[bW (gv S (q-9) q)],s,⟨by omega,by omega,by simp [e],by omega,by omega,o.snoc (Ju b.1 om_),Cb om_ e om_ f⟩,Z,Z,Z⟩
 have r:q=0:=by
  have F:(S.take q).length=q:=by rw [Pw];omega
  have h:¬ (0:Int)<(((S.take q).length:Nat):Int):=by simpa using g
  omega
 subst r;rw [Qv,k] at f;refine Tk [(2,3)] Z fun R a=>SZ 2 Z<|D.call (gg _ _ out (n:=j) e) Z (.inr dc_) U6 (Pk _) fl_ (fun aa _ ab _ L=>?_);obtain ⟨rfl,t⟩:=L;obtain ⟨Au,cu,rfl,_⟩:=id t;refine Td [.bool (decide (z<0)),_] U8<|S5 (j:=0) U12<|SY [2] a Z<|S7 (TE ag U4 ?_);exact ⟨Z,_,Z,DO out,ik o,by rw [ij,f],t⟩
theorem Dj (k:Nat)(s:Str):bW (List.replicate k 48++s)=bW s:=by
 induction k with
 | zero=>rfl
 | succ k a=>rw [Qm,QZ,dG,a];simp
theorem LO (h:x<1000000000):mf 9 x=List.replicate (9-(bj x).length) 48++bj x:=by
 obtain ⟨h1,h2,h3⟩:=kC 9 x h;obtain ⟨h4,h5⟩:=bB x;have b:(bj x).length<=9:=eE om_ om_;refine yM h2 (fun c a=>?_) (by rw [h1];simp;omega) (by rw [h3,Dj,h5]);rcases Px.1 a with a | a
 ·rw [Rk a];rfl
 exact h4.1 c a
def JP (l:List Nat)(j:Nat)(s:Str):Prop:=(j=0/\s=[])∨(0<j/\uY s/\bW s=bq (l.drop (l.length-j))/\0<bW s)
theorem CR (b:xG l)(d:j<l.length)(h:JP l j s):JP l (j+1) (s++if j=0 then bj (g9 l (l.length-1-j)) else mf 9 (g9 l (l.length-1-j))):=by
 have a:l[l.length-1-j]?=some (g9 l (l.length-1-j)):=wI om_;refine .inr ⟨by omega, ?_⟩;rw [show l.length-(j+1)=l.length-1-j by omega];rcases h with ⟨rfl,rfl⟩ | ⟨h0,h1,h2,h3⟩
 ·rw [aL rfl,Re];obtain ⟨h4,h5⟩:=bB (g9 l (l.length-1-0));have c:bq (l.drop (l.length-1-0))=g9 l (l.length-1-0):=by
   rw [PI om_,show l.length-1-0+1=l.length by omega,Qk];rw [ak om_] at a;rw [QS a];show _+B9*0=_;omega
  refine ⟨h4,by rw [h5,c], ?_⟩;rw [h5];rcases Qj (g9 l (l.length-1-0)) with h | h
  ·rw [h] at a;exact absurd (by rw [Rr];exact a) b.2
  exact h
 rw [aF om_];rw [show l.length-j=l.length-1-j+1 by omega] at h2;exact CY b.1 a h1 h2 h3
theorem jN (C:Mem)(V:Tabs C)(m:Bool)(v:Value)(n:Nat)(W:NineC C v n)(X:n<B9 ^ 100000):Gives cx.P 191 [.agg ⟨[.bool m,v]⟩] C (af (txt (sgZ m n))):=by
 obtain ⟨ls,J,K,ak,hs⟩:=W.get X;obtain ⟨A,c,rfl,_⟩:=id hs;simp only [al] at hs ⊢;refine Up kr_ func191 Z 34 Z Z fun w0=>SX fun R a=>Tf U6 fun L=>C6 1 [1] a Z<|G.freeze 0 Z fun _ _ o=>SS 1 Z fun R a=>SU (PtrTo.block (Mem.get o mup) _) U8<|C6 2 [1,10] a Z<|G.cd (fun y=>?_) fun y=>?_
 ·have M:ls=[]:=by
   have:(ls.length:Int)=0:=by simpa using y
   exact P2 om_
  refine SR 1 [2] Z<|S7 (Ut (Kc Z Z) ?_ Jj);subst M;refine ⟨?_,Z⟩;rw [<- K,(zI (sgZ m (bq []))).2 (by cases m <;> rfl)];rfl
 have M:0<ls.length:=by
  have:¬ (ls.length:Int)=0:=by simpa using y
  omega
 obtain ⟨d,g⟩:∃ d:Str,(if m then [45] else [])=d:=⟨_,rfl⟩;have an:d.length<=1:=by rw [<- g];split <;> simp
 refine SX fun R a=>Te U5 fun b=>SY [1,3] a Z<|G.nilArr 5 1<|G.perm (L':=[.obj b (.cells ⟨[.pointer none,.slice none 0 0]⟩ 344 (0,0)),.arr (.slice none 0 0) 5 1 0 []]) (List.Perm.swap _ _ _)<|SS 1 Z fun R a=>SU (PtrTo.block (Mem.get o mup) _) U8<|SY [1,3,12] a Z<|G.cut (fun fr Y e z=>∃ (q:Option Addr)(w:Value),(q=none∨q=some ⟨b,0,none⟩)/\fr=[(1,[],.pointer (some ⟨L,0,none⟩)),(3,[],.pointer (some ⟨b,0,none⟩))]/\e=[.obj b (.cells ⟨[.pointer q,w]⟩ 344 (0,0)),.arr w 5 1 d.length (u8s d)]) ?_ (fun fr _ ao z _ f=>?_)
 ·refine G.cd (fun B=>?_) fun B=>?_
  ·rw [aL B] at g;subst g;refine Tk [(0,3)] Z fun R a=>D.call (uZ _ b none (.slice none 0 0) [] 45 (.inl Z) am) Z (.inr dc_) U6 (Pk _) fl_ fun aq _ ar _ aa=>SY [1,3] a Z ?_;obtain ⟨w1,rfl⟩:=aa;refine S9 0 mup (hn_ [1,3] Z) ⟨some ⟨b,0,none⟩,w1,.inr Z,Z,Z⟩
  rw [aF (by rw [B];decide)] at g;subst g;refine S9 0 mup (hn_ [1,3] Z) ⟨none,.slice none 0 0,.inl Z,Z,Z⟩
 obtain ⟨q ,w,hq,rfl,rfl⟩:=f;refine SS 1 Z fun R a=>SU (PtrTo.block (Mem.get o mup) _) U8<|Tv (BN _ A ls.length c) U7 fun au _ _ ab=>SY [1,3,16] a Z ?_;obtain ⟨bb,rfl,ac⟩:=ab;refine Tc (L':=[.obj b (.cells ⟨[.pointer q,w]⟩ 344 (0,0)),.arr w 5 1 (d++[]).length (u8s (d++[]))]) (by rw [PF])<|G.rangeFunc Z Z Z kr_ (sw _ bb _ _ ls ac hs.m_ om_) (fun j e=>∃ (q:Option Addr)(w:Value)(s:Str),((q=none∨q=some ⟨b,0,none⟩)/\JP ls j s/\s.length<=9*j)/\e=[.obj b (.cells ⟨[.pointer q,w]⟩ 344 (0,0)),.arr w 5 1 (d++s).length (u8s (d++s))]) ⟨q,w,[],⟨hq,.inl ⟨Z,Z⟩,by simp⟩,Z⟩ Z (fun _ _=>rfl) (fun u v=>[(1,[],.pointer (some ⟨L,0,none⟩)),(3,[],.pointer (some ⟨b,0,none⟩)),(4,[],u),(5,[],v)]) (fun l u v W1 e=>?_) (fun l j u v e W1 f E=>?_) (fun bD e f=>?_)
 ·exact SR 1 [1,3,4,18] Z<|SR 1 [1,3,4,5] Z<|U1 ⟨Z,Z,Z,Z,trivial⟩
 ·obtain ⟨q,w,s,⟨F,p,N⟩,rfl⟩:=f;have O:j<ls.length:=by have:=(aJ.1 E).1;rwa [fL] at this
  rw [uH O] at E;cases E
  have Q:=CR J O p;obtain ⟨x,H⟩:∃ x,g9 ls (ls.length-1-j)=x:=⟨_,rfl⟩;have i:x<B9:=by rw [<- H];exact kJ J.1 _
  rw [show ls.getD (ls.length-1-j) 0=x from H];rw [H] at Q;have av:(bj x).length<=9:=eE (by rw [B9v] at i;omega) om_;have ad:=LO (x:=x) (by rw [B9v] at i;exact i);have aw:(mf 9 x).length=9:=(kC 9 x (by rw [B9v] at i;omega)).1;refine SS 1 Z fun R a=>Tb (Db _ V.m_ x (by rw [B9v] at i;omega)) U7 fl_<|C6 1 [1,3,4,6] a Z<|SS 2 Z fun R a=>SU (PtrTo.block (Mem.get o mup) _) U8<|SV U6<|S2 _ Z U6<|C6 1 [3,6,26] a Z<|G.cut (fun fr Y e z=>∃ (k:Option Addr)(r:Value)(t:Str),((k=none∨k=some ⟨b,0,none⟩)/\t++bj x=d++(s++if j=0 then bj x else mf 9 x)/\t.length<=9*j+10)/\fr=[(3,[],.pointer (some ⟨b,0,none⟩)),(6,[],af (bj x))]/\e=[.obj b (.cells ⟨[.pointer k,r]⟩ 344 (0,0)),.arr r 5 1 t.length (u8s t)]) ?_ (fun fr _ ax z _ f=>?_)
  ·refine G.cd (fun I=>?_) fun I=>?_
   ·have S:0<j:=by
     have:((ls.length-1-j:Nat):Int)<(ls.length:Int)-1:=by simpa using I
     omega
    refine Tk [(3,3)] Z fun R a=>SZ 2 Z<|TQ (bj x).length 9 U9 (fun _=>⟨.inr ⟨_,Z⟩,.inl ⟨Z,Z⟩,.inl ⟨Z,Z⟩,by omega,Pf _,Pf _⟩) U2 ?_;rw [show ((([48,48,48,48,48,48,48,48,48]:Str).take 9).drop (bj x).length)=List.replicate (9-(bj x).length) 48 from by rw [show (([48,48,48,48,48,48,48,48,48]:Str).take 9)=List.replicate 9 48 from rfl,List.drop_replicate]];refine D.call (jW _ b q w (d++s) (List.replicate (9-(bj x).length) 48) F ap) Z (.inr dc_) U6 (Pk _) fl_ fun ay _ az _ ae=>SY [3,6] a Z ?_;obtain ⟨w1,rfl⟩:=ae;refine S9 0 mup (hn_ [3,6] Z) ⟨some ⟨b,0,none⟩,w1,_,⟨.inr Z,by rw [aF om_,ad];simp [],by simp;omega⟩,Z,Z⟩
   have S:j=0:=by
    have:¬ ((ls.length-1-j:Nat):Int)<(ls.length:Int)-1:=by simpa using I
    omega
   refine S9 0 mup (hn_ [3,6] Z) ⟨q,w,d++s,⟨F,by rw [aL S,PR],by simp;omega⟩,Z,Z⟩
  obtain ⟨k ,r ,t,⟨ag,ah,aA⟩,rfl,rfl⟩:=f;refine Tk [(1,3)] Z fun R a=>SV U6<|D.call (jW _ b k r t (bj x) ag om_) Z (.inr dc_) U6 (Pk _) fl_ fun aB _ aC _ ai=>TX [] trivial (a _ _ _ Z ?_);obtain ⟨w4,rfl⟩:=ai;rw [ah];exact UD (R:=fun e=>∃ (q:Option Addr)(w:Value)(s:Str),((q=none∨q=some ⟨b,0,none⟩)/\JP ls (j+1) s/\s.length<=9*(j+1))/\e=[.obj b (.cells ⟨[.pointer q,w]⟩ 344 (0,0)),.arr w 5 1 (d++s).length (u8s (d++s))]) (Pk _) ⟨some ⟨b,0,none⟩,w4,_,⟨.inr Z,Q,by rw [Po];split <;> omega⟩,Z⟩
 obtain ⟨q,w,s,⟨F,p,N⟩,rfl⟩:=f;rw [fL] at p;obtain ⟨aD,T,U,aE⟩:0<ls.length/\uY s/\bW s=bq (ls.drop (ls.length-ls.length))/\0<bW s:=p.elim (fun h=>by omega) id;rw [RR,Qv,K] at U;refine G.perm (L':=[.obj b (.cells ⟨[.pointer q,w]⟩ 344 (0,0)),.arr w 5 1 (d++s).length (u8s (d++s)),.obj bD (.deferred (some []))]) (pkL [1,1,0] Z)<|Tk [(0,3)] Z fun R a=>D.call (Dp _ b q w (d++s) (fun h=>T.2.1 (Sk.1 h).2) (by simp;rw [fL] at N;omega)) Z (.inr dc_) U6 (Pk _) fl_ fun aG _ aH _ aj=>C6 1 [2] a Z ?_;obtain ⟨rfl,rfl⟩:=aj;refine S7 (UZ (Kc Z Z) ?_);refine ⟨?_,Z⟩;have es:s=bj n:=by rw [<- U];exact nY T
 rw [zJ m n (fun _=>by omega),es,<- g];cases m <;> rfl
theorem sb (a:0<Q):(x+B9*t) / Q=B9*(t / Q)+(x+B9*(t % Q)) / Q/\(x+B9*t) % Q=(x+B9*(t % Q)) % Q:=by
 have h:x+B9*t=(x+B9*(t % Q))+Q*(B9*(t / Q)):=by
  have h1:=Sc t Q;have h2:B9*t=B9*(t % Q)+B9*(Q*(t / Q)):=by rw [<- Qs,h1]
  rw [h2,SL];omega
 rw [h,R8 _ _ a,Nat.add_mul_mod_self_left];exact ⟨by omega,Z⟩
theorem lQ (a:0<Q)(b:x<B9):(x+B9*(t % Q)) / Q<B9:=by
 rw [Q3 a];have h1:=PY t a;have h2:B9*(t % Q+1)<=B9*Q:=QC _ h1;rw [Qs] at h2;omega
theorem ft (h:j<l.length):bq (l.drop j)=g9 l j+B9*bq (l.drop (j+1)):=by
 rw [PI h,bq,yA (ak h)]
theorem kX (h:j<l.length):bq ((l.set j x).drop j)=x+B9*bq (l.drop (j+1)):=by
 rw [PI (by simpa using h),bq,List.getElem_set_self,List.drop_set_of_lt om_]
theorem sa (C:Mem)(va M:Value)(m d:Nat)(ha:NineC C va m)(hm:m<B9 ^ 200000)(F:Sl C 1 M ([d].map cP))(H:0<d)(hd:d<B9) :
  Pur cx.P 227 [va,M] C fun u D=>∃ q r,u=.tuple #[q,r]/\NineC D q (m / d)/\NineC D r (m % d):=by
 have aa:NineC C M d:=⟨[d],⟨fun x o=>(by rw [PE.1 o];exact hd),by simp;omega⟩,by show d+B9*0=d;omega,F⟩;have N:=ha;obtain ⟨a,ao,ab,aF,O⟩:=ha.get hm;obtain ⟨A0,c0,rfl,_⟩:=id O;obtain ⟨B0,d0,rfl,aG⟩:=id F;simp only [al,aY] at F aa O N ⊢;have p:=B9v;refine Up kr_ func227 Z 146 Z Z fun w0=>SX fun R b=>Tf U6 fun b3=>Te U5 fun g=>C6 1 [0,3,4,5] b Z<|G.freeze 1 Z fun _ _ K=>SS 1 Z fun R b=>SU (PtrTo.block (Mem.get K mup) _) U8<|S8 (pj _ N.m_ aa.m_) U7<|C6 1 [0,3,4,5,17] b Z<|G.cd (fun Q=>?_) fun Q=>?_
 ·have S:m<d:=by
   have:jB m d<0:=by simpa using Q
   exact iN.1 this
  refine SS 1 Z fun R b=>S5 (j:=0) U12<|C6 1 [4,5] b Z<|S7 (Ut (Ay ag Z Z Z Z Z) ?_ Jj);refine ⟨Z,_,_,Z, ?_, ?_⟩
  ·rw [Rp S];exact NineC.zero _
  rw [RQ S];exact N.mono mup
 have S:d<=m:=by
  have h:¬ jB m d<0:=by simpa using Q
  rw [iN] at h;omega
 obtain ⟨n,hn⟩:∃ n,a.length=n:=⟨_,rfl⟩;refine SX fun R b=>SU (PtrTo.block (Mem.get K mup) _) U8<|C6 2 [0,3,4,5,21] b Z<|G.cd (fun ad=>?_) fun ad=>?_
 ·refine SS 2 Z fun R b=>TT U9 (Pf _) (by show 8*a.length<=281474976710656;omega) (by simp only [maxLen];omega) fl_ fun f=>S5 (j:=1) U12<|SY [0,3,4] b Z<|SX fun R b=>Te U5 fun k=>S5 (j:=0) U12<|SY [0,3,4,6] b Z<|SS 1 Z fun R b=>Tv (BN _ A0 a.length c0) U7 fun aH _ _ ap=>SY [3,4,6,26] b Z ?_;obtain ⟨bb,rfl,aq⟩:=ap;refine Tc (L':=[.obj k (.cells ⟨[.int .u64 ((bq (a.drop (a.length-0)) % d:Nat):Int)]⟩ 285 (0,0)),.obj g (.cells ⟨[qU f a.length a.length]⟩ 271 (0,0)),.arr (qU f a.length a.length) 285 1 a.length ((List.replicate a.length 0).map cP).flatten]) (by rw [<- DP,R4,Qk,show bq []=0 from Z,Nat.zero_mod];rfl)<|G.rangeFunc Z Z Z kr_ (sw _ bb _ _ a aq O.m_ om_) (fun j e=>∃ (c:List Nat),(c.length=a.length/\Dig9 c/\bq (c.drop (a.length-j))=bq (a.drop (a.length-j)) / d)/\e=[.obj k (.cells ⟨[.int .u64 ((bq (a.drop (a.length-j)) % d:Nat):Int)]⟩ 285 (0,0)),.obj g (.cells ⟨[qU f a.length a.length]⟩ 271 (0,0)),.arr (qU f a.length a.length) 285 1 a.length (c.map cP).flatten]) ⟨List.replicate a.length 0,⟨PB,(fun x o=>by rw [Rk o];decide),by rw [R4,Qk,R2 am];simp [bq]⟩,Z⟩ Z (fun _ _=>rfl) (fun u v=>[(3,[],.pointer (some ⟨b3,0,none⟩)),(4,[],.pointer (some ⟨g,0,none⟩)),(6,[],.pointer (some ⟨k,0,none⟩)),(7,[],u),(8,[],v)]) (fun l u v W1 e=>?_) (fun l j u v e W1 s U=>?_) (fun bD e s=>?_)
  ·exact SR 1 [3,4,6,7,28] Z<|SR 1 [3,4,6,7,8] Z<|U1 ⟨Z,Z,Z,Z,Z,trivial⟩
  ·obtain ⟨c,⟨I,L,B⟩,rfl⟩:=s;have ar:j<a.length:=by have:=(aJ.1 U).1;rwa [fL] at this
   rw [uH ar] at U;cases U
   obtain ⟨i,hi⟩:∃ i,a.length-1-j=i:=⟨_,rfl⟩;have af:a.length-j=i+1:=by omega
   obtain ⟨T,hT⟩:∃ T,bq (a.drop (i+1))=T:=⟨_,rfl⟩;have au:=kJ ao.1 i;have aI:=PY T H;have hX:T % d*B9+g9 a i<18446744073709551616:=by
    have:=P7 B9 (show T % d<=999999999 by omega);rw [p] at this ⊢;omega
   rw [hi,af,hT,show a.getD i 0=g9 a i from rfl];rw [af,hT] at B;have av:T % d*B9+g9 a i=g9 a i+B9*(T % d):=by rw [P1,RD]
   have V:=sb (t:=T) (x:=g9 a i) H;have ah:=lQ (t:=T) H au;rw [<- av] at V ah;refine SX fun R b=>S1 ag U9<|D.int (((T % d*B9:Nat):Int)) U4 (by rw [show (1000000000:Int)=((B9:Nat):Int) from Z,<- PL,IntKind.wrap_u64];omega) U2<|SV U6<|D.int (((T % d*B9+g9 a i:Nat):Int)) U4 (by rw [IntKind.wrap_u64];omega) U2<|S5 (j:=0) U12<|SY [3,4,6,7] b Z<|G.cut (fun fr W e X=>(True)/\fr=[]/\e=[.obj k (.cells ⟨[.int .u64 (((T % d*B9+g9 a i) % d:Nat):Int)]⟩ 285 (0,0)),.arr (qU f a.length a.length) 285 1 a.length (aE (c.map cP).flatten [Value.int .u64 (((T % d*B9+g9 a i) / d:Nat):Int)] (i*1)),.obj g (.cells ⟨[qU f a.length a.length]⟩ 271 (0,0))]) ?_ (fun fr aK aL X aM s=>?_)
   ·refine TG (.cut [0,1,2,3,4,5,6,8,9,10,12] (.alt 7 (.fin [11,13,14]) (.alt 13 (.fin [7,11,14]) .stop))) [] Z Z kr_ fun R p b w=>S1 ae U9<|SV U6<|S1 ag U9<|SU (PtrTo.block (Mem.get K mup) _) U8<|Ta F.m_ U10 om_ (rfl:([d].map cP)[(0:Int).toNat]?=some (cP d)) fl_ fun aN aw=>SU aw U8<|TV (T % d*B9+g9 a i) (d) U6 om_ (.inr ⟨Z,by omega⟩) U2<|SU (PtrTo.block (Mem.get K mup) _) U8<|Ta F.m_ U10 om_ (rfl:([d].map cP)[(0:Int).toNat]?=some (cP d)) fl_ fun aO ax=>SU ax U8<|Tm (i*1) U10 aj U2<|Tw w Z ⟨?_, ?_,trivial⟩
    ·first | refine Ty ag U9 ?_ | refine Ty ae U9 ?_
     refine TM (T % d*B9+g9 a i) (d) U6 om_ U2<|Tr (j:=2) U11 (by show i*1+1<=_;rw [bU eC,I];omega)<|S5 (j:=1) U12<|TX [] trivial (b _ _ _ Z ?_);clear b p w R;exact S9 0 (Mem.le.refl _) (fr':=[]) trivial ⟨trivial,Z,Z⟩
    refine Tr (j:=2) U11 (by show i*1+1<=_;rw [bU eC,I];omega) ?_
    first | refine Ty ag U9 ?_ | refine Ty ae U9 ?_
    refine TM (T % d*B9+g9 a i) (d) U6 om_ U2<|S5 (j:=1) U12<|TX [] trivial (b _ _ _ Z ?_);clear b p w R;exact S9 0 (Mem.le.refl _) (fr':=[]) trivial ⟨trivial,Z,Z⟩
   obtain ⟨_,rfl,rfl⟩:=s;refine G.perm (L':=[.obj k (.cells ⟨[.int .u64 (((T % d*B9+g9 a i) % d:Nat):Int)]⟩ 285 (0,0)),.obj g (.cells ⟨[qU f a.length a.length]⟩ 271 (0,0)),.arr (qU f a.length a.length) 285 1 a.length (aE (c.map cP).flatten [Value.int .u64 (((T % d*B9+g9 a i) / d:Nat):Int)] (i*1))]) (pkL [0,1,0] Z) ?_;have ai:bq (a.drop i)=g9 a i+B9*T:=by rw [ft om_,hT]
   have ay:bq (a.drop (a.length-(j+1))) % d=(T % d*B9+g9 a i) % d:=by rw [show a.length-(j+1)=i by omega,ai,V.2]
   exact Tc (L':=[.obj k (.cells ⟨[.int .u64 ((bq (a.drop (a.length-(j+1))) % d:Nat):Int)]⟩ 285 (0,0)),.obj g (.cells ⟨[qU f a.length a.length]⟩ 271 (0,0)),.arr (qU f a.length a.length) 285 1 a.length ((c.set i ((T % d*B9+g9 a i) / d)).map cP).flatten]) (by rw [ay,<- bN eC _ (by omega:i<c.length)];rfl)<|UD (R:=fun e=>∃ (c:List Nat),(c.length=a.length/\Dig9 c/\bq (c.drop (a.length-(j+1)))=bq (a.drop (a.length-(j+1))) / d)/\e=[.obj k (.cells ⟨[.int .u64 ((bq (a.drop (a.length-(j+1))) % d:Nat):Int)]⟩ 285 (0,0)),.obj g (.cells ⟨[qU f a.length a.length]⟩ 271 (0,0)),.arr (qU f a.length a.length) 285 1 a.length (c.map cP).flatten]) (Pk _) ⟨c.set i ((T % d*B9+g9 a i) / d),⟨by simp [I],L.set ah,by rw [show a.length-(j+1)=i by omega,ai,kX om_,B,V.1];omega⟩,Z⟩
  obtain ⟨c,⟨I,L,B⟩,rfl⟩:=s;rw [fL,RR,Qv,Qv,ab] at B;rw [fL,RR,Qv,ab];refine G.freezeArr 3 (c.map cP) U2 (by intro r hr;obtain ⟨y,_,rfl⟩:=Pn.1 hr;rfl) (by rw [al,I]) fun Cq aP ak=>G.cut (fun fr W e X=>∃ (E z:Value),(NineC W E (m / d)/\NineC W z (m % d))/\fr=[(4,[],.pointer (some ⟨g,0,none⟩)),(5,[],z)]/\e=[.obj g (.cells ⟨[E]⟩ 271 (0,0)),.obj bD (.deferred (some [])),.obj k (.cells ⟨[.int .u64 ((m % d:Nat):Int)]⟩ 285 (0,0))]) ?_ (fun fr aQ aR X aS s=>?_)
  ·refine TG (.cut [0,2] (.alt 1 (.fin [3,4,5,6]) (.alt 3 (.fin [1,4,5,6]) .stop))) [] Z Z kr_ fun R p b w=>S1 ac U9<|S1 ae U9<|Tw w Z ⟨?_, ?_,trivial⟩
   ·refine Tv (vm _ L ak.m_) U7 fun E az _ A=>Th [cP (m % d)] U12 fun aA aB _ Y=>To (vm _ (l:=[m % d]) (fun x o=>by rw [PE.1 o];have:=PY m H;omega) Y.m_) U7 fl_ (fun z aC _ J=>?_);obtain ⟨A7,m7,c7,rfl⟩:=A.form;refine S5 (j:=2) U12<|SV U6<|SY [4,5] b Z ?_;clear b p w R;rw [show bq [m % d]=m % d from (by show m % d+B9*0=m % d;omega)] at J;rw [B] at A;exact S9 0 mup (hn_ [4,5] Z) ⟨_,z,⟨A.mono mup,J.mono mup⟩,Z,Z⟩
   refine Th [cP (m % d)] U12 fun aA aB _ Y=>Tv (vm _ L ak.m_) U7 fun E az _ A=>To (vm _ (l:=[m % d]) (fun x o=>by rw [PE.1 o];have:=PY m H;omega) Y.m_) U7 fl_ (fun z aC _ J=>?_);obtain ⟨A7,m7,c7,rfl⟩:=A.form;refine S5 (j:=2) U12<|SV U6<|SY [4,5] b Z ?_;clear b p w R;rw [show bq [m % d]=m % d from (by show m % d+B9*0=m % d;omega)] at J;rw [B] at A;exact S9 0 mup (hn_ [4,5] Z) ⟨_,z,⟨A.mono mup,J.mono mup⟩,Z,Z⟩
  obtain ⟨E,z,⟨an,aD⟩,rfl,rfl⟩:=s;refine G.perm (L':=[.obj bD (.deferred (some [])),.obj g (.cells ⟨[E]⟩ 271 (0,0)),.obj k (.cells ⟨[.int .u64 ((m % d:Nat):Int)]⟩ 285 (0,0))]) (pkL [1,0,0] Z) ?_;obtain ⟨A7,m7,c7,rfl⟩:=an.form;refine S7 (UZ (Ay ag Z Z Z Z Z) ?_);exact ⟨Z,_,_,Z,an,aD⟩
 exact absurd ad dc_
theorem vi (h:Dig9 l)(a:k<=l.length):bq l / B9 ^ k=bq (l.drop k):=by
 have e:bq l=bq (l.take k)+B9 ^ k*bq (l.drop k):=by
  conv=>lhs;rw [<- P9 k l]
  rw [fx,Pw,Qn a]
 have h1:=iF (h.take k);rw [Pw,Qn a] at h1;rw [e,R8 _ _ (RC dc_),Rp h1,QE]
theorem ua {b a:List Nat}(f:xG b)(c:xG a)(j:0<a.length)(m:a.length<=b.length):bq b / bq a<=bq (b.drop (a.length-1)) / g9 a (a.length-1)/\0<g9 a (a.length-1):=by
 have d:bq (a.drop (a.length-1))=g9 a (a.length-1):=by
  rw [ft om_,show a.length-1+1=a.length by omega,Qk];show _+B9*0=_;omega
 have h1:=vi c.1 (k:=a.length-1) om_;have h2:=vi f.1 (k:=a.length-1) om_;have e:0<g9 a (a.length-1):=by
  rcases Qj (g9 a (a.length-1)) with h | h
  ·have h3:=wI (l:=a) (i:=a.length-1) om_;rw [h] at h3;exact absurd (by rw [Rr];exact h3) c.2
  exact h
 refine ⟨?_,e⟩;rw [<- h2,<- d,<- h1,Nat.div_div_eq_div_mul];have g:0<B9 ^ (a.length-1):=RC dc_;rw [d] at h1;refine Nat.div_le_div_left (Nat.mul_div_le _ _) ?_;rw [h1];exact RL g e
theorem Bj (h:l.length=k+1):bq (l.drop k)=g9 l k:=by
 rw [ft om_,show k+1=l.length by omega,Qk];show _+B9*0=_;omega
theorem IY (h:l.length=k+2):bq (l.drop k)=g9 l (k+1)*B9+g9 l k:=by
 rw [ft om_,Bj (k:=k+1) om_,P1];omega
theorem yY (c:xG a)(d:xG b)(h:bq b<=bq a):b.length<=a.length:=by
 rcases PQ a.length b.length with h1 | h1
 ·have:=tS c.1 d h1;omega
 exact h1
theorem xo (c:xG a)(d:xG b)(h:bq a<B9*bq b):a.length<=b.length+1:=by
 have h2:=iF d.1;refine su c (Qt h ?_);rw [Qu,P1];exact P7 _ (Nat.le_of_lt h2)
theorem js {f:Nat}(a:m<B9 ^ k)(b:f<B9):m*f<B9 ^ (k+1):=by
 rw [Qu];exact Q7 a b
theorem Og {a:Nat}(h:x<B9*a)(b:a<B9 ^ k):x<B9 ^ (k+1):=by
 rw [Qu,P1 _ B9];exact Rt h (Nat.mul_lt_mul_of_pos_left b dc_)
theorem JN (l:List Nat):(l.map cP).all (fun r=>r.all na)=true:=by
 rw [List.all_map,PD];intro x _;rfl
theorem Di (C:Mem)(va vb:Value)(m n:Nat)(ha:NineC C va m)(hb:NineC C vb n)(hm:m<B9 ^ 100000)(aG:B9<=n) :
  Pur cx.P 227 [va,vb] C fun u D=>∃ q r,u=.tuple #[q,r]/\NineC D q (m / n)/\NineC D r (m % n):=by
 have aH:0<n:=Qt dc_ aG;have ad:=ha;have af:=hb;obtain ⟨B,Q,bF,ah⟩:=hb;obtain ⟨A0,a0,c0,rfl⟩:=ha.form;obtain ⟨B0,d0,rfl,a3,bG,_⟩:=id ah;simp only [al] at ah af a3 ⊢;have bH:maxLen<=9223372036854775807:=by simp [maxLen]
 have S:=B9v;have bI:2<=B.length:=by
  rcases PQ B.length 2 with h | h
  ·have h2:=iF Q.1;have h3:B9 ^ B.length<=B9 ^ 1:=PK dc_ om_;rw [Nat.pow_one] at h3;omega
  exact h
 refine Up kr_ func227 Z 146 Z Z (fun w0=>?_);refine SX fun R a=>?_;refine Tf U6 (fun b3=>?_);refine Te U5 (fun e=>?_);refine C6 1 [0,3,4,5] a Z ?_;clear a R;refine SS 1 Z fun R a=>?_
 skip
 refine S1 ae U9 ?_;refine S8 (pj _ ad.m_ af.m_) U7 ?_;refine C6 1 [0,3,4,5,17] a Z ?_;clear a R;refine G.cd (fun ai=>?_) fun ai=>?_
 ·have U:m<n:=by
   have:jB m n<0:=by simpa using ai
   exact iN.1 this
  refine SS 1 Z fun R a=>?_;refine S5 (j:=0) U12 ?_;refine C6 1 [4,5] a Z ?_;clear a R;refine S7 (Ut (Ay ag Z Z Z Z Z) ?_ Jj);refine ⟨Z,_,_,Z, ?_, ?_⟩
  ·rw [Rp U];exact NineC.zero _
  rw [RQ U];exact ad.mono mup
 have U:n<=m:=by
  have h:¬ jB m n<0:=by simpa using ai
  rw [iN] at h;omega
 refine SX fun R a=>?_;refine S1 ae U9 ?_;refine C6 2 [0,3,4,5,21] a Z ?_;clear a R;refine G.cd (fun aI=>?_) fun aI=>?_
 ·exact absurd aI ap
 have bJ:=kJ Q.1 (B.length-1);have a4:(B.map cP)[((B.length:Int)-1).toNat]?=some (cP (g9 B (B.length-1))):=by
  rw [show ((B.length:Int)-1).toNat=B.length-1 by omega];exact ja om_
 obtain ⟨f,hf⟩:∃ f,B9 / (g9 B (B.length-1)+1)=f:=⟨_,rfl⟩;refine SX fun R a=>?_;refine S1 ae U9 ?_;refine S1 ae U9 ?_;refine SV U6 ?_;refine S2 _ Z U6 ?_;refine Ta ah.m_ U10 om_ a4 fl_ (fun bK a5=>?_);refine SU a5 U8 ?_;refine D.int (((g9 B (B.length-1)+1:Nat):Int)) U4 (by rw [IntKind.wrap_u64];omega) U2 ?_;refine TV (B9) (g9 B (B.length-1)+1) U6 om_ (.inr ⟨Z,by omega⟩) U2 ?_;refine C6 1 [0,3,4,5,9] a Z ?_;clear a R;rw [hf];have w:0<f:=by rw [<- hf];exact Nat.div_pos om_ om_
 have o:f<B9:=by
  rw [<- hf];have h1:=(ua Q Q om_ (Pf _)).2;exact Nat.div_lt_self dc_ om_
 have y:n<B9 ^ 100000:=Qd U hm;refine Tg [0,1,3,4,2,5,6,7] [] Z kr_ (fun R S a=>?_);refine SZ 2 Z ?_;refine S1 ae U9 ?_;refine SV U6 ?_;refine To (xV (k:=100000) _ ad.m_ hm o om_) U7 fl_ (fun bL _ _ a6=>?_);refine To (xV (k:=100000) _ af.m_ y o om_) U7 fl_ (fun bM _ a7 aJ=>?_);refine SV U6 ?_;obtain ⟨a8,bO,a9,rfl⟩:=aJ.form;refine S5 (j:=1) U12 ?_;refine SY [0,3,4,5,9] a Z ?_;clear a S R;have aK:=a6.mono a7;have aL:=aJ;refine G.freeze 0 Z (fun C3 aM v=>?_);obtain ⟨P,ba,aj,bP,ak⟩:=(aK.mono aM).get (js hm o);obtain ⟨W,p,z,bQ,V⟩:=(aL.mono aM).get (js y o);obtain ⟨PA,pc,rfl,_⟩:=id ak;obtain ⟨bR,bS,bb,_⟩:=id V;cases bb
 simp only [al] at ak V v aK aL ⊢;have an:NineC C3 (.slice a8 W.length a9) (n*f):=⟨W,p,z,V⟩;have A:0<n*f:=RL aH w;have ao:n*f<B9 ^ 100001:=dC (k:=100001) (n:=100000+1) (js (k:=100000) y o) (Pf _);have bT:2<=W.length:=by
  have h1:B9<=bq W:=by rw [z];exact Py aG (Ry _ w)
  rcases PQ W.length 2 with h | h
  ·have h2:=iF p.1;have h3:B9 ^ W.length<=B9 ^ 1:=PK dc_ om_;rw [Nat.pow_one] at h3;omega
  exact h
 have bV:1<=P.length:=by
  rcases Qj P.length with h | h
  ·have:P=[]:=P2 h;subst this;have h1:m*f=0:=by rw [<- aj];rfl
   have h2:0<m*f:=RL om_ w;omega
  exact h
 have bc:=(ua p p om_ (Pf _)).2;have bW:=kJ p.1 (W.length-1);refine SS 2 Z fun R a=>?_;refine TT U9 (Pf _) (by show 8*P.length<=281474976710656;omega) (by simp only [maxLen];omega) fl_ (fun d=>?_);refine S5 (j:=1) U12 ?_;refine SY [0,3,4,5,9] a Z ?_;clear a R;refine SX fun R a=>?_;refine SU (PtrTo.block (Mem.get v mup) _) U8 ?_;refine SU (PtrTo.block (Mem.get v mup) _) U8 ?_;refine SV U6 ?_;refine S2 _ Z U6 ?_;refine Ta V.m_ U10 om_ (by rw [show ((W.length:Int)-1).toNat=W.length-1 by omega];exact ja om_:(W.map cP)[((W.length:Int)-1).toNat]?=some (cP (g9 W (W.length-1)))) fl_ (fun bX bd=>?_);refine SU bd U8 ?_;refine C6 1 [0,3,4,5,9,10] a Z ?_;clear a R;refine SS 2 Z fun R a=>?_;refine S2 _ Z U6 ?_;refine C6 1 [0,3,4,5,9,10,11] a Z ?_;clear a R;refine Tc (L':=[.obj e (.cells ⟨[qU d P.length P.length]⟩ 271 (0,0)),.arr (qU d P.length P.length) 285 1 P.length ((List.replicate P.length 0).map cP).flatten]) (by rw [<- DP];rfl) ?_;refine G.loop (fun fr Y g E=>∃ (i:Nat)(c:List Nat)(v5:Value),(i<=P.length/\c.length=P.length/\Dig9 c/\bq (c.drop i)=bq (P.drop i) / (n*f)/\NineC Y v5 (bq (P.drop i) % (n*f))/\∀ j,j<i->g9 c j=0)/\fr=[(0,[],.slice PA P.length pc),(3,[],.pointer (some ⟨b3,0,none⟩)),(4,[],.pointer (some ⟨e,0,none⟩)),(5,[],v5),(9,[],.int .u64 f),(10,[],.int .u64 (g9 W (W.length-1))),(11,[],.int .i64 ((i:Int)-1))]/\g=[.obj e (.cells ⟨[qU d P.length P.length]⟩ 271 (0,0)),.arr (qU d P.length P.length) 285 1 P.length (c.map cP).flatten]/\E=i+1) (hn_ [0,3,4,5,9,10,11] Z) ⟨P.length,List.replicate P.length 0,_,⟨Pf _,PB,(fun x hx=>by rw [Rk hx];decide),by rw [Qk,R2 am];simp [bq],by rw [Qk,show bq []=0 from Z,Nat.zero_mod];exact NineC.zero _,fun j _=>Bo _ j⟩,Z,Z,Z⟩ (fun fr bY bZ m _ F=>?_);obtain ⟨i,c,v5,⟨hi,aa,aq,H,ab,ar⟩,rfl,rfl,rfl⟩:=F;refine SR 2 [0,3,4,5,9,10,11,78] Z ?_;refine G.cd (fun au=>?_) fun au=>?_
 ·have aN:0<i:=by
   have:(0:Int)<=(i:Int)-1:=by simpa using au
   omega
  obtain ⟨j,rfl⟩:∃ j,i=j+1:=⟨i-1,by omega⟩;obtain ⟨T,hT⟩:∃ T,bq (P.drop (j+1))=T:=⟨_,rfl⟩;rw [hT] at H ab;have aO:=PY T A;obtain ⟨I,be,bf,b0,aP⟩:=ab.get (m:=100001) (Rt aO (dC (k:=100001) (n:=100000+1) (js (k:=100000) y o) (Pf _)));obtain ⟨RA,rc,aQ,_⟩:=id aP;rw [al] at aQ;subst aQ;obtain ⟨X,hX⟩:∃ X,g9 P j+B9*(T % (n*f))=X:=⟨_,rfl⟩;have aR:=kJ ba.1 j;have bg:bq (g9 P j::I)=X:=by rw [bq,bf,hX]
  have J:=sb (t:=T) (x:=g9 P j) A;have bh:=lQ (t:=T) A aR;rw [hX] at J bh;have ac:bq (P.drop j)=g9 P j+B9*T:=by rw [ft om_,hT]
  refine Tk [(7,3)] Z (fun R a=>?_);refine SZ 2 Z ?_;refine Ta ak.m_ U10 om_ (by rw [show ((((j+1:Nat):Int)-1)).toNat=j by omega];exact ja om_:(P.map cP)[((((j+1:Nat):Int)-1)).toNat]?=some (cP (g9 P j))) fl_ (fun b1 bi=>?_);refine SU bi U8 ?_;refine TY [cP (g9 P j)] U12 fl_ (fun b2=>?_);refine SV U6 ?_;refine D.append (j:=0) U11 aP.m_ (JN I) (by simp only [al,aY,maxLen];omega) (by simp only [al,aY];omega) fl_ (fun b5=>?_);refine D.call (gg _ _ (g9 P j::I) (n:=1+(I.map cP).length) (by rw [al];simp;omega)) Z (.inr dc_) U6 (Pk _) fl_ (fun bj bk b6 _ bl=>?_);refine C6 1 [0,3,4,5,9,10,11] a Z ?_;clear a R;obtain ⟨rfl,hu⟩:=bl;have K:NineC bk bj X:=⟨DO (g9 P j::I),ik (fun x hx=>(Ps.1 hx).elim (fun h=>by rw [h];exact aR) (be.1 x)),by rw [ij,bg],hu⟩;have aS:X<B9*(n*f):=by
   have h1:B9*(T % (n*f)+1)<=B9*(n*f):=QC _ aO;rw [Qs] at h1;omega
  have aT:X<B9 ^ 100002:=dC (k:=100002) (n:=100001+1) (Og (k:=100001) aS ao) (Pf _);obtain ⟨b,L,av,b7,aw⟩:=K.get aT;obtain ⟨XA,xc,aU,_⟩:=id aw;rw [al] at aU;subst aU;refine SS 1 Z fun R a=>?_;refine SU (PtrTo.block (Mem.get v mup) _) U8 ?_;refine S8 (pj _ K.m_ an.m_) U7 ?_;refine C6 1 [0,3,4,5,9,10,11,92] a Z ?_;clear a R;refine G.cd (fun ax=>?_) fun ax=>?_
  ·have aV:X<n*f:=by
    have:jB X (n*f)<0:=by simpa using ax
    exact iN.1 this
   refine SS 1 Z fun R a=>?_;refine S2 _ Z U6 ?_;refine C6 1 [0,3,4,5,9,10,11] a Z ?_;clear a R;rw [show ((j+1:Nat):Int)-1-1=(j:Int)-1 by omega];refine S6 (m':=j+1) om_ mup (hn_ [0,3,4,5,9,10,11] Z) ⟨j,c,_,⟨by omega,aa,aq,by rw [ft (l:=c) om_,ar j om_,H,ac,J.1,Rp aV];omega,by rw [ac,J.2,RQ aV];exact K.mono mup,fun j' h=>ar j' om_⟩,Z,Z,Z⟩
  have bm:n*f<=X:=by
   have h:¬ jB X (n*f)<0:=by simpa using ax
   rw [iN] at h;omega
  have bn:=yY L p (by rw [av,z];exact bm);have b8:=xo L p (by rw [av,z];exact aS);have ay:=(ua L p om_ bn).1;obtain ⟨s,az⟩:∃ s,bq (b.drop (W.length-1))=s:=⟨_,rfl⟩;rw [av,z,az] at ay;have b9:=kJ L.1 (b.length-1);have ca:=kJ L.1 (b.length-2);refine SS 3 Z fun R a=>?_;refine S2 _ Z U6 ?_;refine Ta aw.m_ U10 om_ (by rw [show ((b.length:Int)-1).toNat=b.length-1 by omega];exact ja om_:(b.map cP)[((b.length:Int)-1).toNat]?=some (cP (g9 b (b.length-1)))) fl_ (fun cb bo=>?_);refine SU bo U8 ?_;refine C6 1 [0,3,4,5,9,10,11,12] a Z ?_;clear a R;refine SS 2 Z fun R a=>?_;refine SU (PtrTo.block (Mem.get v mup) _) U8 ?_;refine C6 2 [0,3,4,5,9,10,11,12,103] a Z ?_;clear a R;refine G.cut (fun fr Y g E=>(s<1000000000000000000)/\fr=[(0,[],.slice PA P.length pc),(3,[],.pointer (some ⟨b3,0,none⟩)),(4,[],.pointer (some ⟨e,0,none⟩)),(5,[],.slice XA b.length xc),(9,[],.int .u64 f),(10,[],.int .u64 (g9 W (W.length-1))),(11,[],.int .i64 (((j+1:Nat):Int)-1)),(12,[],.int .u64 (s:Nat))]/\g=[.obj e (.cells ⟨[qU d P.length P.length]⟩ 271 (0,0)),.arr (qU d P.length P.length) 285 1 P.length (c.map cP).flatten]) ?_ (fun fr _ cc E _ F=>?_)
  ·refine G.cd (fun aA=>?_) fun aA=>?_
   ·have bp:b.length=W.length-1+2:=by
     have:(W.length:Int)<(b.length:Int):=by simpa using aA
     omega
    have M:=IY bp;rw [az,show W.length-1+1=b.length-1 by omega,show W.length-1=b.length-2 by omega] at M;have br:g9 b (b.length-1)*B9<=999999999*B9:=P7 _ om_;rw [show 999999999*B9=999999999000000000 from rfl] at br;refine SS 1 Z fun R a=>?_;refine D.int (((g9 b (b.length-1)*B9:Nat):Int)) U4 (by rw [show (1000000000:Int)=((B9:Nat):Int) from Z,<- PL,IntKind.wrap_u64];omega) U2 ?_;refine SZ 3 Z ?_;refine S2 _ Z U6 ?_;refine Ta aw.m_ U10 om_ (by rw [show ((b.length:Int)-2).toNat=b.length-2 by omega];exact ja om_:(b.map cP)[((b.length:Int)-2).toNat]?=some (cP (g9 b (b.length-2)))) fl_ (fun ce bs=>?_);refine SU bs U8 ?_;refine D.int (((s:Nat):Int)) U4 (by rw [M,IntKind.wrap_u64];omega) U2 ?_;refine C6 1 [0,3,4,5,9,10,11,12] a Z ?_;clear a R;refine S9 0 mup (hn_ [0,3,4,5,9,10,11,12] Z) ⟨by omega,Z,Z⟩
   have bt:b.length=W.length-1+1:=by
    have:¬ (W.length:Int)<(b.length:Int):=by simpa using aA
    omega
   have M:=Bj bt;rw [az,show W.length-1=b.length-1 by omega] at M;rw [<- M];refine S9 0 mup (hn_ [0,3,4,5,9,10,11,12] Z) ⟨by omega,Z,Z⟩
  obtain ⟨cf,rfl,rfl⟩:=F;obtain ⟨N,aB⟩:∃ N,s / g9 W (W.length-1)=N:=⟨_,rfl⟩;rw [aB] at ay;have cg:N<=s:=by rw [<- aB];exact Qo _ _
  refine SS 2 Z fun R a=>?_;refine TV (s) (g9 W (W.length-1)) U6 bc (.inr ⟨Z,by omega⟩) U2 ?_;rw [aB];refine D.min (((min N 999999999:Nat):Int)) U6 om_ U2 ?_;refine C6 1 [0,3,4,5,9,10,11,12] a Z ?_;clear a R;refine SX fun R a=>?_;refine SU (PtrTo.block (Mem.get v mup) _) U8 ?_;refine SV U6 ?_;refine To (xV (k:=100001) _ an.m_ ao om_ om_) U7 fl_ (fun bu _ _ bv=>?_);refine C6 1 [0,3,4,5,9,10,11,12,13] a Z ?_;clear a R;refine G.loop (fun fr Y g E=>∃ (dd:Nat)(aC:Value),(X / (n*f)<=dd/\dd<B9/\NineC Y aC (n*f*dd))/\fr=[(0,[],.slice PA P.length pc),(3,[],.pointer (some ⟨b3,0,none⟩)),(4,[],.pointer (some ⟨e,0,none⟩)),(5,[],.slice XA b.length xc),(9,[],.int .u64 f),(10,[],.int .u64 (g9 W (W.length-1))),(11,[],.int .i64 (((j+1:Nat):Int)-1)),(12,[],.int .u64 (dd:Nat)),(13,[],aC)]/\g=[.obj e (.cells ⟨[qU d P.length P.length]⟩ 271 (0,0)),.arr (qU d P.length P.length) 285 1 P.length (c.map cP).flatten]/\E=dd+1) (hn_ [0,3,4,5,9,10,11,12,13] Z) ⟨min N 999999999,bu,⟨by have h:=Nat.le_min.2 ⟨ay,(by omega:X / (n*f)<=999999999)⟩;exact h,by omega,bv.mono mup⟩,Z,Z,Z⟩ (fun fr ch ci m _ F=>?_);obtain ⟨dd,aC,⟨bw,aW,aD⟩,rfl,rfl,rfl⟩:=F;refine SS 2 Z fun R a=>?_;refine S8 (pj _ aD.m_ K.m_) U7 ?_;refine C6 1 [0,3,4,5,9,10,11,12,13,123] a Z ?_;clear a R;refine G.cd (fun aF=>?_) fun aF=>?_
  ·have O:X<n*f*dd:=by
    have:0<jB (n*f*dd) X:=by simpa using aF
    exact Fc.1 this
   have bx:1<=dd:=by
    rcases Qj dd with h | h
    ·rw [h] at O;omega
    exact h
   refine SS 1 Z fun R a=>?_;refine SU (PtrTo.block (Mem.get v mup) _) U8 ?_;refine To (tO (k:=100002) _ aD.m_ an.m_ (dC (k:=100002) (n:=100001+1) (js (k:=100001) ao aW) (Pf _)) (Ry _ bx) om_) U7 fl_ (fun bz _ _ aX=>?_);refine C6 1 [0,3,4,5,9,10,11,12,13] a Z ?_;clear a R;refine SS 1 Z fun R a=>?_;refine D.int (((dd-1:Nat):Int)) U4 (by rw [IntKind.wrap_u64];omega) U2 ?_;refine C6 1 [0,3,4,5,9,10,11,12,13] a Z ?_;clear a R;rw [show n*f*dd-n*f=n*f*(dd-1) from by rw [Nat.mul_sub,Ql]] at aX;refine S6 (m':=dd-1+1) om_ mup (hn_ [0,3,4,5,9,10,11,12,13] Z) ⟨dd-1,bz,⟨by have h:=(Q3 A).2 (by rw [P1];exact O);omega,by omega,aX.mono mup⟩,Z,Z,Z⟩
  have O:n*f*dd<=X:=by
   have h:¬ 0<jB (n*f*dd) X:=by simpa using aF
   rw [Fc] at h;omega
  have aZ:dd=X / (n*f):=Nat.le_antisymm ((Nat.le_div_iff_mul_le A).2 (by rw [P1];exact O)) bw;have bA:X-n*f*dd=X % (n*f):=by rw [aZ];have:=Sc X (n*f);omega
  refine Tg [0,1,2,3,4,5,6,7,8] [] Z kr_ (fun R S a=>?_);refine S1 ag U9 ?_;refine SZ 4 Z ?_;refine To (tO (k:=100002) _ K.m_ aD.m_ aT O om_) U7 fl_ (fun bB _ _ a1=>?_);refine Tm (j*1) U10 (fun _=>⟨by omega,by omega,(by rw [show (((j+1:Nat):Int)-1).toNat=j by omega])⟩) U2 ?_;refine Tr (j:=1) U11 (by show j*1+1<=_;rw [bU eC,aa];omega) ?_;refine SV U6 ?_;refine SY [0,3,4,5,9,10,11] a Z ?_;clear a S R;refine SS 1 Z fun R a=>?_;refine S2 _ Z U6 ?_;refine C6 1 [0,3,4,5,9,10,11] a Z ?_;clear a R;rw [show ((j+1:Nat):Int)-1-1=(j:Int)-1 by omega];refine G.perm (L':=[.obj e (.cells ⟨[qU d P.length P.length]⟩ 271 (0,0)),.arr (qU d P.length P.length) 285 1 P.length (aE (c.map cP).flatten (cP dd) (j*1))]) (List.Perm.swap _ _ _) ?_;refine Tc (L':=[.obj e (.cells ⟨[qU d P.length P.length]⟩ 271 (0,0)),.arr (qU d P.length P.length) 285 1 P.length ((c.set j dd).map cP).flatten]) (by rw [<- bN eC _ (by omega:j<c.length)]) ?_;rw [bA] at a1;refine S6 (m':=j+1) om_ mup (hn_ [0,3,4,5,9,10,11] Z) ⟨j,c.set j dd,bB,⟨by omega,by simp [aa],aq.set aW,by rw [kX om_,H,ac,J.1,aZ];omega,by rw [ac,J.2];exact a1.mono mup,fun j' h=>by rw [pN om_];exact ar j' om_⟩,Z,Z,Z⟩
 have aN:i=0:=by
  have:¬ (0:Int)<=(i:Int)-1:=by simpa using au
  omega
 subst aN;rw [Qv,Qv,aj,Nat.mul_div_mul_right _ _ w] at H;rw [Qv,aj,Nat.mul_mod_mul_right] at ab;refine SS 2 Z fun R a=>?_;refine Th [cP f] U12 (fun cj _ _ bC=>?_);refine To (sa _ _ _ (m % n*f) f ab.m_ (by
  have h1:=js (k:=100000) (Rt (PY m aH) y) o;exact dC (k:=200000) (n:=100000+1) h1 dc_) bC.m_ w o) U7 fl_ (fun ck _ _ bD=>?_)
 obtain ⟨q2,r2,rfl,a2,cl⟩:=bD;rw [Nat.mul_div_cancel _ w] at a2;refine C6 4 [4,5] a Z ?_;clear a R;refine G.perm (L':=[.arr (qU d P.length P.length) 285 1 P.length (c.map cP).flatten,.obj e (.cells ⟨[qU d P.length P.length]⟩ 271 (0,0))]) (List.Perm.swap _ _ _) ?_;refine Tk [(1,3)] Z (fun R a=>?_);refine S1 ae U9 ?_;refine D.call (gg _ _ c aa) Z (.inr dc_) U6 (Pk _) fl_ (fun cm _ cn _ bE=>?_);refine SV U6 ?_;obtain ⟨rfl,hu⟩:=bE;obtain ⟨Au,cu,rfl,_⟩:=id hu;refine S5 (j:=0) U12 ?_;refine C6 1 [4,5] a Z ?_;clear a R;refine S7 (Ut (Ay ag Z Z Z Z Z) ?_ Jj);exact ⟨Z,_,_,Z,⟨DO c,ik aq,by rw [ij,H],hu⟩,a2.mono mup⟩
theorem wT (C:Mem)(a b:Value)(m n:Nat)(g:NineC C a m)(h:NineC C b n)(i:m<B9 ^ 100000)(f:0<n) :
  Pur cx.P 227 [a,b] C fun u D=>∃ q r,u=.tuple #[q,r]/\NineC D q (m / n)/\NineC D r (m % n):=by
 rcases PQ n B9 with c | c
 ·obtain ⟨l,h1,h2,h3,h4⟩:=h.get (m:=1) (by rw [Nat.pow_one];exact c);have j:l≠[]:=fun e=>by rw [e] at h2;rw [<- h2] at f;exact absurd f dc_
  obtain ⟨d,rfl⟩:∃ d,l=[d]:=by
   cases l with
   | nil=>exact absurd rfl j
   | cons d l=>cases l with
    | nil=>exact ⟨d,rfl⟩
    | cons e l=>simp at h3
  have o:d=n:=by rw [<- h2];show d=d+B9*0;omega
  subst o;exact sa C a b m d g (dC (k:=200000) (n:=100000) i dc_) h4 f c
 exact Di C a b m n g h i c
theorem I8 (C:Mem)(s:Str)(c:UInt8):Gives cx.P 250 [af s,af [c]] C (.bool (cK c s).2):=by
 exact S4 func250 8 U3 fun w0=>SR 1 [0,1] Z<|SS 2 Z fun R a=>S8 (yy _ s c) U7<|C6 1 [4] a Z<|S3 U2<|⟨Z,Z⟩
theorem D5 (C:Mem)(s:Str)(c:UInt8):Gives cx.P 277 [af s,af [c]] C (af (cK c s).1):=by
 refine S4 func277 13 U3 fun w0=>SR 1 [0,1] Z<|SS 2 Z fun R d=>S8 (yy _ s c) U7<|SY [0,1,7] d Z<|G.cd (fun a=>?_) fun a=>?_
 ·have h:s.head?=some c:=PO fun h=>by unfold cK at a;rw [aF h] at a;cases a
  have e:1<=s.length:=by cases s with
   | nil=>cases h
   | cons b s=>simp
  refine SS 3 Z fun R d=>TQ 1 s.length U9 (fun _=>⟨.inr ⟨_,Z⟩,.inl ⟨Z,Z⟩,.inl ⟨Z,Z⟩,by omega,Pf _,Pf _⟩) U2<|C6 1 [4] d Z<|S3 U2 ?_;unfold cK;rw [aL h];refine ⟨?_,Z⟩;rw [Pv,List.drop_one];rfl
 have h:¬ s.head?=some c:=fun h=>by unfold cK at a;rw [aL h] at a;cases a
 refine SR 2 [4] Z<|S3 U2 ?_;unfold cK;rw [aF h];exact ⟨Z,Z⟩
theorem zL (C:Mem)(s:Str)(c:UInt8):Gives cx.P 225 [af s,af [c]] C (af (cK c s).1):=by
 exact S4 func225 8 U3 fun w0=>SR 1 [0,1] Z<|SS 2 Z fun R a=>S8 (D5 _ s c) U7<|C6 1 [4] a Z<|S3 U2<|⟨Z,Z⟩
def eK (z:Int):Int:=if z<0 then -1 else if z=0 then 0 else 1
theorem lJ (C:Mem)(z:Int):Gives cx.P 186 [af (txt z)] C (.int .i64 (eK z)):=by
 refine S4 func186 9 U3 fun w0=>SR 1 [0] Z ?_
 skip
 refine SR 3 [0,3] Z<|G.cd (fun h3=>?_) fun h3=>?_
 ·have b:z=0:=by
   have h:=kY z;rw [h] at h3;exact OD h3
  exact SR 1 [2] Z<|S3 U2<|⟨by rw [b];rfl,Z⟩
 have b:z≠0:=by
  have h:=kY z;rw [h] at h3;exact Pj h3
 refine SS 1 Z fun R d=>S8 (I8 _ (txt z) 45) U7<|C6 1 [6] d Z<|G.cd (fun a=>?_) fun a=>?_
 ·have c:z<0:=by
   rw [dF] at a;exact OD a
  exact SR 1 [2] Z<|S3 U2<|⟨by rw [eK,aL c],Z⟩
 have c:¬ z<0:=by
  rw [dF] at a;exact Pj a
 exact SR 1 [2] Z<|S3 U2<|⟨by rw [eK,aF c,aF b],Z⟩
theorem rN (C:Mem)(a:Tabs C)(z:Int)(b:-9223372036854775808<=z)(c:z<=9223372036854775807):Gives cx.P 185 [.int .i64 z] C (af (txt z)):=by
 exact S4 func185 5 U3 fun w0=>SR 1 [0] Z<|SS 1 Z fun R d=>S8 (iY _ a.m_ z b c) U7<|C6 1 [2] d Z<|S3 U2<|⟨Z,Z⟩
theorem ml (z:Int):(txt z).length<=(bj z.natAbs).length+1:=by unfold txt;split <;> simp
theorem tV (C:Mem)(z:Int)(e:(bj z.natAbs).length<=1000000):Gives cx.P 133 [af (txt z)] C (af (txt (-z))):=by
 have f:=ml z;refine S4 func133 14 U3 fun w0=>SR 1 [0] Z<|SS 1 Z fun R a=>S8 (lJ _ z) U7<|SY [0,4] a Z<|SR 2 [0,4,5] Z<|G.cd (fun h5=>?_) fun h5=>?_
 ·have d:0<z:=by
   have h:eK z=1:=by simpa using h5
   unfold eK at h;split at h
   ·cases h
   split at h
   ·cases h
   omega
  refine SS 1 Z fun R a=>TP U6 (fun _=>(by simp only [Pz,PV];omega)) U2<|C6 1 [2] a Z<|S3 U2<|⟨?_,Z⟩;unfold txt;rw [aF om_,aL om_,Sg];rfl
 have d:¬ 0<z:=fun h=>by
  have h2:eK z=1:=by unfold eK;rw [aF om_,aF om_]
  rw [h2] at h5;cases h5
 refine SR 2 [0,9] Z<|G.cd (fun b=>?_) fun b=>?_
 ·have c:z<0:=by
   have h:eK z=-1:=by simpa using b
   unfold eK at h;split at h
   ·assumption
   split at h <;> cases h
  refine SS 1 Z fun R a=>TQ 1 (txt z).length U9 (fun _=>⟨.inr ⟨_,Z⟩,.inl ⟨Z,Z⟩,.inl ⟨Z,Z⟩,(by unfold txt;rw [aL c];simp),Pf _,Pf _⟩) U2<|C6 1 [2] a Z<|S3 U2<|⟨?_,Z⟩;rw [Pv];unfold txt;rw [aL c,aF om_,Sg];rfl
 have c:¬ z<0:=fun h=>by
  have h2:eK z=-1:=by unfold eK;rw [aL h]
  rw [h2] at b;cases b
 refine SR 2 [2] Z<|S3 U2<|⟨?_,Z⟩;rw [show z=0 by omega];rfl
theorem GU:∀ {s t:Str},(∀ c∈s,eP c=true)->(∀ c∈t,eP c=true)->s.length=t.length->Lib.compareBytes s t=jB (bW s) (bW t)
 | [],[],_,_,_=>rfl
 | [],_::_,_,_,h=>by simp at h
 | _::_,[],_,_,h=>by simp at h
 | c::s,d::t,hs,g,k=>by
  have e:s.length=t.length:=by simpa using k
  have i:∀ x∈s,eP x=true:=fun x f=>hs x (by simp [f]);have j:∀ x∈t,eP x=true:=fun x f=>g x (by simp [f]);have l:=GU i j e;have h1:=dP i;have h2:=dP j;have m:=hs c am;have n:=g d am;simp only [eP,Pp] at m n;rw [dG,dG,e];rw [e] at h1;simp only [Lib.compareBytes];obtain ⟨p,o⟩:∃ p,10 ^ t.length=p:=⟨_,rfl⟩;rw [o] at h1 h2 ⊢;by_cases a:c<d
  ·rw [aL a];have r:c.toNat<d.toNat:=a;have h3:(c.toNat-48+1)*p<=(d.toNat-48)*p:=P7 _ om_;rw [QX] at h3;unfold jB;rw [aL om_]
  rw [aF a];by_cases b:d<c
  ·rw [aL b];have u:d.toNat<c.toNat:=b;have h3:(d.toNat-48+1)*p<=(c.toNat-48)*p:=P7 _ om_;rw [QX] at h3;unfold jB;rw [aF om_,aL om_]
  rw [aF b,l];have q:c.toNat=d.toNat:=by
   have h3:¬ c.toNat<d.toNat:=a;have h4:¬ d.toNat<c.toNat:=b;omega
  rw [q];unfold jB;split <;> rename_i h5
  ·rw [aL om_]
  split <;> rename_i v
  ·rw [aF om_,aL om_]
  rw [aF om_,aF om_]
theorem pY {a b:Nat}(h:(bj a).length<(bj b).length):a<b:=by
 obtain ⟨h1,h2⟩:=bB a;obtain ⟨h3,h4⟩:=bB b;have c:=P4.2 h1.2.1;have h5:=dP h1.1;have d:=nX h3 om_;have e:10 ^ (bj a).length<=10 ^ ((bj b).length-1):=PK dc_ om_;omega
theorem MJ {a b:Nat}(h:(bj a).length=(bj b).length):Lib.compareBytes (bj a) (bj b)=jB a b:=by
 obtain ⟨h1,h2⟩:=bB a;obtain ⟨h3,h4⟩:=bB b;rw [GU h1.1 h3.1 h,h2,h4]
def uW (z w:Int):Int:=if z<w then -1 else if w<z then 1 else 0
theorem eh (z:Int):(z<0/\eK z=-1)∨(z=0/\eK z=0)∨(0<z/\eK z=1):=by
 unfold eK;split
 ·exact .inl ⟨by assumption,Z⟩
 split
 ·exact .inr (.inl ⟨by assumption,Z⟩)
 exact .inr (.inr ⟨by omega,Z⟩)
theorem yU (h:eK z=eK w):uW z w=eK z*jB z.natAbs w.natAbs:=by
 have a:=eh w;rw [<- h] at a;unfold uW jB;rcases eh z with ⟨h1,h2⟩ | ⟨h1,h2⟩ | ⟨h1,h2⟩ <;> rw [h2] at a ⊢
 ·have h3:w<0:=by omega
  split <;> split <;> (try split) <;> omega
 ·have h3:w=0:=by omega
  subst h1 h3;simp
 have h3:0<w:=by omega
 split <;> split <;> (try split) <;> omega
theorem H5 (z:Int):IntKind.i64.wrap (-(eK z))=-(eK z):=by
 rcases eh z with ⟨h1,h2⟩ | ⟨h1,h2⟩ | ⟨h1,h2⟩ <;> rw [h2] <;> rfl
theorem Eg (C:Mem)(a b:Str):Gives cx.P 226 [af a,af b] C (.int .i64 (Lib.compareBytes a b)):=yd Tryz.scmp a b C kr_
theorem pJ (C:Mem)(z w:Int)(_m:(bj z.natAbs).length<=1000000)(_n:(bj w.natAbs).length<=1000000):Gives cx.P 161 [af (txt z),af (txt w)] C (.int .i64 (uW z w)):=by
 have ez:(cK 45 (txt z)).1=bj z.natAbs:=by rw [dF]
 have j:(cK 45 (txt w)).1=bj w.natAbs:=by rw [dF]
 refine S4 func161 41 U3 fun w0=>SR 1 [0,1] Z<|SS 1 Z fun R b=>S8 (lJ _ z) U7<|SV U6<|S8 (lJ _ w) U7<|C6 2 [0,1,5,6] b Z<|SR 3 [0,1,5,6,15] Z<|G.cd (fun c=>?_) fun c=>?_
 ·have k:eK z≠eK w:=by simpa using c
  refine SR 3 [18] Z<|G.cd (fun d=>?_) fun d=>?_
  ·have a:eK z<eK w:=by simpa using d
   refine SR 1 [4] Z<|S3 U2<|⟨?_,Z⟩;rw [uW,aL (by unfold eK at a;split at a <;> split at a <;> (try split at a) <;> omega)]
  have a:¬ eK z<eK w:=by simpa using d
  refine SR 1 [4] Z<|S3 U2<|⟨?_,Z⟩;have h:w<z:=by
   have h2:eK w<eK z:=by omega
   unfold eK at h2;split at h2 <;> split at h2 <;> (try split at h2) <;> omega
  rw [uW,aF om_,aL h]
 have f:eK z=eK w:=by simpa using c
 refine SS 1 Z fun R b=>S8 (zL _ (txt z) 45) U7<|SV U6<|S8 (zL _ (txt w) 45) U7 ?_;rw [ez,j];refine C6 2 [5,7,8] b Z<|SR 5 [5,7,8,27] Z<|G.cd (fun g=>?_) fun g=>?_
 ·have k:(bj z.natAbs).length≠(bj w.natAbs).length:=fun e=>by
   have h:(((bj z.natAbs).length:Nat):Int)≠(((bj w.natAbs).length:Nat):Int):=by simpa using g
   exact h (by rw [e])
  refine SR 5 [5,32] Z<|G.cd (fun i=>?_) fun i=>?_
  ·have a:z.natAbs<w.natAbs:=pY (by
    have h:(((bj z.natAbs).length:Nat):Int)<(((bj w.natAbs).length:Nat):Int):=by simpa using i
    omega)
   refine SR 3 [4] Z<|S3 U2<|⟨?_,Z⟩;rw [Int.zero_sub,H5,yU f,show jB z.natAbs w.natAbs=-1 from aL a];congr 1;omega
  have a:w.natAbs<z.natAbs:=pY (by
   have h:¬ (((bj z.natAbs).length:Nat):Int)<(((bj w.natAbs).length:Nat):Int):=by simpa using i
   omega)
  refine SR 2 [4] Z<|S3 U2<|⟨?_,Z⟩;rw [yU f,show jB z.natAbs w.natAbs=1 from by unfold jB;rw [aF om_,aL a]];congr 1;omega
 have l:(bj z.natAbs).length=(bj w.natAbs).length:=by
  have h:(((bj z.natAbs).length:Nat):Int)=(((bj w.natAbs).length:Nat):Int):=by simpa using g
  omega
 refine SS 3 Z fun R b=>S8 (Eg _ (bj z.natAbs) (bj w.natAbs)) U7 ?_;rw [MJ l];refine Ts ((uW z w)) U4 (by rw [yU f]) (by unfold uW;split <;> (try split) <;> omega) (by unfold uW;split <;> (try split) <;> omega) U2 ?_
 exact C6 1 [4] b Z<|S3 U2<|⟨Z,Z⟩
def nV (b:Bool):Int:=if b then 0 else 2
theorem wG (C:Mem)(s:Str):Gives cx.P 160 [af s] C (.int .i64 (nV (cI s))):=by
 obtain ⟨t,neg,p⟩:∃ t b,cK 45 s=(t,b):=⟨_,_,rfl⟩;have g:cI s=(t.all eP && !(t == []) && !(t.head? == some 48 && (neg || decide (1<t.length))) && decide (t.length<=200)):=by unfold cI xm;rw [p]
 refine S4 func160 47 U3 fun w0=>SR 1 [0] Z<|SS 1 Z fun R a=>Tb (by have h:=GO C s 45;rw [p] at h;exact h) U7 fl_<|C6 5 [3,4] a Z<|SS 6 Z fun R a=>Tt U8<|SZ 2 Z<|TJ (b:=t.headD 0) U8 (fun r=>⟨by omega,(by
  cases t with
  | nil=>exact Bool.noConfusion (show true=false from r.1)
  | cons b t=>rfl)⟩) U2 ?_
 refine SZ 7 Z<|Tt U8<|Tl U8<|Tt U8<|SY [3,30] a Z<|G.cd (fun d=>?_) fun d=>?_
 ·have j:cI s=false:=by
   rw [g];cases t with
   | nil=>simp
   | cons b t =>
    simp at d;rcases d with h | ⟨h,h2⟩
    ·simp;intro _ _;omega
    have e:b=48:=Sw.1 (by show b.toNat=48;omega);subst e;have u:(neg || decide (1<((48:UInt8)::t).length))=true:=by
     rcases h2 with h2 | h2
     ·rw [PG ap];simp
     rw [h2];rfl
    rw [u];simp
  exact SR 1 [2] Z<|S3 U2<|⟨by rw [j];rfl,Z⟩
 have v:t.length<=200:=by
  simp at d;omega
 refine SR 3 [3,32,33] Z<|G.loop (fun fr E w y=>∃ (i:Nat),(i<=t.length/\∀ c∈t.take i,eP c=true)/\fr=[(3,[],af t),(32,[],.int .i64 t.length),(33,[],.int .i64 i)]/\w=[]/\y=t.length-i) (hn_ [3,32,33] Z) ⟨0,⟨Pm _,by simp⟩,Z,Z,Z⟩ (fun fr F H m _ z=>?_);obtain ⟨i,⟨I,k⟩,rfl,rfl,rfl⟩:=z;refine SR 1 [3,32,33,34] Z<|G.cd (fun l=>?_) fun l=>?_
 ·have n:i<t.length:=by simpa using l
  obtain ⟨c,f⟩:∃ c,t[i]?=some c:=⟨t[i],ak n⟩;refine SR 2 [3,5,32,33] Z<|SS 2 Z fun R a=>TJ U8 (fun _=>⟨by omega,f⟩) U2<|SZ 4 Z<|TJ U8 (fun _=>⟨by omega,f⟩) U2<|SV U6<|Tt U8<|SY [3,32,33,45] a Z<|G.cd (fun o=>?_) fun o=>?_
  ·have j:cI s=false:=by
    have h1:t.all eP=false:=by
     rw [RK];refine ⟨c,Pe f, ?_⟩;simp at o;unfold eP;simp;omega
    rw [g,h1];rfl
   exact SR 1 [2] Z<|S3 U2<|⟨by rw [j];rfl,Z⟩
  have A:eP c=true:=by
   simp at o;unfold eP;simp;omega
  refine SX fun R a=>S2 _ Z U6<|C6 1 [3,32,33] a Z<|S6 (m':=t.length-(i+1)) om_ mup (hn_ [3,32,33] Z) ⟨i+1,⟨by omega,fun x q=>by
   rw [PN,f] at q;rcases Px.1 q with h | h
   ·exact k x h
   simp at h;subst h;exact A⟩,rfl,rfl,rfl⟩
 have n:t.length<=i:=by
  have:¬ i<t.length:=by simpa using l
  omega
 rw [PZ n] at k;have B:t.all eP=true:=PD.2 k;have D:cI s=true:=by
  rw [g,B,PG v];cases t with
  | nil=>simp at d
  | cons b t =>
   simp at d;simp;by_cases e:b=48
   ·subst e;have h5:=d.2;simp at h5;exact .inr ⟨h5.2,P2 om_⟩
   exact .inl e
 exact SR 1 [2] Z<|S3 U2<|⟨by rw [D];rfl,Z⟩
end Go.Proofs.YtfjcldheldflbaaGreatDoor
