/- Laws that the proofs of this seat share, part 6. -/
import Derived.Test.YtfjcldheldflbaaGreatDoorG5
import Derived.Test.YtfjcldheldflbaaGreatDoorShelf
set_option maxHeartbeats 4000000
namespace Go.Proofs.YtfjcldheldflbaaGreatDoor
open Go.Proofs.Tryz
open Go Go.Jog
set_option maxRecDepth 100000
variable {Q:Nat}{a b:List Nat}{i j k:Nat}{l:List Nat}{m n:Nat}{o p:List Int}{q:List Nat}{s:Str}{t:Nat}{w:Int}{x:Nat}{z:Int}
def gI (p:List Int)(i:Nat):Int:=p.getD i 0
theorem Hg (h:k<p.length):(p.map oy)[k]?=some (oy (gI p k))/\p[k]?=some (gI p k):=by
 have e:p[k]?=some (gI p k):=by
  unfold gI;rw [am,aj h];rfl
 exact ⟨by rw [QD,e];rfl,e⟩
theorem sL (h:p.length<=k):gI p k=0:=by
 unfold gI;rw [am,QJ h];rfl
theorem Mh (p:List Int)(k:Nat):iR (p.take (k+1))=iR (p.take k)+(10000:Int) ^ k*gI p k:=by
 rcases Q1 k p.length with h | h
 ·exact E2 (Hg h).2
 rw [sL h,Rf h,Rf om_];simp
theorem FR (o:Int):(o-o % 10000).tdiv 10000=(o-o % 10000) / 10000:=Int.tdiv_eq_ediv_of_dvd (Int.dvd_of_emod_eq_zero om_)
theorem CN (C:Mem)(v:Value)(p:List Int)(g:Sl C 1 v (p.map oy))(H:0<=iR p)(I:∀ x∈p, -1000000000000<=x/\x<=1000000000000)(O:p.length<=100000):Pur cx.P 235 [v] C fun u D=>PieC D u (iR p).toNat:=by
 obtain ⟨k,c0,rfl,_⟩:=id g;simp only [ar] at g ⊢;refine Ur func235 43 U3 fun w0=>Uh 1 [0] Z<|Uh 1 [0,3] Z<|Uh 1 [0,3,4] Z<|Uh 1 [0,3,4,5] Z<|G.nilArr 3 1<|G.loop (fun fr B b c=>∃ (i:Nat)(o:Int)(out:List Nat)(w:Value),(out.length=i/\DigP out/\-1000000000000<=o/\o<=1000000000000/\iR (p.take i)=(bx out:Nat)+(10000:Int) ^ i*o/\(p.length<=i->(i:Int)+o<=1000000100000))/\fr=[(0,[],.slice k p.length c0),(3,[],w),(4,[],.int .i64 o),(5,[],.int .i64 i)]/\b=[.arr w 3 1 i (out.map aT).flatten]/\c=(p.length-i)*4611686018427387904+o.natAbs) (hn_ [0,3,4,5] Z) ⟨0,0,[],_,⟨Z,(fun x J=>(by cases J)),by omega,by omega,by simp [iR,bx],fun h=>by omega⟩,Z,Z,Z⟩ (fun fr Q S m _ d=>?_);obtain ⟨i,o,out,w,⟨e,l,T,U,n,E⟩,rfl,rfl,rfl⟩:=d;have q:p.length<=i->0<=o:=fun h=>by
  refine JH e l (V:=iR p) H ?_;rw [<- n,Rf h]
 have W:(i:Int)<=1000000100000:=by
  rcases Q1 i p.length with h | h
  ·omega
  have:=q h;have:=E h;omega
 refine Ui 7 Z fun R a=>UN U8<|Un [0,3,4,5,14] a Z<|G.cd (fun r=>?_) fun r=>?_
 ·have s:i<p.length∨o≠0:=by
   simp at r;omega
  have X:-1000000000000<=gI p i/\gI p i<=1000000000000:=by
   rcases Q1 i p.length with h | h
   ·exact I _ (aX (Hg h).2)
   rw [sL h];omega
  refine Uh 4 [0,3,4,5,20] Z<|G.cut (fun fr B b c=>(True)/\fr=[(0,[],.slice k p.length c0),(3,[],w),(4,[],.int .i64 (o+gI p i)),(5,[],.int .i64 i)]/\b=[.arr w 3 1 i (out.map aT).flatten]) ?_ (fun fr _ Y c _ d=>?_)
  ·refine G.cd (fun t=>?_) fun t=>?_
   ·have f:i<p.length:=by simpa using t
    refine Ui 3 Z fun R a=>Uy g.m_ U10 om_ (Hg f).1 fl_ fun aa K=>Uj K U8<|Uq _ Z U6<|C6 1 [0,3,4,5] a Z<|Ux 0 (Mem.le.refl _) (hn_ [0,3,4,5] Z) ⟨trivial,Z,Z⟩
   have f:p.length<=i:=by
    have:¬ i<p.length:=by simpa using t
    omega
   rw [show o=o+gI p i by rw [sL f,Int.add_zero]];refine Ux 0 (Mem.le.refl _) (hn_ [0,3,4,5] Z) ⟨trivial,by rw [sL f];simp,Z⟩
  obtain ⟨_,rfl,rfl⟩:=d;refine Ui 1 Z fun R a=>WG (Int.tmod (o+gI p i) 10000) Z Z Z Z Z Z om_ Z Z Z<|C6 1 [0,3,4,5,6] a Z ?_;have y:=Jn (o+gI p i);have ab:-10000<=Int.tmod (o+gI p i) 10000/\Int.tmod (o+gI p i) 10000<10000:=by
   have:=T1 (o+gI p i) (show (10000:Int)≠0 by decide);have:=Int.emod_lt_of_pos (o+gI p i) (show (0:Int)<10000 by decide);split at y <;> omega
  refine Uh 2 [0,3,4,5,6,30] Z<|G.cut (fun fr B b c=>(True)/\fr=[(0,[],.slice k p.length c0),(3,[],w),(4,[],.int .i64 (o+gI p i)),(5,[],.int .i64 i),(6,[],.int .i64 (((o+gI p i) % 10000).toNat:Nat))]/\b=[.arr w 3 1 i (out.map aT).flatten]) ?_ (fun fr _ ac c _ d=>?_)
  ·refine G.cd (fun z=>?_) fun z=>?_
   ·have A:Int.tmod (o+gI p i) 10000<0:=by simpa using z
    rw [aJ A] at y;refine Ui 1 Z fun R a=>UQ (((((o+gI p i) % 10000).toNat:Nat):Int)) U4 om_ om_ om_ U2<|C6 1 [0,3,4,5,6] a Z<|Ux 0 (Mem.le.refl _) (hn_ [0,3,4,5,6] Z) ⟨trivial,Z,Z⟩
   have A:¬ Int.tmod (o+gI p i) 10000<0:=by simpa using z
   rw [aF A] at y;rw [show Int.tmod (o+gI p i) 10000=((((o+gI p i) % 10000).toNat:Nat):Int) by omega];refine Ux 0 (Mem.le.refl _) (hn_ [0,3,4,5,6] Z) ⟨trivial,Z,Z⟩
  obtain ⟨_,rfl,rfl⟩:=d;refine Ui 2 Z fun R a=>UF [aT (((o+gI p i) % 10000).toNat)] U12 fun ad _ _ L=>D.append (j:=0) U11 L Z ax (by show (i+1)*8<=_;omega) fl_ fun F=>C6 1 [0,3,4,5,6] a Z<|Ui 2 Z fun R a=>UQ ((o+gI p i-(o+gI p i) % 10000)) U4 om_ om_ om_ U2<|Vs ((o+gI p i-(o+gI p i) % 10000) / 10000) U6 om_ (FR _) (by rw [IntKind.wrap_i64];omega) U2<|C6 1 [0,3,4,5] a Z<|Ui 1 Z fun R a=>Uq _ Z U6<|C6 1 [0,3,4,5] a Z ?_;have hm:(p.length-(i+1))*4611686018427387904+((o+gI p i-(o+gI p i) % 10000) / 10000).natAbs<(p.length-i)*4611686018427387904+o.natAbs:=by
   rcases Q1 i p.length with h2 | h2
   ·omega
   have h3:=q h2;rw [sL h2];omega
  refine Uz (L':=[.arr F 3 1 (i+1) ((out++[((o+gI p i) % 10000).toNat]).map aT).flatten]) (by simp [aT])<|Uw (m':=(p.length-(i+1))*4611686018427387904+((o+gI p i-(o+gI p i) % 10000) / 10000).natAbs) om_ mup (hn_ [0,3,4,5] Z) ⟨i+1,(o+gI p i-(o+gI p i) % 10000) / 10000,out++[((o+gI p i) % 10000).toNat],F,⟨by simp [e],l.snoc (by show ((o+gI p i) % 10000).toNat<10000;omega),by omega,by omega,by
   refine HX e ?_;rw [Mh,n,TQ];omega,fun h=>by
   rcases Q1 i p.length with h2 | h2
   ·omega
   have h3:=q h2;have h4:=E h2;rw [sL h2] at *;omega⟩,rfl,rfl,rfl⟩
 have s:p.length<=i/\o=0:=by
  simp at r;omega
 refine UI [(1,3)] Z fun R a=>Uk U6<|D.call (vk _ _ out e) Z (.inr dc_) U6 (QI _) fl_ (fun ae _ af _ M=>?_);obtain ⟨rfl,N⟩:=M;refine C6 1 [2] a Z<|Up U2<|⟨Z,yg out,mG l, ?_,N⟩;rw [Rf s.1,s.2] at n;rw [iB];omega
theorem AU:∀ (l:List Int)(i:Nat)(x:Int),i<l.length->iR (l.set i x)=iR l+(10000:Int) ^ i*(x-gI l i)
 | [],i,x,h=>by simp at h
 | a::l,0,x,_=>by
  show x+10000*iR l=a+10000*iR l+1*(x-a);omega
 | a::l,i+1,x,h=>by
  have b:=AU l i x (by simpa using h);show a+10000*iR (l.set i x)=a+10000*iR l+(10000:Int) ^ (i+1)*(x-gI l i);rw [b,TQ,<- Int.mul_assoc,Int.pow_succ,Int.mul_comm ((10000:Int) ^ i) 10000];omega
theorem E1 (l:List Int):iR (l++[0])=iR l:=by rw [vX];omega
structure Joins (p q:List Nat)(k:Int)(i:Nat)(o:List Int):Prop where
 len:o.length=max p.length i
 val:iR o=(bx p:Nat)+k*(bx (q.take i):Nat)
 rest:∀ j,i<=j->gI o j=(gP p j:Nat)
 lim:∀ x∈o, -100000000<=x/\x<=100000000
theorem Ps (p:List Nat)(j:Nat):gI (p.map fun x:Nat=>(x:Int)) j=(gP p j:Nat):=by
 unfold gI gP;rw [am,am,QD];cases p[j]? <;> rfl
theorem zt (p q:List Nat)(k:Int)(a:DigP p):Joins p q k 0 (p.map fun x:Nat=>(x:Int)):=by
 refine ⟨by simp,by rw [oc];simp [bx],fun j _=>Ps p j,fun x b=>?_⟩;obtain ⟨y,hy,rfl⟩:=QE.1 b;have:y<10000:=a y hy;omega
theorem Joins.zero {p:List Nat}{k:Int}(h:Joins p q k i o)(c:o.length<=i):iR (o++[0])=(bx p:Nat)+k*(bx (q.take i):Nat)/\(∀ j,i<=j->gI (o++[0]) j=(gP p j:Nat))/\(∀ x∈o++[0], -100000000<=x/\x<=100000000):=by
 refine ⟨by rw [E1,h.val],fun j a=>?_,fun x b=>?_⟩
 ·have h1:=h.rest j a;have h2:gI o j=0:=by unfold gI;rw [am,QJ om_];rfl
  rw [<- h1,h2];unfold gI;rw [am,Q3 om_];cases j-o.length <;> rfl
 rcases QS.1 b with h1 | h1
 ·exact h.lim x h1
 simp at h1;subst h1;omega
theorem Hf {x:Int}(h:i≠j):gI (o.set i x) j=gI o j:=by
 unfold gI;rw [am,am,TC h]
theorem DX {p:List Nat}{k:Int}{y:Nat}(d:DigP p)(f:DigP q)(a:-9999<=k/\k<=9999)(b:q[i]?=some y)(g:o.length=max p.length (i+1))
  (h:iR o=(bx p:Nat)+k*(bx (q.take i):Nat)) (c:∀ j,i<=j->gI o j=(gP p j:Nat)) (l:∀ x∈o, -100000000<=x/\x<=100000000) :
  Joins p q k (i+1) (o.set i (gI o i+k*(y:Nat))):=by
 have n:y<10000:=f y (aX b);have r:gP p i<10000:=He d i;have s:-99980001<=k*(y:Int)/\k*(y:Int)<=99980001:=by
  have h0:(0:Int)<=y:=by omega
  have h1:k*(y:Int)<=9999*(y:Int):=SY a.2 h0;have h2:(-9999:Int)*(y:Int)<=k*(y:Int):=SY a.1 h0;omega
 refine ⟨by rw [Ru];exact g, ?_,fun j t=>?_,fun x m=>?_⟩
 ·rw [AU o i _ om_,h,gu b];have e:((bx (q.take i)+BP ^ i*y:Nat):Int)=(bx (q.take i):Nat)+(10000:Int) ^ i*(y:Int):=by
   rw [Tg,Ra,Int.natCast_pow];rfl
  rw [e,TQ,show gI o i+k*(y:Int)-gI o i=k*(y:Int) by omega,Int.mul_left_comm];omega
 ·rw [Hf om_];exact c j om_
 rcases RS m with h1 | h1
 ·exact l x h1
 subst h1;rw [c i (Qz _)];omega
theorem Co (h:k<p.length):p[k]?=some (gI p k):=by
 unfold gI;rw [am,aj h];rfl
theorem kc (h:AE l)(a:bx l<BP ^ m):l.length<=m:=by
 apply Q5;intro b;have h1:=vz h om_;have h2:BP ^ m<=BP ^ (l.length-1):=QZ dc_ om_;omega
theorem vc (x:Int):(oy x).length=1:=rfl
theorem ek (x:Nat):(aT x).length=1:=rfl
theorem HY (C:Mem)(v:Value)(p:List Int)(b:p.length=n)(c:0<=iR p)(d:∀ x∈p, -1000000000000<=x/\x<=1000000000000)(e:p.length<=100000):Jog.Fn cx.P 235 [v] C [.arr v 3 1 n (p.map oy).flatten] fun u a f=>f=[]/\PieC a u (iR p).toNat :=
 Jog.Fn.give (p.map oy) kr_ (by intro r hr;obtain ⟨y,_,rfl⟩:=QE.1 hr;rfl) (by rw [ar,b]) (fun a _ hs=>CN a v p hs c d e)
theorem jo (C:Mem)(J K:Value)(p q:List Nat)(k:Int)(W:Sl C 1 J (p.map aT))(f:Sl C 1 K (q.map aT))(L:DigP p)(M:DigP q)(g:-9999<=k/\k<=9999)(X:0<=(bx p:Int)+k*(bx q:Int))(ap:p.length<=50000)(aq:q.length<=50000) :
  Pur cx.P 175 [J,K,.int .i64 k,.int .i64 0] C fun u D=>PieC D u ((bx p:Int)+k*(bx q:Int)).toNat:=by
 obtain ⟨N,c0,rfl,_⟩:=id f;simp only [ar] at f ⊢;refine Ur func175 45 U3 fun w0=>Uh 1 [0,1,2,3] Z<|Ul fun R b=>Vq [] U12 fl_ fun au=>Uk U6<|D.append (j:=0) U11 W (by rw [QX];intro r hr;obtain ⟨y,_,rfl⟩:=QE.1 hr;rfl) (by rw [ar];simp only [Re,maxLen];omega) (by rw [ar];show (0+p.length)*8<=_;omega) fl_ fun Y=>C6 1 [1,2,3,9] b Z<|Uh 1 [1,2,3,9,10] Z<|Uz (L':=[.arr Y 3 1 (p.map fun x:Nat=>(x:Int)).length (((p.map fun x:Nat=>(x:Int)).map oy).flatten)]) (by rw [RC];simp;rfl)<|G.loop (fun fr C' d n=>∃ (i:Nat)(o:List Int)(w:Value),(i<=q.length/\Joins p q k i o)/\fr=[(1,[],.slice N q.length c0),(2,[],.int .i64 k),(3,[],.int .i64 0),(9,[],w),(10,[],.int .i64 i)]/\d=[.arr w 3 1 o.length (o.map oy).flatten]/\n=q.length-i) (hn_ [1,2,3,9,10] Z) ⟨0,_,_,⟨QH _,zt p q k L⟩,Z,Z,Z⟩ (fun fr av aw m _ z=>?_);obtain ⟨i,o,w,⟨hi,c⟩,rfl,rfl,rfl⟩:=z;refine Uh 4 [1,2,3,9,10,17] Z<|G.cd (fun A=>?_) fun A=>?_
 ·have B:i<q.length:=by simpa using A
  have ay:=c.len;refine G.loop (fun fr C' d n=>∃ (a:List Int)(E:Value),((a=o∨(a=o++[0]/\o.length<=i)))/\fr=[(1,[],.slice N q.length c0),(2,[],.int .i64 k),(3,[],.int .i64 0),(9,[],E),(10,[],.int .i64 i)]/\d=[.arr E 3 1 a.length (a.map oy).flatten]/\n=i+1-a.length) (hn_ [1,2,3,9,10] Z) ⟨o,w,.inl Z,Z,Z,Z⟩ (fun fr az aA m _ z=>?_);obtain ⟨a,E,F,rfl,rfl,rfl⟩:=z;refine WO 0 Z (fun Aw O he=>?_);subst he;have aB:a.length<=50002:=by
   have h1:a.length<=o.length+1:=by
    have h2:=F.imp (fun e=>congrArg List.length e) (fun e=>congrArg List.length e.1);rw [QG,QA] at h2;omega
   omega
  refine Ui 4 Z fun R b=>UQ (((i:Nat):Int)) U4 om_ om_ om_ U2<|C6 1 [1,2,3,9,10,25] b Z<|G.cd (fun H=>?_) fun H=>?_
  ·have Q:a.length<=i:=by
    have:(a.length:Int)<=i:=by simpa using H
    omega
   have aa:a=o:=by
    refine F.elim id fun h=>?_;have:=h.1 ▸ Q;rw [QG,QA] at this;omega
   subst aa;refine Ui 1 Z fun R b=>UF [oy 0] U12 fun aC _ _ ab=>D.append (j:=0) U11 ab Z ax (by show (a.length+1)*8<=_;omega) fl_ fun S=>C6 1 [1,2,3,9,10] b Z<|Uz (L':=[.arr S 3 1 (a++[0]).length ((a++[0]).map oy).flatten]) (by simp [oy]) ?_;have aD:i+1-(a++[0]).length<i+1-a.length:=by rw [QG,QA];omega
   refine Uw (m':=i+1-(a++[0]).length) om_ mup (hn_ [1,2,3,9,10] Z) ⟨a++[0],S,.inr ⟨Z,Q⟩,Z,Z,Z⟩
  have I:i<a.length:=by
   have:¬ (a.length:Int)<=i:=by simpa using H
   omega
  have ac:a.length=max p.length (i+1)/\iR a=(bx p:Nat)+k*(bx (q.take i):Nat)/\(∀ j,i<=j->gI a j=(gP p j:Nat))/\(∀ x∈a, -100000000<=x/\x<=100000000):=by
   refine F.elim (fun h=>?_) fun h=>?_
   ·subst h;exact ⟨by omega,c.val,c.rest,c.lim⟩
   obtain ⟨h1,h2⟩:=h;subst h1;have h3:=c.zero h2;exact ⟨by rw [QG,QA];omega,h3⟩
  obtain ⟨ad,ae,af,T⟩:=ac;obtain ⟨ah,aj⟩:=iM (l:=q) (k:=i) B;have aE:gP q i<10000:=He M i;have aF:-99980001<=k*((gP q i:Nat):Int)/\k*((gP q i:Nat):Int)<=99980001:=by
   have h0:(0:Int)<=((gP q i:Nat):Int):=by omega
   have h1:k*((gP q i:Nat):Int)<=9999*((gP q i:Nat):Int):=SY g.2 h0;have h2:(-9999:Int)*((gP q i:Nat):Int)<=k*((gP q i:Nat):Int):=SY g.1 h0;omega
  have aG:=T _ (aX (Co I));refine Wn 0 (m:=a.length-1) (v:=.slice Aw a.length O) (t:=3) (s:=1) (xs:=(a.map oy).flatten) (by rw [show a.length-1+1=a.length by omega];rfl) (fun g0 cc ak=>?_);injection ak with al aH am;subst al am;refine UD [0,1,2,3,4,5,6,7,8,9,10,11,12,13,14] [] Z kr_ fun R hB b=>Um 3 Z<|UQ (((i:Nat):Int)) U4 om_ om_ om_ U2<|UL (i*1) U10 ai U2<|U1 ag U6 (fun _=>(by rw [eg vc (Co I)];rfl)) U2<|Um 3 Z<|Uy f.m_ U10 om_ ah fl_ fun aI an=>Uj an U8<|Uq _ Z U6<|Uq _ Z U6<|UL (i*1) U10 ai U2<|UO (j:=0) U11 (by show i*1+1<=_;rw [bR vc];omega)<|Un [1,2,3,9,10] b Z<|Ui 1 Z fun R b=>Uq _ Z U6<|C6 1 [1,2,3,9,10] b Z<|Uz (L':=[.arr (.slice (some ⟨g0,0,none⟩) a.length O) 3 1 (a.set i (gI a i+k*((gP q i:Nat):Int))).length ((a.set i (gI a i+k*((gP q i:Nat):Int))).map oy).flatten]) (by rw [<- bK vc _ I,Ru];rfl)<|Uw (m':=q.length-(i+1)) om_ mup (hn_ [1,2,3,9,10] Z) ⟨i+1,_,_,⟨by omega,DX L M g aj ad ae af T⟩,Z,Z,Z⟩
 have B:i=q.length:=by
  have:¬ i<q.length:=by simpa using A
  omega
 have U:iR o=(bx p:Int)+k*(bx q:Int):=by rw [c.val,B,QM]
 refine UI [(1,3)] Z fun R b=>Uk U6<|D.call (HY _ _ o Z (by rw [U];exact X) (fun x hx=>by have:=c.lim x hx;omega) (by have:=c.len;omega)) Z (.inr dc_) U6 (QI _) fl_ (fun aJ _ aK _ ao=>?_);obtain ⟨rfl,V⟩:=ao;refine C6 1 [8] b Z<|Up U2 ?_;rw [U] at V;exact ⟨Z,V⟩
theorem K3 (n:Nat):kG ([.int .i64 0]:List Value) n=((List.replicate n 0).map aT).flatten:=by
 rw [fa,Ta];rfl
theorem vW (h:j<l.length):bx (l.drop j)=gP l j+BP*bx (l.drop (j+1)):=by
 rw [Q0 h,(aL.1 (iM h).2).2];rfl
theorem tS (h:j<l.length):bx ((l.set j x).drop j)=x+BP*bx (l.drop (j+1)):=by
 rw [vW (by rw [Ru];exact h),List.drop_set_of_lt om_];congr 1;unfold gP;rw [am,Tv h];rfl
theorem Kv (h:DigP l)(a:x<BP):DigP (l.set j x):=fun y hy=>by
 rcases RS hy with h1 | h1
 ·exact h y h1
 rw [h1];exact a
theorem BS (C:Mem)(O Q:Value)(p q:List Nat)(v:Sl C 1 O (p.map aT))(g:Sl C 1 Q (q.map aT))(aj:DigP p)(w:AE q)(i:0<bx q)(aH:p.length<=10000)(aI:q.length<=10000) :
  Pur cx.P 230 [O,Q] C fun u D=>∃ u1 S,u=.tuple #[u1,S]/\PieC D u1 (bx p / bx q)/\PieC D S (bx p % bx q):=by
 obtain ⟨T,c0,rfl,_⟩:=id v;obtain ⟨U,V,rfl,_⟩:=id g;simp only [ar] at v g ⊢;refine Ur func230 58 U3 fun w0=>Uh 2 [0,1] Z<|Ui 2 Z fun R b=>Vl U9 (Qz _) (by show 8*p.length<=281474976710656;omega) (by simp only [maxLen];omega) fl_ fun d=>C6 1 [0,1,6] b Z<|Uh 1 [0,1,6,7] Z<|Ui 2 Z fun R b=>Uq _ Z U6<|C6 1 [0,1,6,7,8] b Z<|Uz (L':=[.arr (qW d p.length p.length) 3 1 p.length ((List.replicate p.length 0).map aT).flatten]) (by rw [<- K3];rfl)<|G.loop (fun fr W e z=>∃ (k:Nat)(o l:List Nat)(A:Value),(k<=p.length/\o.length=p.length/\DigP o/\bx (o.drop k)=bx (p.drop k) / bx q/\Sl W 1 A (l.map aT)/\AE l/\bx l=bx (p.drop k) % bx q)/\fr=[(0,[],.slice T p.length c0),(1,[],.slice U q.length V),(6,[],qW d p.length p.length),(7,[],A),(8,[],.int .i64 ((k:Int)-1))]/\e=[.arr (qW d p.length p.length) 3 1 p.length (o.map aT).flatten]/\z=k+1) (hn_ [0,1,6,7,8] Z) ⟨p.length,List.replicate p.length 0,[],.slice none 0 0,⟨Qz _,Rb,(fun x c=>by rw [Sz c];decide),by rw [RN,Tw al];simp [bx],Sl.nil _ _,⟨fun x c=>(by cases c),by simp⟩,by rw [RN];simp [bx]⟩,Z,Z,Z⟩ (fun fr aJ aK m _ B=>?_);obtain ⟨k,o,l,A,⟨hk,X,Y,aa,hs,E,F⟩,rfl,rfl,rfl⟩:=B;refine Uh 2 [0,1,6,7,8,19] Z<|G.cd (fun H=>?_) fun H=>?_
 ·have ab:0<k:=by
   have:(0:Int)<=(k:Int)-1:=by simpa using H
   omega
  obtain ⟨j,rfl⟩:∃ j,k=j+1:=⟨k-1,by omega⟩;rw [show ((j+1:Nat):Int)-1=(j:Int) by omega];obtain ⟨ak,aL⟩:=iM (l:=p) (k:=j) om_;have c:gP p j<BP:=He aj j;have aM:gP p j<10000:=c;have aN:l.length<=q.length:=kc E (by rw [F];exact SM (Rj _ i) (mS w.1));have am:DigP (gP p j::l):=fun y hy=>by
   rcases QQ.1 hy with h | h
   ·rw [h];exact c
   exact E.1 y h
  refine UI [(7,3)] Z fun R b=>Um 2 Z<|Uy v.m_ U10 om_ ak fl_ fun aO an=>Uj an U8<|Vq [aT (gP p j)] U12 fl_ fun aP=>Uk U6<|D.append (j:=0) U11 hs.m_ (by rw [QX];intro r hr;obtain ⟨y,_,rfl⟩:=QE.1 hr;rfl) (by rw [ar];simp only [QA,maxLen];omega) (by rw [ar];show (1+l.length)*8<=_;omega) fl_ fun aQ=>D.call (vk _ _ (gP p j::l) (n:=1+(l.map aT).length) (by rw [ar];simp;omega)) Z (.inr dc_) U6 (QI _) fl_ (fun ac ao aR _ ap=>?_);obtain ⟨rfl,I⟩:=ap;refine C6 1 [0,1,6,7,8] b Z ?_;obtain ⟨r,ad,J,ae,aS⟩:∃ r,AE r/\bx r=gP p j+BP*(bx (p.drop (j+1)) % bx q)/\Sl ao 1 ac (r.map aT)/\r.length<=20000:=⟨yg (gP p j::l),mG am,by rw [iB];show gP p j+BP*bx l=_;rw [F],I,by unfold yg;rw [QO,QT];omega⟩;have K:=Hw (t:=bx (p.drop (j+1))) (x:=gP p j) i;rw [<- vW om_,<- J] at K;have aq:bx r / bx q<BP:=by rw [J];exact yd i c
  have aU:bx r / bx q<10000:=aq;refine Uh 2 [0,1,6,7,8,9,10] Z<|G.loop (fun fr W e z=>∃ (low a:Nat),(low<=bx r / bx q/\bx r / bx q<=a/\a<=9999)/\fr=[(0,[],.slice T p.length c0),(1,[],.slice U q.length V),(6,[],qW d p.length p.length),(7,[],ac),(8,[],.int .i64 j),(9,[],.int .i64 low),(10,[],.int .i64 a)]/\e=[.arr (qW d p.length p.length) 3 1 p.length (o.map aT).flatten]/\z=a-low) (hn_ [0,1,6,7,8,9,10] Z) ⟨0,9999,⟨QH _,by omega,Qz _⟩,Z,Z,Z⟩ (fun fr aV aW m _ B=>?_);obtain ⟨low,a,⟨au,av,aw⟩,rfl,rfl,rfl⟩:=B;refine Uh 3 [0,1,6,7,8,9,10,32] Z<|G.cd (fun L=>?_) fun L=>?_
  ·have s:low<a:=by simpa using L
   obtain ⟨ax,ay⟩:=Ny i au av s;refine Ui 2 Z fun R b=>Uq _ Z U6<|Uq _ Z U6<|Vs ((((low+a+1) / 2:Nat):Int)) U6 om_ (by rw [Tk om_];omega) (by rw [IntKind.wrap_i64];omega) U2<|C6 1 [0,1,6,7,8,9,10,11] b Z<|Ui 3 Z fun R b=>UK (jo _ _ _ [] q ((((low+a+1) / 2:Nat):Int)) (Sl.nil _ _) g.m_ (fun x c=>(by cases c)) w.1 om_ (by rw [<- Ra];omega) al om_) U7 fl_ (fun aX _ _ az=>?_);obtain ⟨l2,aA,aB,aC⟩:=az;have af:bx l2=bx q*((low+a+1) / 2):=by
    have h0:((bx ([]:List Nat):Nat):Int)=0:=rfl;rw [aB,h0,Int.zero_add,<- Ra,Sx,Rm]
   refine Ut (BN _ _ _ r l2 ae.m_ aC.m_ ad aA) U7<|Un [0,1,6,7,8,9,10,11,42] b Z<|G.cd (fun M=>?_) fun M=>?_
   ·have N:bx r<bx q*((low+a+1) / 2):=by
     rw [<- af];simpa using M
    have f:=ax N;refine Ui 1 Z fun R b=>Uq _ Z U6<|C6 1 [0,1,6,7,8,9,10] b Z ?_;rw [show ((((low+a+1) / 2:Nat):Int))-1=(((low+a+1) / 2-1:Nat):Int) by omega];refine Uw (m':=(low+a+1) / 2-1-low) om_ mup (hn_ [0,1,6,7,8,9,10] Z) ⟨low,(low+a+1) / 2-1,⟨f.1,f.2,by omega⟩,Z,Z,Z⟩
   have N:¬ bx r<bx q*((low+a+1) / 2):=by
    rw [<- af];simpa using M
   have f:=ay N;refine Uh 2 [0,1,6,7,8,9,10] Z<|Uw (m':=a-(low+a+1) / 2) om_ mup (hn_ [0,1,6,7,8,9,10] Z) ⟨(low+a+1) / 2,a,⟨f.1,f.2,aw⟩,Z,Z,Z⟩
  have s:low=bx r / bx q:=by
   have:¬ low<a:=by simpa using L
   omega
  have ag:((bx r:Nat):Int) + -(low:Int)*((bx q:Nat):Int)=((bx r % bx q:Nat):Int):=by
   have h1:=Td (bx r) (bx q);rw [<- s] at h1;have h2:((bx q*low+bx r % bx q:Nat):Int)=(bx r:Nat):=by rw [h1]
   rw [Tg,Ra] at h2;rw [Int.neg_mul,Int.mul_comm (low:Int)];omega
  refine Ui 3 Z fun R b=>UL (j*1) U10 ai U2<|UO (j:=0) U11 (by show j*1+1<=_;rw [bR ek];omega)<|Un [0,1,6,7,8,9] b Z<|Ui 4 Z fun R b=>?_;rw [show IntKind.i64.wrap (0-(low:Int))=-(low:Int) by rw [IntKind.wrap_i64];omega];refine UK (jo _ _ _ r q (-(low:Int)) ae.m_ g.m_ ad.1 w.1 om_ (by rw [ag];omega) om_ om_) U7 fl_ (fun aY _ _ aD=>?_);obtain ⟨l3,aE,ah,aF⟩:=aD;rw [ag,Sx] at ah;refine C6 1 [0,1,6,7,8] b Z<|Ui 1 Z fun R b=>Uq _ Z U6<|C6 1 [0,1,6,7,8] b Z<|Uz (L':=[.arr (qW d p.length p.length) 3 1 p.length ((o.set j low).map aT).flatten]) (by rw [<- bK ek _ (by omega:j<o.length)];rfl)<|Uw (m':=j+1) om_ mup (hn_ [0,1,6,7,8] Z) ⟨j,o.set j low,l3,_,⟨by omega,by rw [Ru];exact X,Kv Y (by show low<BP;omega),by rw [tS om_,aa,K.1,s];omega,aF.mono mup,aE,by rw [ah,K.2,J]⟩,Z,Z,Z⟩
 have ab:k=0:=by
  have:¬ (0:Int)<=(k:Int)-1:=by simpa using H
  omega
 subst ab;refine UI [(1,3)] Z fun R b=>Uk U6<|D.call (vk _ _ o X) Z (.inr dc_) U6 (QI _) fl_ (fun aZ _ a0 _ aG=>?_);obtain ⟨rfl,I⟩:=aG;refine C6 3 [4,5] b Z<|Uv (G.dropAll (UH U3 ?_));exact ⟨Z,_,_,Z,⟨yg o,mG Y,by rw [iB,<- RR (l:=o),aa,RR],I⟩,⟨l,E,by rw [F,RR],hs.mono mup⟩⟩
theorem dJ (z:Int):cJ 45 (txt z)=(bj z.natAbs,decide (z<0)):=by
 unfold txt;split
 ·rename_i h;rw [QV h];rfl
 rename_i h;rw [Q6 h];unfold cJ;rw [aF];intro h0;have h1:=(bk z.natAbs).1.1 45 (List.mem_of_mem_head? h0);revert h1;decide
theorem AX (z:Int):txt z=[48] ↔ z=0:=by
 constructor
 ·intro h;have h1:(cJ 45 (txt z)).1=[48]:=by rw [h];rfl
  rw [dJ] at h1;have h2:=(bk z.natAbs).2;have h3:bj z.natAbs=[48]:=h1;rw [h3] at h2;have h4:bP [48]=0:=rfl;omega
 rintro rfl;unfold txt;rw [aF om_,show bj (0:Int).natAbs=bj 0 from rfl,bj];rfl
theorem lE (z:Int):((⟨(txt z).toArray⟩:ByteArray).data.toList == (⟨#[48]⟩:ByteArray).data.toList)=decide (z=0):=by
 show (txt z == [48])=_;rw [Py,Ry];exact AX z
theorem cW (n:Nat):txt (n:Int)=bj n:=by
 unfold txt;rw [aF om_];rfl
theorem dB (C:Mem)(z:Int):Gives cx.P 172 [af (txt z)] C (.tuple #[.bool (decide (z<0)),af (bj z.natAbs)]):=by
 have h:=split_fn C (txt z)
 rwa [dJ] at h
theorem HF {c:UInt8}(h:s[i]?=some c):bP (s.take (i+1))=10*bP (s.take i)+(c.toNat-48):=by
 rw [HG h];omega
theorem yf (a:∀ c∈s,eG c=true)(d:s.length<=17)(i:Nat):bP (s.take i)<100000000000000000:=by
 have h1:=dz (s:=s.take i) (fun c b=>a c (RQ b));have h2:10 ^ (s.take i).length<=10 ^ 17:=QZ dc_ (by rw [QO];omega);omega
theorem tZ (C:Mem)(z:Int)(b:(bj z.natAbs).length<=17):Gives cx.P 177 [af (txt z)] C (.tuple #[.int .i64 z,.bool true]):=by
 obtain ⟨s,k⟩:∃ s,bj z.natAbs=s:=⟨_,rfl⟩;have hs:=(bk z.natAbs).1.1;have d:=(bk z.natAbs).2;rw [k] at b hs d;refine Ur func177 45 U3 fun w0=>Uh 2 [0] Z<|Ui 1 Z fun R a=>Uu (by have h:=dB C z;rw [k] at h;exact h) U7 fl_<|C6 5 [4,5] a Z<|Uh 3 [4,5,16] Z<|G.cd (fun l=>?_) fun l=>?_
 ·exfalso;have:(s.length:Int) > 19:=by simpa using l
  omega
 refine Uh 1 [4,5,6] Z<|Uh 1 [4,5,6,7] Z<|G.loop (fun fr w p q=>∃ (i:Nat),(i<=s.length)/\fr=[(4,[],.bool (decide (z<0))),(5,[],af s),(6,[],.int .i64 (-((bP (s.take i):Nat):Int))),(7,[],.int .i64 i)]/\p=[]/\q=s.length-i) (hn_ [4,5,6,7] Z) ⟨0,QH _,Z,Z,Z⟩ (fun fr x y m _ r=>?_);obtain ⟨i,A,rfl,rfl,rfl⟩:=r;refine Uh 4 [4,5,6,7,20] Z<|G.cd (fun e=>?_) fun e=>?_
 ·have f:i<s.length:=by simpa using e
  obtain ⟨c,g⟩:∃ c,s[i]?=some c:=⟨s[i],aj f⟩;have t:=hs c (aX g);have B:48<=c.toNat/\c.toNat<=57:=by simpa [eG] using t
  have D:=yf hs b i;have u:(-9223372036854775808+(((c.toNat:Nat):Int)-48)).tdiv 10=-((9223372036854775808-(((c.toNat:Nat):Int)-48)) / 10):=by
   rw [show (-9223372036854775808+(((c.toNat:Nat):Int)-48))=-(9223372036854775808-(((c.toNat:Nat):Int)-48)) by omega,Int.neg_tdiv,Tk om_]
  refine Ui 2 Z fun R a=>UZ U8 (fun _=>⟨by omega,g⟩) U2<|UU (c:=((c.toNat:Nat):Int)) U8 (by rw [IntKind.wrap_i64];omega) fl_<|Uq _ Z U6<|C6 1 [4,5,6,7,8] a Z<|Ui 2 Z fun R a=>Uq _ Z U6<|Vs (-((9223372036854775808-(((c.toNat:Nat):Int)-48)) / 10)) U6 om_ u (by rw [IntKind.wrap_i64];omega) U2<|C6 1 [4,5,6,7,8,32] a Z<|G.cd (fun n=>?_) fun n=>?_
  ·exfalso;simp only [QK] at n;omega
  refine Ui 1 Z fun R a=>Uq _ Z U6<|Uk U6<|Uq _ Z U6<|C6 1 [4,5,6,7] a Z<|Ui 1 Z fun R a=>Uq _ Z U6<|C6 1 [4,5,6,7] a Z ?_;rw [show 10 * -((bP (s.take i):Nat):Int)-(((c.toNat:Nat):Int)-48)=-((bP (s.take (i+1)):Nat):Int) by rw [HF g];omega];refine Uw (m':=s.length-(i+1)) om_ mup (hn_ [4,5,6,7] Z) ⟨i+1,om_,Z,Z,Z⟩
 have f:i=s.length:=by
  have:¬ i<s.length:=by simpa using e
  omega
 rw [f,QM,d];refine Uh 2 [6,37] Z<|G.cd (fun j=>?_) fun j=>?_
 ·have v:z<0:=by simpa using j
  refine Uh 3 [2,3] Z<|Uv (G.dropAll (UH U3 ?_));refine ⟨?_,Z⟩;rw [show -((z.natAbs:Nat):Int)=z by omega]
 have v:¬ z<0:=by simpa using j
 have E:z.natAbs<100000000000000000:=by
  have:=yf hs b s.length
  rwa [QM,d] at this
 refine Uh 3 [6,40] Z<|G.cd (fun o=>?_) fun o=>?_
 ·exfalso;simp at o;omega
 refine Uh 4 [2,3] Z<|Uv (G.dropAll (UH U3 ?_));refine ⟨?_,Z⟩;rw [show IntKind.i64.wrap (0 - -((z.natAbs:Nat):Int))=z by rw [IntKind.wrap_i64];omega]
theorem oG (C:Mem)(z:Int):Gives cx.P 171 [af (txt z)] C (.tuple #[.int .i64 (if (bj z.natAbs).length<=17 then z else 0),.bool (decide ((bj z.natAbs).length<=17))]):=by
 refine Ur func171 18 U3 fun w0=>Uh 2 [0] Z<|Ui 1 Z fun R b=>Ut (dB C z) U7<|C6 5 [0,5] b Z<|Uh 3 [0,13] Z<|G.cd (fun c=>?_) fun c=>?_
 ·have a:¬ (bj z.natAbs).length<=17:=by
   have:((bj z.natAbs).length:Int) > 17:=by simpa using c
   omega
  refine Uh 2 [2,3] Z<|Uv (G.dropAll (UH U3 ?_));rw [aF a,Q6 a];exact ⟨Z,Z⟩
 have a:(bj z.natAbs).length<=17:=by
  have:¬ ((bj z.natAbs).length:Int) > 17:=by simpa using c
  omega
 refine Ui 1 Z fun R b=>Ut (tZ _ z a) U7<|C6 4 [2,3] b Z<|Uv (G.dropAll (UH U3 ?_));rw [aJ a,QV a];exact ⟨Z,Z⟩
theorem gE (C:Mem)(a:Tabs C)(z:Int)(b:-9223372036854775808<=z)(c:z<=9223372036854775807):Gives cx.P 106 [.int .i64 z] C (af (txt z)):=by
 exact Ur func106 5 U3 fun w0=>Uh 1 [0] Z<|Ui 1 Z fun R d=>Ut (fO _ a z b c) U7<|C6 1 [2] d Z<|Up U2<|⟨Z,Z⟩
theorem yR (C:Mem)(z:Int):Gives cx.P 165 [af (txt z)] C (.int .i64 (if z<0 then -1 else if z=0 then 0 else 1)):=by
 refine Ur func165 13 U3 fun w0=>Uh 1 [0] Z<|Ui 1 Z fun R e=>Ut (dB C z) U7<|C6 5 [0,3] e Z<|Uh 1 [0,10] Z<|G.cd (fun b=>?_) fun b=>?_
 ·have c:z<0:=by simpa using b
  refine Uh 1 [2] Z<|Up U2 ?_;rw [aJ c];exact ⟨Z,Z⟩
 have c:¬ z<0:=by simpa using b
 rw [aF c];refine Uh 2 [12] Z<|G.cd (fun a=>?_) fun a=>?_
 ·rw [lE] at a;have d:z=0:=by simpa using a
  refine Uh 1 [2] Z<|Up U2 ?_;rw [aJ d];exact ⟨Z,Z⟩
 rw [lE] at a;have d:¬ z=0:=by simpa using a
 refine Uh 1 [2] Z<|Up U2 ?_;rw [aF d];exact ⟨Z,Z⟩
theorem sq (C:Mem)(z:Int)(d:(bj z.natAbs).length<=1000000):Gives cx.P 166 [af (txt z)] C (af (txt (-z))):=by
 refine Ur func166 18 U3 fun w0=>Uh 1 [0] Z<|Ui 1 Z fun R a=>Ut (dB C z) U7<|C6 5 [0,3,4] a Z<|Ui 4 Z fun R a=>UN U8<|Un [4,14] a Z<|G.cd (fun b=>?_) fun b=>?_
 ·rw [lE] at b;have c:z<=0:=by simp at b;omega
  refine Uh 2 [2] Z<|Up U2<|⟨?_,Z⟩;rw [show txt (-z)=bj z.natAbs by rw [show -z=((z.natAbs:Nat):Int) by omega,cW]]
 rw [lE] at b;have c:0<z:=by simp at b;omega
 refine Ui 1 Z fun R a=>Vb U6 (fun _=>(by simp only [QT,Re];omega)) U2<|C6 1 [2] a Z<|Up U2<|⟨?_,Z⟩;rw [show txt (-z)=45::bj z.natAbs by unfold txt;rw [aJ om_];congr 2;omega];rfl
theorem tB (C:Mem)(z:Int):Gives cx.P 229 [af (txt z)] C (af (bj z.natAbs)):=by
 exact Ur func229 11 U3 fun w0=>Uh 1 [0] Z<|Ui 1 Z fun R a=>Ut (dB C z) U7<|C6 5 [4] a Z<|Uh 2 [2] Z<|Up U2<|⟨Z,Z⟩
theorem PR:BP ^ 200=10 ^ 800:=by decide +kernel
theorem eW (h:n<BP ^ 200):(bj n).length<=800:=dR (by rw [<- PR];exact h) om_
theorem PieC.take {D:Mem}{u:Value}(h:PieC D u n)(a:n<BP ^ 201):∃ l,AE l/\bx l=n/\l.length<=201/\Sl D 1 u (l.map aT):=by
 obtain ⟨l,h1,h2,h3⟩:=h;exact ⟨l,h1,h2,kc h1 (by rw [h2];exact a),h3⟩
theorem ga (C:Mem)(n:Nat)(h:n<BP ^ 200):Pur cx.P 173 [af (bj n)] C fun u D=>∃ l,AE l/\bx l=n/\l.length<=200/\Sl D 1 u (l.map aT) :=
 (Mm C (bj n) (bk n).1.1 (by have:=eW h;omega)).mono fun u D _ _ ⟨h0,l,h1,h2,h3⟩=>⟨h0,l,h1,by rw [h2,(bk n).2],kc h1 (by rw [h2,(bk n).2];exact h),h3⟩
theorem Oe:BP ^ 200+BP ^ 200<BP ^ 201:=by decide +kernel
theorem oF (h:(bj z.natAbs).length<=17):z.natAbs<100000000000000000:=by
 have h1:=dz (bk z.natAbs).1.1;rw [(bk z.natAbs).2] at h1;have h2:10 ^ (bj z.natAbs).length<=10 ^ 17:=QZ dc_ h;omega
theorem Fy (h:decide (z<0)=decide (w<0)):sgZ (decide (z<0)) (z.natAbs+w.natAbs)=z+w:=by
 rw [Ry] at h;unfold sgZ;by_cases a:z<0
 ·have:=h.1 a;rw [QV a,aJ rfl];omega
 have:¬ w<0:=fun h1=>a (h.2 h1);rw [Q6 a,aF al];omega
theorem My (h:decide (z<0)≠decide (w<0))(b:z.natAbs<w.natAbs):sgZ (decide (w<0)) (w.natAbs-z.natAbs)=z+w:=by
 rw [ne_eq,Ry] at h;unfold sgZ;by_cases a:w<0
 ·have:¬ z<0:=fun h1=>h ⟨fun _=>a,fun _=>h1⟩;rw [QV a,aJ rfl];omega
 have:z<0:=Q5 fun h1=>h ⟨fun h2=>absurd h2 h1,fun h2=>absurd h2 a⟩;rw [Q6 a,aF al];omega
theorem Fz (h:decide (z<0)≠decide (w<0))(b:¬ z.natAbs<w.natAbs):sgZ (decide (z<0)) (z.natAbs-w.natAbs)=z+w:=by
 rw [ne_eq,Ry] at h;unfold sgZ;by_cases a:z<0
 ·have:¬ w<0:=fun h1=>h ⟨fun _=>h1,fun _=>a⟩;rw [QV a,aJ rfl];omega
 have:w<0:=Q5 fun h1=>h ⟨fun h2=>absurd h2 a,fun h2=>absurd h2 h1⟩;rw [Q6 a,aF al];omega
theorem Ex (C:Mem)(g:Tabs C)(z w:Int)(v:z.natAbs<BP ^ 200)(x:w.natAbs<BP ^ 200):Gives cx.P 110 [af (txt z),af (txt w)] C (af (txt (z+w))):=by
 have B:=Oe;refine Ur func110 70 U3 fun w0=>Uh 1 [0,1] Z<|Ui 1 Z fun R a=>Ut (oG C z) U7<|C6 5 [0,1,5,6] a Z<|Ui 1 Z fun R a=>Ut (oG _ w) U7<|C6 5 [0,1,5,6,7,8] a Z<|Ui 3 Z fun R a=>UJ U8<|Un [0,1,5,7,28] a Z<|G.cd (fun q=>?_) fun q=>?_
 ·have h:(bj z.natAbs).length<=17/\(bj w.natAbs).length<=17:=by simpa using q
  have D:=oF h.1;have E:=oF h.2;rw [aJ h.1,aJ h.2];exact Ui 2 Z fun R a=>Uq _ Z U6<|Uu (gE _ g (z+w) om_ om_) U7 fl_<|C6 1 [4] a Z<|Up U2<|⟨Z,Z⟩
 refine Ui 1 Z fun R a=>Ut (dB _ z) U7<|C6 5 [1,9,10] a Z<|Ui 1 Z fun R a=>Ut (dB _ w) U7<|C6 5 [9,10,11,12] a Z<|Ui 1 Z fun R a=>UR (ga _ z.natAbs v) U7 (fun F _ _ y=>?_);obtain ⟨lp,i,H,I,j⟩:=y;refine Uk U6<|UR (ga _ w.natAbs x) U7 (fun J _ _ A=>?_);obtain ⟨b,k,K,L,l⟩:=A;refine C6 2 [9,11,13,14] a Z<|Uh 4 [9,11,13,14,47] Z<|G.cd (fun n=>?_) fun n=>?_
 ·have m:decide (z<0)=decide (w<0):=by simpa using n
  refine Ui 3 Z fun R a=>UK (jo _ _ _ lp b 1 j.m_ l.m_ i.1 k.1 om_ om_ om_ om_) U7 fl_ (fun M _ _ r=>?_);rw [show ((bx lp:Int)+1*(bx b:Int)).toNat=z.natAbs+w.natAbs by omega] at r;obtain ⟨c,d,e,s,f⟩:=PieC.take r om_;refine Uu (nq _ g.m_ (decide (z<0)) _ c f.m_ d.1 om_) U7 fl_<|C6 1 [4] a Z<|Up U2<|⟨?_,Z⟩;rw [e,Fy m]
 have m:decide (z<0)≠decide (w<0):=by simpa using n
 refine Ui 2 Z fun R a=>Ut (BN _ _ _ lp b j.m_ l.m_ i k) U7<|C6 1 [9,11,13,14,56] a Z<|G.cd (fun o=>?_) fun o=>?_
 ·have p:z.natAbs<w.natAbs:=by
   have:bx lp<bx b:=by simpa using o
   omega
  refine Ui 3 Z fun R a=>UK (jo _ _ _ b lp (-1) l.m_ j.m_ k.1 i.1 om_ om_ om_ om_) U7 fl_ (fun N _ _ t=>?_);rw [show ((bx b:Int) + -1*(bx lp:Int)).toNat=w.natAbs-z.natAbs by omega] at t;obtain ⟨c,d,e,s,f⟩:=PieC.take t om_;refine Uu (nq _ g.m_ (decide (w<0)) _ c f.m_ d.1 om_) U7 fl_<|C6 1 [4] a Z<|Up U2<|⟨?_,Z⟩;rw [e,My m p]
 have p:¬ z.natAbs<w.natAbs:=by
  have:¬ bx lp<bx b:=by simpa using o
  omega
 refine Ui 3 Z fun R a=>UK (jo _ _ _ lp b (-1) j.m_ l.m_ i.1 k.1 om_ om_ om_ om_) U7 fl_ (fun O _ _ u=>?_);rw [show ((bx lp:Int) + -1*(bx b:Int)).toNat=z.natAbs-w.natAbs by omega] at u;obtain ⟨c,d,e,s,f⟩:=PieC.take u om_;refine Uu (nq _ g.m_ (decide (z<0)) _ c f.m_ d.1 om_) U7 fl_<|C6 1 [4] a Z<|Up U2<|⟨?_,Z⟩;rw [e,Fz m p]
theorem pd (C:Mem)(n:Nat):Gives cx.P 172 [af (bj n)] C (.tuple #[.bool false,af (bj n)]):=by
 have h:=dB C (n:Int);rw [cW,Q6 om_] at h;exact h
theorem qZ (C:Mem)(n:Nat):Gives cx.P 171 [af (bj n)] C (.tuple #[.int .i64 (if (bj n).length<=17 then (n:Int) else 0),.bool (decide ((bj n).length<=17))]):=by
 have h:=oG C (n:Int);rw [cW] at h;exact h
theorem rb (h:(bj n).length<=17):n<100000000000000000:=oF (z:=(n:Int)) h
theorem Gm (C:Mem)(a:Tabs C)(n:Nat)(h:n<=9223372036854775807):Gives cx.P 106 [.int .i64 n] C (af (bj n)):=by
 have h:=gE C a (n:Int) om_ om_
 rwa [cW] at h
theorem uG (C:Mem)(a:Tabs C)(v:Value)(l:List Nat)(b:Sl C 1 v (l.map aT))(c:DigP l)(d:l.length<=100000):Gives cx.P 174 [.bool false,v] C (af (bj (bx l))):=by
 have h:=nq C a false v l b c d;rw [show sgZ false (bx l)=((bx l:Nat):Int) from rfl,cW] at h;exact h
theorem Qa {q:Nat}(h:q<=9223372036854775807):IntKind.i64.wrap ((q:Nat):Int)=(q:Nat):=by rw [IntKind.wrap_i64];omega
theorem mA (C:Mem)(d:Tabs C)(a b:Nat)(l:a<BP ^ 200)(m:b<BP ^ 200)(e:0<b):Gives cx.P 168 [af (bj a),af (bj b)] C (.tuple #[af (bj (a / b)),af (bj (a % b))]):=by
 have D:=Oe;refine Ur func168 93 U3 fun w0=>Uh 2 [0,1] Z<|Ui 1 Z fun R c=>Ut (qZ C a) U7<|C6 5 [0,1,6,7] c Z<|Ui 1 Z fun R c=>Ut (qZ _ b) U7<|C6 5 [0,1,6,7,8,9] c Z<|Ui 3 Z fun R c=>UJ U8<|Un [0,1,6,8,31] c Z<|G.cd (fun f=>?_) fun f=>?_
 ·have hs:(bj a).length<=17/\(bj b).length<=17:=by simpa using f
  have h1:=rb hs.1;have h2:=rb hs.2;rw [aJ hs.1,aJ hs.2];have h0:=RG a b;refine UD [0,1,2,3,4,5,6,7] [] Z kr_ fun R E c=>Um 2 Z<|Vs (((a / b:Nat):Int)) U6 om_ (by rw [Tk om_];rfl) (Qa om_) U2<|Um 2 Z<|Vt U6 om_ om_ U2<|C6 2 [6,8,10,11] c Z<|Uh 2 [6,8,10,11,39] Z<|G.cd (fun g=>?_) fun g=>?_
  ·exfalso;have h3:=T1 (a:Int) (show (b:Int)≠0 by omega);simp only [QK] at g;omega
  rw [<- Int.natCast_emod];have h3:=RG a b;have h4:=Rj a e;refine Ui 1 Z fun R c=>Uu (Gm _ d (a / b) om_) U7 fl_<|Uk U6<|Uu (Gm _ d (a % b) om_) U7 fl_<|C6 2 [4,5] c Z<|Uv (G.dropAll (UH U3 ?_));exact ⟨Z,Z⟩
 refine Ui 1 Z fun R c=>Ut (pd _ a) U7<|C6 5 [1,12,13] c Z<|Ui 1 Z fun R c=>Ut (pd _ b) U7<|C6 5 [12,13,14,15] c Z<|Ui 1 Z fun R c=>UR (ga _ a l) U7 (fun F _ _ n=>?_);obtain ⟨lp,o,p,H,q⟩:=n;refine Uk U6<|UR (ga _ b m) U7 (fun I _ _ r=>?_);obtain ⟨s,t,u,J,v⟩:=r;refine UK (BS _ _ _ lp s q.m_ v.m_ o.1 t om_ om_ om_) U7 fl_ (fun K _ _ w=>?_);obtain ⟨u1,L,rfl,h,i⟩:=w;rw [p,u] at h i;obtain ⟨l1,x,y,M,z⟩:=PieC.take h (by have:=RG a b;omega);obtain ⟨l2,A,B,N,j⟩:=PieC.take i (by have:=Rj a e;omega);obtain ⟨A2,c2,rfl,_⟩:=id j;refine C6 5 [12,14,15,16,17] c Z<|Ui 5 Z fun R c=>UJ U8<|Un [12,14,15,16,17,78] c Z<|G.cd (fun k=>?_) fun k=>?_
 ·exfalso;simp at k
 refine Ui 4 Z fun R c=>Uu (uG _ d.m_ _ l1 z.m_ x.1 om_) U7 fl_<|Uk U6<|Uu (uG _ d.m_ _ l2 j.m_ A.1 om_) U7 fl_<|C6 2 [4,5] c Z<|Uv (G.dropAll (UH U3 ?_));rw [y,B];exact ⟨Z,Z⟩
theorem LN (n:Nat):((⟨(bj n).toArray⟩:ByteArray).data.toList == (⟨#[48]⟩:ByteArray).data.toList)=decide (n=0):=by
 have h:=lE (n:Int);rw [cW] at h;rw [h,Ry];omega
theorem D4 (C:Mem)(h:Tabs C)(z w:Int)(i:z.natAbs<BP ^ 200)(j:w.natAbs<BP ^ 200):Gives cx.P 167 [af (txt z),af (txt w)] C (af (bj (Nat.gcd z.natAbs w.natAbs))):=by
 refine Ur func167 22 U3 fun w0=>Uh 1 [0,1] Z<|Ui 1 Z fun R e=>Ut (tB _ z) U7<|Uk U6<|Ut (tB _ w) U7<|C6 2 [0,1] e Z<|G.loop (fun fr p k l=>∃ (a b:Nat),(a<BP ^ 200/\b<BP ^ 200/\Nat.gcd a b=Nat.gcd z.natAbs w.natAbs)/\fr=[(0,[],af (bj a)),(1,[],af (bj b))]/\k=[]/\l=b+1) (hn_ [0,1] Z) ⟨z.natAbs,w.natAbs,⟨i,j,Z⟩,Z,Z,Z⟩ (fun fr q r m _ n=>?_);obtain ⟨a,b,⟨o,f,g⟩,rfl,rfl,rfl⟩:=n;refine Uh 2 [0,1,12] Z<|G.cd (fun c=>?_) fun c=>?_
 ·have d:0<b:=by
   rw [LN] at c;have:b≠0:=by simpa using c
   omega
  have s:=Rj a d;refine Ui 2 Z fun R e=>Ut (mA _ h.m_ a b o f d) U7<|C6 5 [1,6] e Z<|Uh 4 [0,1] Z<|Uw (m':=a % b+1) om_ mup (hn_ [0,1] Z) ⟨b,a % b,⟨f,by omega,by rw [<- g,Pv a b d]⟩,Z,Z,Z⟩
 have d:b=0:=by
  rw [LN] at c;simpa using c
 refine Uh 2 [4] Z<|Up U2<|⟨?_,Z⟩;rw [<- g,d,Tb]
def iN (s:Str):Int:=sgZ (cJ 45 s).2 (bP (cJ 45 s).1)
theorem yt {t:Str}(h:vQ t):t.head?=some 48 ↔ bP t=0:=by
 constructor
 ·intro h0;have h1:=h.2.2 h0;cases t with
  | nil=>cases h0
  | cons b t =>
   have a:b=48:=by simpa using h0
   have d:t=[]:=by cases t with
    | nil=>rfl
    | cons c t=>simp at h1
   subst a d;rfl
 intro h0;have:=qY h (bk 0).1 (by rw [h0,(bk 0).2]);rw [this,bj];rfl
theorem yq :yr s=true ↔ vQ (cJ 45 s).1/\((cJ 45 s).2=true->0<bP (cJ 45 s).1):=by
 obtain ⟨t,neg,d⟩:∃ t b,cJ 45 s=(t,b):=⟨_,_,rfl⟩;unfold yr;rw [d];simp only [QR,Tl,Sv,ne_eq,QX,Bool.and_eq_false_imp,Sj,Sr,Q7];constructor
 ·rintro ⟨⟨h1,h2⟩,h3⟩;have a:vQ t:=⟨h1,h2,fun h=>by
   have:=(h3 h).2;have:0<t.length:=Rn.2 h2;omega⟩
  refine ⟨a,fun c=>?_⟩;rcases RM (bP t) with h | h
  ·have:=(h3 ((yt a).2 h)).1;rw [c] at this;cases this
  exact h
 rintro ⟨a,h⟩;refine ⟨⟨a.1,a.2.1⟩,fun h0=>?_⟩;have h1:=(yt a).1 h0;have h2:=a.2.2 h0;refine ⟨?_,by omega⟩;cases c:neg with
 | false=>rfl
 | true=>have:=h c;omega
theorem Hv (s:Str):s=if (cJ 45 s).2 then 45::(cJ 45 s).1 else (cJ 45 s).1:=by
 unfold cJ;split
 ·rename_i h;cases s with
  | nil=>cases h
  | cons b s =>
   have a:b=45:=by simpa using h
   subst a;rfl
 rfl
theorem H1 (h:yr s=true):s=txt (iN s):=by
 obtain ⟨h1,h2⟩:=yq.1 h;unfold iN;rw [AY _ _ h2,<- oE h1];exact Hv s
def pu (zn:Int):Option Str->Bool
 | none=>true
 | some b=>decide (1<iN b) && !(zn == 0) && (Nat.gcd zn.natAbs (iN b).natAbs == 1)
def aW (s:Str):Bool:=cH (iP 47 s).1 && cH ((iP 47 s).2.getD [49]) && pu (iN (iP 47 s).1) (iP 47 s).2
theorem sa :cH s=true ↔ okD (cJ 45 s).1=true/\((cJ 45 s).2=true->0<bP (cJ 45 s).1):=by
 unfold cH;rw [QR,yq,zg,QK];constructor
 ·rintro ⟨⟨h1,h2⟩,h3⟩;exact ⟨⟨h1,h3⟩,h2⟩
 rintro ⟨⟨h1,h3⟩,h2⟩;exact ⟨⟨h1,h2⟩,h3⟩
theorem Kx (s:Str):(iN s).natAbs=bP (cJ 45 s).1:=by
 unfold iN sgZ;split <;> omega
theorem FO (h:s.length<=n):(iP 47 s).1.length<=n/\((iP 47 s).2.getD [49]).length<=n+1:=by
 rcases gM 47 s with ⟨h1,_⟩ | ⟨a,post,h1,h2,_⟩
 ·rw [h1];exact ⟨h,by simp⟩
 have e:=congrArg List.length h2;rw [QG,QT] at e;rw [h1];simp only [RT];omega
theorem one_val:([49]:Str)=txt 1:=by
 unfold txt;rw [aF om_,show bj (1:Int).natAbs=bj 1 from rfl,bj];rfl
theorem tg (n:Nat):((⟨(bj n).toArray⟩:ByteArray).data.toList == (⟨#[49]⟩:ByteArray).data.toList)=(n == 1):=by
 show (bj n == [49])=_;rw [Py,T6,QK,Sj];constructor
 ·intro h;have h2:=(bk n).2;rw [h] at h2;exact h2.symm
 rintro rfl;rw [bj];rfl
theorem Ge (C:Mem)(s:Str)(d:∀ c∈s,eG c=true)(e:s≠[])(f:s.length<=18):Gives cx.P 251 [af s,.int .i64 10,.int .i64 64] C (.tuple #[.int .u64 (bP s),.nilIface]):=by
 refine Ur func251 26 U3 fun w0=>Uh 2 [0,1,2] Z<|Ui 3 Z fun R a=>Uu (Gd Tryz.parseU s d e f _ kr_) U7 fl_<|C6 5 [0,1,2,8,9] a Z<|Ui 1 Z fun R a=>Wa false Z Z Z Z Z (.inr ⟨Z,Z⟩) kr_ Z Z<|Un [0,1,2,8,9,18] a Z<|G.cd (fun b=>?_) fun b=>?_
 ·cases b
 refine Uh 3 [6,7] Z<|Uv (G.dropAll (UH U3 ?_));exact ⟨Z,Z⟩
theorem Dp (C:Mem)(i:Nat)(h:i<100):Gives cx.P 313 [.int .i64 i] C (af (bj i)):=by
 have h1:=Gives.ofCalls (f:=313) (args:=[.int .i64 i]) (P:=cx.P) kr_ (fun w=>Any.internal_strconv_small Tryz.small10 i h w) C;rw [dS] at h1;exact h1
theorem B8 (u:Nat):Lib.nDigits u=(bj u).length:=by rw [<- dS,Lib.decDigits_length]
theorem D5 (C:Mem)(l:Tabs C)(u:Nat)(s:u<9223372036854775808):Gives cx.P 298 [.int .u64 u,.int .i64 10] C (af (bj u)):=by
 refine Ur func298 32 U3 fun w0=>Uh 1 [0,1] Z<|Uh 2 [0,1,10] Z<|G.cd (fun g=>?_) fun g=>?_
 ·refine Uh 2 [0,12] Z<|G.cd (fun e=>?_) fun e=>?_
  ·have h:u<100:=by
    have:(u:Int)<100:=by simpa using e
    omega
   exact Ui 1 Z fun R a=>UU (c:=(u:Int)) U8 (by rw [IntKind.wrap_i64];omega) fl_<|Ut (Dp _ u h) U7<|C6 1 [4] a Z<|Up U2<|⟨Z,Z⟩
  have h:100<=u:=by
   have:¬ (u:Int)<100:=by simpa using e
   omega
  have t:Lib.nDigits u<=19:=by
   rw [B8];exact dR om_ om_
  refine Ul fun R a=>UB U5 fun i=>Un [0,5] a Z<|Ui 1 Z fun R a=>Uu (xm Tryz.nDig u om_ om_ _ l.pow.m_ kr_) U7 fl_<|C6 1 [0,5,6] a Z<|UI [(3,3)] Z fun R a=>Uk U6<|VE 0 (Lib.nDigits u) 24 U12 (fun _=>⟨.inl ⟨Z,Z⟩,.inr ⟨_,Z⟩,.inl ⟨Z,Z⟩,by omega,by omega,by decide⟩) U2<|Uk U6<|D.call (zA Tryz.fmt10 i 24 u 393 (List.replicate 24 (Value.int .u8 0)) om_ (fun j d=>(by rw [RZ,aJ om_])) om_ _ kr_) Z (.inr dc_) U6 (QI _) fl_ fun w _ z _ m=>Un [5,6] a Z ?_;obtain ⟨_,rfl,cs,rfl,A,n⟩:=m;refine G.freeze 0 Z (fun o _ p=>?_);have q:(bj u).length=Lib.nDigits u:=(B8 u).symm;have k:Sl o 1 (.slice (some ⟨i,0,none⟩) ((bj u).map fun b=>[Value.int .u8 b.toNat]).length 24) ((bj u).map fun b=>[Value.int .u8 b.toNat]) :=
   Sl.ofBlock p (by intro r hr;obtain ⟨y,_,rfl⟩:=QE.1 hr;rfl) (fun j v d=>by
    rw [gp,QD] at d;cases f:(bj u)[j]? with
    | none=>rw [f] at d;cases d
    | some x=>rw [f] at d;cases d;simpa using n j x f) ap (by simp [maxLen])
  rw [ar,q] at k;exact Ui 1 Z fun R a=>VE 0 (Lib.nDigits u) 24 U12 (fun _=>⟨.inl ⟨Z,Z⟩,.inr ⟨_,Z⟩,.inl ⟨Z,Z⟩,by omega,by omega,by decide⟩) U2<|VG k.m_ U11 fl_<|C6 1 [4] a Z<|Up U2<|⟨Z,Z⟩
 exact absurd g dc_
theorem D6 (C:Mem)(a:Tabs C)(u:Nat)(b:u<9223372036854775808):Gives cx.P 255 [.int .u64 u,.int .i64 10] C (af (bj u)):=by
 exact Ur func255 8 U3 fun w0=>Uh 1 [0,1] Z<|Ui 2 Z fun R c=>Ut (D5 _ a.m_ u b) U7<|C6 1 [4] c Z<|Up U2<|⟨Z,Z⟩
theorem jN (C:Mem)(z:Int)(m:Nat)(d:m<=18):Gives cx.P 188 [af (txt z),.int .i64 m] C (.tuple #[.int .i64 (if (txt z).length<=m then z else 0),.bool (decide ((txt z).length<=m))]):=by
 refine Ur func188 20 U3 fun w0=>Uh 2 [0,1] Z<|Uh 4 [0,11] Z<|G.cd (fun b=>?_) fun b=>?_
 ·have a:¬ (txt z).length<=m:=by
   have:(m:Int)<((txt z).length:Int):=by simpa using b
   omega
  refine Uh 2 [4,5] Z<|Uv (G.dropAll (UH U3 ?_));exact ⟨by rw [aF a,Q6 a],Z⟩
 have a:(txt z).length<=m:=by
  have:¬ (m:Int)<((txt z).length:Int):=by simpa using b
  omega
 refine Ui 1 Z fun R c=>Uu (Ai Tryz.atoi z om_ _ kr_) U7 fl_<|C6 5 [6,7] c Z<|UD [0,1,2,3,4] [] Z kr_ fun R e c=>Um 2 Z<|Wa true Z Z Z Z Z (.inl ⟨Z,Z⟩) kr_ Z Z<|C6 2 [4,5] c Z<|Uv (G.dropAll (UH U3 ?_));exact ⟨by rw [aJ a,QV a],Z⟩
theorem jf (C:Mem)(z:Int)(v:(bj z.natAbs).length<=1000000):Pur cx.P 189 [af (txt z)] C fun u D=>∃ p,u=.agg ⟨[.bool (decide (z<0)),p]⟩/\NineC D p z.natAbs:=by
 obtain ⟨S,i⟩:∃ S,bj z.natAbs=S:=⟨_,rfl⟩;have b:=(bk z.natAbs).1;have k:=(bk z.natAbs).2;rw [i] at v b k;refine Ur func189 44 U3 fun w0=>Ul fun R a=>UB U5 fun d=>Un [0,2] a Z<|Ui 1 Z fun R a=>Ut (HL _ (txt z) 45) U7 ?_;rw [dJ,i];refine C6 5 [2,3,4] a Z<|Ui 2 Z fun R a=>Vn (S.length) (9) U6 om_ (.inl ⟨Z,by omega⟩) U2<|UQ (((S.length / 9+1:Nat):Int)) U4 om_ om_ om_ U2<|Vl U9 (QH _) (by show 8*(S.length / 9+1)<=281474976710656;omega) (by simp only [maxLen];omega) fl_ fun M=>C6 1 [2,3,4,5] a Z ?_;rw [show (af S:Value)=af (S.take S.length) by rw [QM]];refine G.loop (fun fr N l y=>∃ (q j:Nat)(out:List Nat)(w:Value),(q<=S.length/\(q=0∨q+9*j=S.length)/\out.length=j/\j<=S.length/\(q=0∨j<S.length)/\Dig9 out/\bB out=bP (S.drop q))/\fr=[(2,[],.pointer (some ⟨d,0,none⟩)),(3,[],af (S.take q)),(4,[],.bool (decide (z<0))),(5,[],w)]/\l=[.arr w 285 1 j (out.map cN).flatten,.obj d (.cells ⟨[.bool false,.slice none 0 0]⟩ 273 (0,0))]/\y=q+1) (hn_ [2,3,4,5] Z) ⟨S.length,0,[],_,⟨Qz _,by omega,Z,QH _,by have:=Rn.2 b.2.1;omega,(fun x A=>(by cases A)),by rw [RN];rfl⟩,Z,Z,Z⟩ (fun fr O Q m _ B=>?_);obtain ⟨q,j,out,w,⟨T,U,e,V,W,o,f⟩,rfl,rfl,rfl⟩:=B;refine Uh 3 [2,3,4,5,21] Z<|G.cd (fun g=>?_) fun g=>?_
 ·have E:(⟨(S.take q).toArray⟩:ByteArray).data.toList.length=q:=by
   show (S.take q).length=q;rw [QO];omega
  have F:(S.take q).length=q:=E;have r:0<q:=by
   have h:(0:Int)<(((⟨(S.take q).toArray⟩:ByteArray).data.toList.length:Nat):Int):=by simpa using g
   omega
  have H:(gK S (q-9) q).length<=9/\0<(gK S (q-9) q).length:=by
   unfold gK;rw [SE,QO];omega
  have I:∀ c∈gK S (q-9) q,eG c=true:=fun c J=>b.1 c (RQ (Tp J));refine Ui 2 Z fun R a=>UQ (((q:Int)-9)) U4 om_ om_ om_ U2<|D.max (((q-9:Nat):Int)) U6 om_ U2<|C6 1 [2,3,4,5,6] a Z<|Ui 2 Z fun R a=>Vf (q-9) (S.take q).length U9 (fun _=>⟨.inr ⟨_,Z⟩,.inl ⟨Z,Z⟩,.inl ⟨Z,Z⟩,by omega,Qz _,Qz _⟩) U2 ?_;rw [show (((S.take q).take (S.take q).length).drop (q-9))=gK S (q-9) q from by rw [QM];rfl];refine Uu (Ge _ (gK S (q-9) q) I (Rn.1 H.2) om_) U7 fl_<|C6 5 [2,3,4,5,6,7] a Z<|UD [0,1,4,5,6,2,3,7,8] [] Z kr_ fun R X a=>Um 4 Z<|Vf 0 (q-9) U9 (fun _=>⟨.inl ⟨Z,Z⟩,.inr ⟨_,Z⟩,.inl ⟨Z,Z⟩,by omega,by omega,Qz _⟩) U2<|UF [cN (bP (gK S (q-9) q))] U12 fun Y _ _ K=>D.append (j:=0) U11 K Z ax (by show (j+1)*8<=_;omega) fl_ fun s=>C6 2 [2,3,4,5] a Z ?_;rw [show ((S.take q).take (q-9)).drop 0=S.take (q-9) from by rw [RR,TL,RD om_]];refine Uz (L':=[.arr s 285 1 (j+1) ((out++[bP (gK S (q-9) q)]).map cN).flatten,.obj d (.cells ⟨[.bool false,.slice none 0 0]⟩ 273 (0,0))]) (by simp [cN])<|Uw (m':=q-9+1) om_ mup (hn_ [2,3,4,5] Z) ⟨q-9,j+1,out++[bP (gK S (q-9) q)],s,⟨by omega,by omega,by simp [e],by omega,by omega,o.snoc (Kz b.1 om_),Di om_ e om_ f⟩,Z,Z,Z⟩
 have r:q=0:=by
  have F:(S.take q).length=q:=by rw [QO];omega
  have h:¬ (0:Int)<(((S.take q).length:Nat):Int):=by simpa using g
  omega
 subst r;rw [RR,k] at f;refine UI [(2,3)] Z fun R a=>Um 2 Z<|D.call (gw _ _ out (n:=j) e) Z (.inr dc_) U6 (QI _) fl_ (fun aa _ ab _ L=>?_);obtain ⟨rfl,t⟩:=L;obtain ⟨Au,cu,rfl,_⟩:=id t;refine UA [.bool (decide (z<0)),_] U8<|Us (j:=0) U12<|Un [2] a Z<|Uv (Va ag U4 ?_);exact ⟨Z,_,Z,EN out,iD o,by rw [iC,f],t⟩
theorem Ee (k:Nat)(s:Str):bP (List.replicate k 48++s)=bP s:=by
 induction k with
 | zero=>rfl
 | succ k a=>rw [RP,Su,dK,a];simp
theorem M8 (h:x<1000000000):mQ 9 x=List.replicate (9-(bj x).length) 48++bj x:=by
 obtain ⟨h1,h2,h3⟩:=kP 9 x h;obtain ⟨h4,h5⟩:=bk x;have b:(bj x).length<=9:=dR om_ om_;refine zM h2 (fun c a=>?_) (by rw [h1];simp;omega) (by rw [h3,Ee,h5]);rcases QS.1 a with a | a
 ·rw [Sz a];rfl
 exact h4.1 c a
def KU (l:List Nat)(j:Nat)(s:Str):Prop:=(j=0/\s=[])∨(0<j/\vQ s/\bP s=bB (l.drop (l.length-j))/\0<bP s)
theorem DW (b:yH l)(d:j<l.length)(h:KU l j s):KU l (j+1) (s++if j=0 then bj (g9 l (l.length-1-j)) else mQ 9 (g9 l (l.length-1-j))):=by
 have a:l[l.length-1-j]?=some (g9 l (l.length-1-j)):=xI om_;refine .inr ⟨by omega, ?_⟩;rw [show l.length-(j+1)=l.length-1-j by omega];rcases h with ⟨rfl,rfl⟩ | ⟨h0,h1,h2,h3⟩
 ·rw [aJ rfl,SK];obtain ⟨h4,h5⟩:=bk (g9 l (l.length-1-0));have c:bB (l.drop (l.length-1-0))=g9 l (l.length-1-0):=by
   rw [Q0 om_,show l.length-1-0+1=l.length by omega,RN];rw [aj om_] at a;rw [R6 a];show _+B9*0=_;omega
  refine ⟨h4,by rw [h5,c], ?_⟩;rw [h5];rcases RM (g9 l (l.length-1-0)) with h | h
  ·rw [h] at a;exact absurd (by rw [SU];exact a) b.2
  exact h
 rw [aF om_];rw [show l.length-j=l.length-1-j+1 by omega] at h2;exact D3 b.1 a h1 h2 h3
theorem kb (C:Mem)(V:Tabs C)(m:Bool)(v:Value)(n:Nat)(W:NineC C v n)(X:n<B9 ^ 100000):Gives cx.P 191 [.agg ⟨[.bool m,v]⟩] C (af (txt (sgZ m n))):=by
 obtain ⟨ls,J,K,ak,hs⟩:=W.get X;obtain ⟨A,c,rfl,_⟩:=id hs;simp only [ar] at hs ⊢;refine VI kr_ func191 Z 34 Z Z fun w0=>Ul fun R a=>UC U6 fun L=>C6 1 [1] a Z<|G.freeze 0 Z fun _ _ o=>Ui 1 Z fun R a=>Uj (PtrTo.block (Mem.get o mup) _) U8<|C6 2 [1,10] a Z<|G.cd (fun y=>?_) fun y=>?_
 ·have M:ls=[]:=by
   have:(ls.length:Int)=0:=by simpa using y
   exact Rt om_
  refine Uh 1 [2] Z<|Uv (VM (Li Z Z) ?_ Kn);subst M;refine ⟨?_,Z⟩;rw [<- K,(AX (sgZ m (bB []))).2 (by cases m <;> rfl)];rfl
 have M:0<ls.length:=by
  have:¬ (ls.length:Int)=0:=by simpa using y
  omega
 obtain ⟨d,g⟩:∃ d:Str,(if m then [45] else [])=d:=⟨_,rfl⟩;have am:d.length<=1:=by rw [<- g];split <;> simp
 refine Ul fun R a=>UB U5 fun b=>Un [1,3] a Z<|G.nilArr 5 1<|G.perm (L':=[.obj b (.cells ⟨[.pointer none,.slice none 0 0]⟩ 344 (0,0)),.arr (.slice none 0 0) 5 1 0 []]) (List.Perm.swap _ _ _)<|Ui 1 Z fun R a=>Uj (PtrTo.block (Mem.get o mup) _) U8<|Un [1,3,12] a Z<|G.cut (fun fr Y e z=>∃ (q:Option Addr)(w:Value),(q=none∨q=some ⟨b,0,none⟩)/\fr=[(1,[],.pointer (some ⟨L,0,none⟩)),(3,[],.pointer (some ⟨b,0,none⟩))]/\e=[.obj b (.cells ⟨[.pointer q,w]⟩ 344 (0,0)),.arr w 5 1 d.length (u8s d)]) ?_ (fun fr _ an z _ f=>?_)
 ·refine G.cd (fun B=>?_) fun B=>?_
  ·rw [aJ B] at g;subst g;refine UI [(0,3)] Z fun R a=>D.call (vR _ b none (.slice none 0 0) [] 45 (.inl Z) al) Z (.inr dc_) U6 (QI _) fl_ fun ao _ aq _ aa=>Un [1,3] a Z ?_;obtain ⟨w1,rfl⟩:=aa;refine Ux 0 mup (hn_ [1,3] Z) ⟨some ⟨b,0,none⟩,w1,.inr Z,Z,Z⟩
  rw [aF (by rw [B];decide)] at g;subst g;refine Ux 0 mup (hn_ [1,3] Z) ⟨none,.slice none 0 0,.inl Z,Z,Z⟩
 obtain ⟨q ,w,hq,rfl,rfl⟩:=f;refine Ui 1 Z fun R a=>Uj (PtrTo.block (Mem.get o mup) _) U8<|UR (CT _ A ls.length c) U7 fun au _ _ ab=>Un [1,3,16] a Z ?_;obtain ⟨bb,rfl,ac⟩:=ab;refine Uz (L':=[.obj b (.cells ⟨[.pointer q,w]⟩ 344 (0,0)),.arr w 5 1 (d++[]).length (u8s (d++[]))]) (by rw [Q2])<|G.rangeFunc Z Z Z kr_ (tx _ bb _ _ ls ac hs.m_ om_) (fun j e=>∃ (q:Option Addr)(w:Value)(s:Str),((q=none∨q=some ⟨b,0,none⟩)/\KU ls j s/\s.length<=9*j)/\e=[.obj b (.cells ⟨[.pointer q,w]⟩ 344 (0,0)),.arr w 5 1 (d++s).length (u8s (d++s))]) ⟨q,w,[],⟨hq,.inl ⟨Z,Z⟩,by simp⟩,Z⟩ Z (fun _ _=>rfl) (fun u v=>[(1,[],.pointer (some ⟨L,0,none⟩)),(3,[],.pointer (some ⟨b,0,none⟩)),(4,[],u),(5,[],v)]) (fun l u v W1 e=>?_) (fun l j u v e W1 f E=>?_) (fun bD e f=>?_)
 ·exact Uh 1 [1,3,4,18] Z<|Uh 1 [1,3,4,5] Z<|Wm ⟨Z,Z,Z,Z,trivial⟩
 ·obtain ⟨q,w,s,⟨F,p,N⟩,rfl⟩:=f;have O:j<ls.length:=by have:=(aL.1 E).1;rwa [fS] at this
  rw [vC O] at E;cases E
  have Q:=DW J O p;obtain ⟨x,H⟩:∃ x,g9 ls (ls.length-1-j)=x:=⟨_,rfl⟩;have i:x<B9:=by rw [<- H];exact kW J.1 _
  rw [show ls.getD (ls.length-1-j) 0=x from H];rw [H] at Q;have av:(bj x).length<=9:=dR (by rw [B9v] at i;omega) om_;have ad:=M8 (x:=x) (by rw [B9v] at i;exact i);have aw:(mQ 9 x).length=9:=(kP 9 x (by rw [B9v] at i;omega)).1;refine Ui 1 Z fun R a=>Uu (D6 _ V.m_ x (by rw [B9v] at i;omega)) U7 fl_<|C6 1 [1,3,4,6] a Z<|Ui 2 Z fun R a=>Uj (PtrTo.block (Mem.get o mup) _) U8<|Uk U6<|Uq _ Z U6<|C6 1 [3,6,26] a Z<|G.cut (fun fr Y e z=>∃ (k:Option Addr)(r:Value)(t:Str),((k=none∨k=some ⟨b,0,none⟩)/\t++bj x=d++(s++if j=0 then bj x else mQ 9 x)/\t.length<=9*j+10)/\fr=[(3,[],.pointer (some ⟨b,0,none⟩)),(6,[],af (bj x))]/\e=[.obj b (.cells ⟨[.pointer k,r]⟩ 344 (0,0)),.arr r 5 1 t.length (u8s t)]) ?_ (fun fr _ ax z _ f=>?_)
  ·refine G.cd (fun I=>?_) fun I=>?_
   ·have S:0<j:=by
     have:((ls.length-1-j:Nat):Int)<(ls.length:Int)-1:=by simpa using I
     omega
    refine UI [(3,3)] Z fun R a=>Um 2 Z<|Vf (bj x).length 9 U9 (fun _=>⟨.inr ⟨_,Z⟩,.inl ⟨Z,Z⟩,.inl ⟨Z,Z⟩,by omega,Qz _,Qz _⟩) U2 ?_;rw [show ((([48,48,48,48,48,48,48,48,48]:Str).take 9).drop (bj x).length)=List.replicate (9-(bj x).length) 48 from by rw [show (([48,48,48,48,48,48,48,48,48]:Str).take 9)=List.replicate 9 48 from rfl,List.drop_replicate]];refine D.call (ku _ b q w (d++s) (List.replicate (9-(bj x).length) 48) F ap) Z (.inr dc_) U6 (QI _) fl_ fun ay _ az _ ae=>Un [3,6] a Z ?_;obtain ⟨w1,rfl⟩:=ae;refine Ux 0 mup (hn_ [3,6] Z) ⟨some ⟨b,0,none⟩,w1,_,⟨.inr Z,by rw [aF om_,ad];simp [],by simp;omega⟩,Z,Z⟩
   have S:j=0:=by
    have:¬ ((ls.length-1-j:Nat):Int)<(ls.length:Int)-1:=by simpa using I
    omega
   refine Ux 0 mup (hn_ [3,6] Z) ⟨q,w,d++s,⟨F,by rw [aJ S,Q8],by simp;omega⟩,Z,Z⟩
  obtain ⟨k ,r ,t,⟨ag,ah,aA⟩,rfl,rfl⟩:=f;refine UI [(1,3)] Z fun R a=>Uk U6<|D.call (ku _ b k r t (bj x) ag om_) Z (.inr dc_) U6 (QI _) fl_ fun aB _ aC _ ai=>Vp [] trivial (a _ _ _ Z ?_);obtain ⟨w4,rfl⟩:=ai;rw [ah];exact VW (R:=fun e=>∃ (q:Option Addr)(w:Value)(s:Str),((q=none∨q=some ⟨b,0,none⟩)/\KU ls (j+1) s/\s.length<=9*(j+1))/\e=[.obj b (.cells ⟨[.pointer q,w]⟩ 344 (0,0)),.arr w 5 1 (d++s).length (u8s (d++s))]) (QI _) ⟨some ⟨b,0,none⟩,w4,_,⟨.inr Z,Q,by rw [QG];split <;> omega⟩,Z⟩
 obtain ⟨q,w,s,⟨F,p,N⟩,rfl⟩:=f;rw [fS] at p;obtain ⟨aD,T,U,aE⟩:0<ls.length/\vQ s/\bP s=bB (ls.drop (ls.length-ls.length))/\0<bP s:=p.elim (fun h=>by omega) id;rw [Tt,RR,K] at U;refine G.perm (L':=[.obj b (.cells ⟨[.pointer q,w]⟩ 344 (0,0)),.arr w 5 1 (d++s).length (u8s (d++s)),.obj bD (.deferred (some []))]) (pkL [1,1,0] Z)<|UI [(0,3)] Z fun R a=>D.call (El _ b q w (d++s) (fun h=>T.2.1 (TP.1 h).2) (by simp;rw [fS] at N;omega)) Z (.inr dc_) U6 (QI _) fl_ fun aG _ aH _ aj=>C6 1 [2] a Z ?_;obtain ⟨rfl,rfl⟩:=aj;refine Uv (Wj (Li Z Z) ?_);refine ⟨?_,Z⟩;have es:s=bj n:=by rw [<- U];exact oE T
 rw [AY m n (fun _=>by omega),es,<- g];cases m <;> rfl
theorem sX (a:0<Q):(x+B9*t) / Q=B9*(t / Q)+(x+B9*(t % Q)) / Q/\(x+B9*t) % Q=(x+B9*(t % Q)) % Q:=by
 have h:x+B9*t=(x+B9*(t % Q))+Q*(B9*(t / Q)):=by
  have h1:=TE t Q;have h2:B9*t=B9*(t % Q)+B9*(Q*(t / Q)):=by rw [<- RH,h1]
  rw [h2,Uc];omega
 rw [h,TB _ _ a,Nat.add_mul_mod_self_left];exact ⟨by omega,Z⟩
theorem mB (a:0<Q)(b:x<B9):(x+B9*(t % Q)) / Q<B9:=by
 rw [Sy a];have h1:=Rj t a;have h2:B9*(t % Q+1)<=B9*Q:=R3 _ h1;rw [RH] at h2;omega
theorem fA (h:j<l.length):bB (l.drop j)=g9 l j+B9*bB (l.drop (j+1)):=by
 rw [Q0 h,bB,zz (aj h)]
theorem lD (h:j<l.length):bB ((l.set j x).drop j)=x+B9*bB (l.drop (j+1)):=by
 rw [Q0 (by simpa using h),bB,List.getElem_set_self,List.drop_set_of_lt om_]
theorem sV (C:Mem)(va M:Value)(m d:Nat)(ha:NineC C va m)(hm:m<B9 ^ 200000)(F:Sl C 1 M ([d].map cN))(H:0<d)(hd:d<B9) :
  Pur cx.P 227 [va,M] C fun u D=>∃ q r,u=.tuple #[q,r]/\NineC D q (m / d)/\NineC D r (m % d):=by
 have aa:NineC C M d:=⟨[d],⟨fun x o=>(by rw [QY.1 o];exact hd),by simp;omega⟩,by show d+B9*0=d;omega,F⟩;have N:=ha;obtain ⟨a,an,ab,aF,O⟩:=ha.get hm;obtain ⟨A0,c0,rfl,_⟩:=id O;obtain ⟨B0,d0,rfl,aG⟩:=id F;simp only [ar,QA] at F aa O N ⊢;have p:=B9v;refine VI kr_ func227 Z 146 Z Z fun w0=>Ul fun R b=>UC U6 fun b3=>UB U5 fun g=>C6 1 [0,3,4,5] b Z<|G.freeze 1 Z fun _ _ K=>Ui 1 Z fun R b=>Uj (PtrTo.block (Mem.get K mup) _) U8<|Ut (pN _ N.m_ aa.m_) U7<|C6 1 [0,3,4,5,17] b Z<|G.cd (fun Q=>?_) fun Q=>?_
 ·have S:m<d:=by
   have:jO m d<0:=by simpa using Q
   exact je.1 this
  refine Ui 1 Z fun R b=>Us (j:=0) U12<|C6 1 [4,5] b Z<|Uv (VM (BD ag Z Z Z Z Z) ?_ Kn);refine ⟨Z,_,_,Z, ?_, ?_⟩
  ·rw [S3 S];exact NineC.zero _
  rw [TA S];exact N.mono mup
 have S:d<=m:=by
  have h:¬ jO m d<0:=by simpa using Q
  rw [je] at h;omega
 obtain ⟨n,hn⟩:∃ n,a.length=n:=⟨_,rfl⟩;refine Ul fun R b=>Uj (PtrTo.block (Mem.get K mup) _) U8<|C6 2 [0,3,4,5,21] b Z<|G.cd (fun ad=>?_) fun ad=>?_
 ·refine Ui 2 Z fun R b=>Vl U9 (Qz _) (by show 8*a.length<=281474976710656;omega) (by simp only [maxLen];omega) fl_ fun f=>Us (j:=1) U12<|Un [0,3,4] b Z<|Ul fun R b=>UB U5 fun k=>Us (j:=0) U12<|Un [0,3,4,6] b Z<|Ui 1 Z fun R b=>UR (CT _ A0 a.length c0) U7 fun aH _ _ ao=>Un [3,4,6,26] b Z ?_;obtain ⟨bb,rfl,ap⟩:=ao;refine Uz (L':=[.obj k (.cells ⟨[.int .u64 ((bB (a.drop (a.length-0)) % d:Nat):Int)]⟩ 285 (0,0)),.obj g (.cells ⟨[qU f a.length a.length]⟩ 271 (0,0)),.arr (qU f a.length a.length) 285 1 a.length ((List.replicate a.length 0).map cN).flatten]) (by rw [<- EO,Ty,RN,show bB []=0 from Z,Nat.zero_mod];rfl)<|G.rangeFunc Z Z Z kr_ (tx _ bb _ _ a ap O.m_ om_) (fun j e=>∃ (c:List Nat),(c.length=a.length/\Dig9 c/\bB (c.drop (a.length-j))=bB (a.drop (a.length-j)) / d)/\e=[.obj k (.cells ⟨[.int .u64 ((bB (a.drop (a.length-j)) % d:Nat):Int)]⟩ 285 (0,0)),.obj g (.cells ⟨[qU f a.length a.length]⟩ 271 (0,0)),.arr (qU f a.length a.length) 285 1 a.length (c.map cN).flatten]) ⟨List.replicate a.length 0,⟨Rb,(fun x o=>by rw [Sz o];decide),by rw [Ty,RN,Tw al];simp [bB]⟩,Z⟩ Z (fun _ _=>rfl) (fun u v=>[(3,[],.pointer (some ⟨b3,0,none⟩)),(4,[],.pointer (some ⟨g,0,none⟩)),(6,[],.pointer (some ⟨k,0,none⟩)),(7,[],u),(8,[],v)]) (fun l u v W1 e=>?_) (fun l j u v e W1 s U=>?_) (fun bD e s=>?_)
  ·exact Uh 1 [3,4,6,7,28] Z<|Uh 1 [3,4,6,7,8] Z<|Wm ⟨Z,Z,Z,Z,Z,trivial⟩
  ·obtain ⟨c,⟨I,L,B⟩,rfl⟩:=s;have aq:j<a.length:=by have:=(aL.1 U).1;rwa [fS] at this
   rw [vC aq] at U;cases U
   obtain ⟨i,hi⟩:∃ i,a.length-1-j=i:=⟨_,rfl⟩;have af:a.length-j=i+1:=by omega
   obtain ⟨T,hT⟩:∃ T,bB (a.drop (i+1))=T:=⟨_,rfl⟩;have au:=kW an.1 i;have aI:=Rj T H;have hX:T % d*B9+g9 a i<18446744073709551616:=by
    have:=Rq B9 (show T % d<=999999999 by omega);rw [p] at this ⊢;omega
   rw [hi,af,hT,show a.getD i 0=g9 a i from rfl];rw [af,hT] at B;have av:T % d*B9+g9 a i=g9 a i+B9*(T % d):=by rw [Rm,SP]
   have V:=sX (t:=T) (x:=g9 a i) H;have ah:=mB (t:=T) H au;rw [<- av] at V ah;refine Ul fun R b=>Uo ag U9<|D.int (((T % d*B9:Nat):Int)) U4 (by rw [show (1000000000:Int)=((B9:Nat):Int) from Z,<- Ra,IntKind.wrap_u64];omega) U2<|Uk U6<|D.int (((T % d*B9+g9 a i:Nat):Int)) U4 (by rw [IntKind.wrap_u64];omega) U2<|Us (j:=0) U12<|Un [3,4,6,7] b Z<|G.cut (fun fr W e X=>(True)/\fr=[]/\e=[.obj k (.cells ⟨[.int .u64 (((T % d*B9+g9 a i) % d:Nat):Int)]⟩ 285 (0,0)),.arr (qU f a.length a.length) 285 1 a.length (aD (c.map cN).flatten [Value.int .u64 (((T % d*B9+g9 a i) / d:Nat):Int)] (i*1)),.obj g (.cells ⟨[qU f a.length a.length]⟩ 271 (0,0))]) ?_ (fun fr aJ aK X aM s=>?_)
   ·refine Vd (.cut [0,1,2,3,4,5,6,8,9,10,12] (.alt 7 (.fin [11,13,14]) (.alt 13 (.fin [7,11,14]) .stop))) [] Z Z kr_ fun R p b w=>Uo ae U9<|Uk U6<|Uo ag U9<|Uj (PtrTo.block (Mem.get K mup) _) U8<|Uy F.m_ U10 om_ (rfl:([d].map cN)[(0:Int).toNat]?=some (cN d)) fl_ fun aN aw=>Uj aw U8<|Vn (T % d*B9+g9 a i) (d) U6 om_ (.inr ⟨Z,by omega⟩) U2<|Uj (PtrTo.block (Mem.get K mup) _) U8<|Uy F.m_ U10 om_ (rfl:([d].map cN)[(0:Int).toNat]?=some (cN d)) fl_ fun aO ax=>Uj ax U8<|UL (i*1) U10 ai U2<|UT w Z ⟨?_, ?_,trivial⟩
    ·first | refine Vk ag U9 ?_ | refine Vk ae U9 ?_
     refine Vc (T % d*B9+g9 a i) (d) U6 om_ U2<|UO (j:=2) U11 (by show i*1+1<=_;rw [bR eL,I];omega)<|Us (j:=1) U12<|Vp [] trivial (b _ _ _ Z ?_);clear b p w R;exact Ux 0 (Mem.le.refl _) (fr':=[]) trivial ⟨trivial,Z,Z⟩
    refine UO (j:=2) U11 (by show i*1+1<=_;rw [bR eL,I];omega) ?_
    first | refine Vk ag U9 ?_ | refine Vk ae U9 ?_
    refine Vc (T % d*B9+g9 a i) (d) U6 om_ U2<|Us (j:=1) U12<|Vp [] trivial (b _ _ _ Z ?_);clear b p w R;exact Ux 0 (Mem.le.refl _) (fr':=[]) trivial ⟨trivial,Z,Z⟩
   obtain ⟨_,rfl,rfl⟩:=s;refine G.perm (L':=[.obj k (.cells ⟨[.int .u64 (((T % d*B9+g9 a i) % d:Nat):Int)]⟩ 285 (0,0)),.obj g (.cells ⟨[qU f a.length a.length]⟩ 271 (0,0)),.arr (qU f a.length a.length) 285 1 a.length (aD (c.map cN).flatten [Value.int .u64 (((T % d*B9+g9 a i) / d:Nat):Int)] (i*1))]) (pkL [0,1,0] Z) ?_;have aj:bB (a.drop i)=g9 a i+B9*T:=by rw [fA om_,hT]
   have ay:bB (a.drop (a.length-(j+1))) % d=(T % d*B9+g9 a i) % d:=by rw [show a.length-(j+1)=i by omega,aj,V.2]
   exact Uz (L':=[.obj k (.cells ⟨[.int .u64 ((bB (a.drop (a.length-(j+1))) % d:Nat):Int)]⟩ 285 (0,0)),.obj g (.cells ⟨[qU f a.length a.length]⟩ 271 (0,0)),.arr (qU f a.length a.length) 285 1 a.length ((c.set i ((T % d*B9+g9 a i) / d)).map cN).flatten]) (by rw [ay,<- bK eL _ (by omega:i<c.length)];rfl)<|VW (R:=fun e=>∃ (c:List Nat),(c.length=a.length/\Dig9 c/\bB (c.drop (a.length-(j+1)))=bB (a.drop (a.length-(j+1))) / d)/\e=[.obj k (.cells ⟨[.int .u64 ((bB (a.drop (a.length-(j+1))) % d:Nat):Int)]⟩ 285 (0,0)),.obj g (.cells ⟨[qU f a.length a.length]⟩ 271 (0,0)),.arr (qU f a.length a.length) 285 1 a.length (c.map cN).flatten]) (QI _) ⟨c.set i ((T % d*B9+g9 a i) / d),⟨by simp [I],L.set ah,by rw [show a.length-(j+1)=i by omega,aj,lD om_,B,V.1];omega⟩,Z⟩
  obtain ⟨c,⟨I,L,B⟩,rfl⟩:=s;rw [fS,Tt,RR,RR,ab] at B;rw [fS,Tt,RR,ab];refine G.freezeArr 3 (c.map cN) rfl rfl (by intro r hr;obtain ⟨y,_,rfl⟩:=QE.1 hr;rfl) (by rw [ar,I]) fun Cq aP ak=>G.cut (fun fr W e X=>∃ (E z:Value),(NineC W E (m / d)/\NineC W z (m % d))/\fr=[(4,[],.pointer (some ⟨g,0,none⟩)),(5,[],z)]/\e=[.obj g (.cells ⟨[E]⟩ 271 (0,0)),.obj bD (.deferred (some [])),.obj k (.cells ⟨[.int .u64 ((m % d:Nat):Int)]⟩ 285 (0,0))]) ?_ (fun fr aQ aR X aS s=>?_)
  ·refine Vd (.cut [0,2] (.alt 1 (.fin [3,4,5,6]) (.alt 3 (.fin [1,4,5,6]) .stop))) [] Z Z kr_ fun R p b w=>Uo ac U9<|Uo ae U9<|UT w Z ⟨?_, ?_,trivial⟩
   ·refine UR (wc _ L ak.m_) U7 fun E az _ A=>UF [cN (m % d)] U12 fun aA aB _ Y=>UK (wc _ (l:=[m % d]) (fun x o=>by rw [QY.1 o];have:=Rj m H;omega) Y.m_) U7 fl_ (fun z aC _ J=>?_);obtain ⟨A7,m7,c7,rfl⟩:=A.form;refine Us (j:=2) U12<|Uk U6<|Un [4,5] b Z ?_;clear b p w R;rw [show bB [m % d]=m % d from (by show m % d+B9*0=m % d;omega)] at J;rw [B] at A;exact Ux 0 mup (hn_ [4,5] Z) ⟨_,z,⟨A.mono mup,J.mono mup⟩,Z,Z⟩
   refine UF [cN (m % d)] U12 fun aA aB _ Y=>UR (wc _ L ak.m_) U7 fun E az _ A=>UK (wc _ (l:=[m % d]) (fun x o=>by rw [QY.1 o];have:=Rj m H;omega) Y.m_) U7 fl_ (fun z aC _ J=>?_);obtain ⟨A7,m7,c7,rfl⟩:=A.form;refine Us (j:=2) U12<|Uk U6<|Un [4,5] b Z ?_;clear b p w R;rw [show bB [m % d]=m % d from (by show m % d+B9*0=m % d;omega)] at J;rw [B] at A;exact Ux 0 mup (hn_ [4,5] Z) ⟨_,z,⟨A.mono mup,J.mono mup⟩,Z,Z⟩
  obtain ⟨E,z,⟨am,aE⟩,rfl,rfl⟩:=s;refine G.perm (L':=[.obj bD (.deferred (some [])),.obj g (.cells ⟨[E]⟩ 271 (0,0)),.obj k (.cells ⟨[.int .u64 ((m % d:Nat):Int)]⟩ 285 (0,0))]) (pkL [1,0,0] Z) ?_;obtain ⟨A7,m7,c7,rfl⟩:=am.form;refine Uv (Wj (BD ag Z Z Z Z Z) ?_);exact ⟨Z,_,_,Z,am,aE⟩
 exact absurd ad dc_
theorem vY (h:Dig9 l)(a:k<=l.length):bB l / B9 ^ k=bB (l.drop k):=by
 have e:bB l=bB (l.take k)+B9 ^ k*bB (l.drop k):=by
  conv=>lhs;rw [<- RB k l]
  rw [fE,QO,RD a]
 have h1:=iU (h.take k);rw [QO,RD a] at h1;rw [e,TB _ _ (S7 dc_),S3 h1,RK]
theorem uT {b a:List Nat}(f:yH b)(c:yH a)(j:0<a.length)(m:a.length<=b.length):bB b / bB a<=bB (b.drop (a.length-1)) / g9 a (a.length-1)/\0<g9 a (a.length-1):=by
 have d:bB (a.drop (a.length-1))=g9 a (a.length-1):=by
  rw [fA om_,show a.length-1+1=a.length by omega,RN];show _+B9*0=_;omega
 have h1:=vY c.1 (k:=a.length-1) om_;have h2:=vY f.1 (k:=a.length-1) om_;have e:0<g9 a (a.length-1):=by
  rcases RM (g9 a (a.length-1)) with h | h
  ·have h3:=xI (l:=a) (i:=a.length-1) om_;rw [h] at h3;exact absurd (by rw [SU];exact h3) c.2
  exact h
 refine ⟨?_,e⟩;rw [<- h2,<- d,<- h1,Nat.div_div_eq_div_mul];have g:0<B9 ^ (a.length-1):=S7 dc_;rw [d] at h1;refine Nat.div_le_div_left (Nat.mul_div_le _ _) ?_;rw [h1];exact S8 g e
theorem Ci (h:l.length=k+1):bB (l.drop k)=g9 l k:=by
 rw [fA om_,show k+1=l.length by omega,RN];show _+B9*0=_;omega
theorem J2 (h:l.length=k+2):bB (l.drop k)=g9 l (k+1)*B9+g9 l k:=by
 rw [fA om_,Ci (k:=k+1) om_,Rm];omega
theorem zY (c:yH a)(d:yH b)(h:bB b<=bB a):b.length<=a.length:=by
 rcases Q1 a.length b.length with h1 | h1
 ·have:=uK c.1 d h1;omega
 exact h1
theorem yu (c:yH a)(d:yH b)(h:bB a<B9*bB b):a.length<=b.length+1:=by
 have h2:=iU d.1;refine tw c (RI h ?_);rw [RX,Rm];exact Rq _ (TG h2)
theorem jJ {f:Nat}(a:m<B9 ^ k)(b:f<B9):m*f<B9 ^ (k+1):=by
 rw [RX];exact Si a b
theorem PG {a:Nat}(h:x<B9*a)(b:a<B9 ^ k):x<B9 ^ (k+1):=by
 rw [RX,Rm _ B9];exact SM h (Nat.mul_lt_mul_of_pos_left b dc_)
theorem KS (l:List Nat):(l.map cN).all (fun r=>r.all lQ)=true:=by
 rw [List.all_map,QX];intro x _;rfl
theorem Ed (C:Mem)(va vb:Value)(m n:Nat)(ha:NineC C va m)(hb:NineC C vb n)(hm:m<B9 ^ 100000)(aG:B9<=n) :
  Pur cx.P 227 [va,vb] C fun u D=>∃ q r,u=.tuple #[q,r]/\NineC D q (m / n)/\NineC D r (m % n):=by
 have aH:0<n:=RI dc_ aG;have ad:=ha;have af:=hb;obtain ⟨B,Q,bE,ah⟩:=hb;obtain ⟨A0,a0,c0,rfl⟩:=ha.form;obtain ⟨B0,d0,rfl,a2,bF,_⟩:=id ah;simp only [ar] at ah af a2 ⊢;have bG:maxLen<=9223372036854775807:=by simp [maxLen]
 have S:=B9v;have bH:2<=B.length:=by
  rcases Q1 B.length 2 with h | h
  ·have h2:=iU Q.1;have h3:B9 ^ B.length<=B9 ^ 1:=QZ dc_ om_;rw [Nat.pow_one] at h3;omega
  exact h
 refine VI kr_ func227 Z 146 Z Z (fun w0=>?_);refine Ul fun R a=>?_;refine UC U6 (fun b3=>?_);refine UB U5 (fun e=>?_);refine C6 1 [0,3,4,5] a Z ?_;clear a R;refine Ui 1 Z fun R a=>?_
 skip
 refine Uo ae U9 ?_;refine Ut (pN _ ad.m_ af.m_) U7 ?_;refine C6 1 [0,3,4,5,17] a Z ?_;clear a R;refine G.cd (fun ai=>?_) fun ai=>?_
 ·have U:m<n:=by
   have:jO m n<0:=by simpa using ai
   exact je.1 this
  refine Ui 1 Z fun R a=>?_;refine Us (j:=0) U12 ?_;refine C6 1 [4,5] a Z ?_;clear a R;refine Uv (VM (BD ag Z Z Z Z Z) ?_ Kn);refine ⟨Z,_,_,Z, ?_, ?_⟩
  ·rw [S3 U];exact NineC.zero _
  rw [TA U];exact ad.mono mup
 have U:n<=m:=by
  have h:¬ jO m n<0:=by simpa using ai
  rw [je] at h;omega
 refine Ul fun R a=>?_;refine Uo ae U9 ?_;refine C6 2 [0,3,4,5,21] a Z ?_;clear a R;refine G.cd (fun aI=>?_) fun aI=>?_
 ·exact absurd aI ap
 have bI:=kW Q.1 (B.length-1);have a3:(B.map cN)[((B.length:Int)-1).toNat]?=some (cN (g9 B (B.length-1))):=by
  rw [show ((B.length:Int)-1).toNat=B.length-1 by omega];exact jq om_
 obtain ⟨f,hf⟩:∃ f,B9 / (g9 B (B.length-1)+1)=f:=⟨_,rfl⟩;refine Ul fun R a=>?_;refine Uo ae U9 ?_;refine Uo ae U9 ?_;refine Uk U6 ?_;refine Uq _ Z U6 ?_;refine Uy ah.m_ U10 om_ a3 fl_ (fun bJ a4=>?_);refine Uj a4 U8 ?_;refine D.int (((g9 B (B.length-1)+1:Nat):Int)) U4 (by rw [IntKind.wrap_u64];omega) U2 ?_;refine Vn (B9) (g9 B (B.length-1)+1) U6 om_ (.inr ⟨Z,by omega⟩) U2 ?_;refine C6 1 [0,3,4,5,9] a Z ?_;clear a R;rw [hf];have w:0<f:=by rw [<- hf];exact Nat.div_pos om_ om_
 have o:f<B9:=by
  rw [<- hf];have h1:=(uT Q Q om_ (Qz _)).2;exact Nat.div_lt_self dc_ om_
 have y:n<B9 ^ 100000:=Rw U hm;refine UD [0,1,3,4,2,5,6,7] [] Z kr_ (fun R S a=>?_);refine Um 2 Z ?_;refine Uo ae U9 ?_;refine Uk U6 ?_;refine UK (yQ (k:=100000) _ ad.m_ hm o om_) U7 fl_ (fun bL _ _ a5=>?_);refine UK (yQ (k:=100000) _ af.m_ y o om_) U7 fl_ (fun bM _ a6 aJ=>?_);refine Uk U6 ?_;obtain ⟨a7,bN,a8,rfl⟩:=aJ.form;refine Us (j:=1) U12 ?_;refine Un [0,3,4,5,9] a Z ?_;clear a S R;have aK:=a5.mono a6;have aL:=aJ;refine G.freeze 0 Z (fun C3 aM v=>?_);obtain ⟨P,a9,aj,bO,ak⟩:=(aK.mono aM).get (jJ hm o);obtain ⟨W,p,z,bP,V⟩:=(aL.mono aM).get (jJ y o);obtain ⟨PA,pc,rfl,_⟩:=id ak;obtain ⟨bQ,bS,ba,_⟩:=id V;cases ba
 simp only [ar] at ak V v aK aL ⊢;have am:NineC C3 (.slice a7 W.length a8) (n*f):=⟨W,p,z,V⟩;have A:0<n*f:=S8 aH w;have an:n*f<B9 ^ 100001:=dG (k:=100001) (n:=100000+1) (jJ (k:=100000) y o) (Qz _);have bT:2<=W.length:=by
  have h1:B9<=bB W:=by rw [z];exact QW aG (S2 _ w)
  rcases Q1 W.length 2 with h | h
  ·have h2:=iU p.1;have h3:B9 ^ W.length<=B9 ^ 1:=QZ dc_ om_;rw [Nat.pow_one] at h3;omega
  exact h
 have bU:1<=P.length:=by
  rcases RM P.length with h | h
  ·have:P=[]:=Rt h;subst this;have h1:m*f=0:=by rw [<- aj];rfl
   have h2:0<m*f:=S8 om_ w;omega
  exact h
 have bb:=(uT p p om_ (Qz _)).2;have bV:=kW p.1 (W.length-1);refine Ui 2 Z fun R a=>?_;refine Vl U9 (Qz _) (by show 8*P.length<=281474976710656;omega) (by simp only [maxLen];omega) fl_ (fun d=>?_);refine Us (j:=1) U12 ?_;refine Un [0,3,4,5,9] a Z ?_;clear a R;refine Ul fun R a=>?_;refine Uj (PtrTo.block (Mem.get v mup) _) U8 ?_;refine Uj (PtrTo.block (Mem.get v mup) _) U8 ?_;refine Uk U6 ?_;refine Uq _ Z U6 ?_;refine Uy V.m_ U10 om_ (by rw [show ((W.length:Int)-1).toNat=W.length-1 by omega];exact jq om_:(W.map cN)[((W.length:Int)-1).toNat]?=some (cN (g9 W (W.length-1)))) fl_ (fun bW bc=>?_);refine Uj bc U8 ?_;refine C6 1 [0,3,4,5,9,10] a Z ?_;clear a R;refine Ui 2 Z fun R a=>?_;refine Uq _ Z U6 ?_;refine C6 1 [0,3,4,5,9,10,11] a Z ?_;clear a R;refine Uz (L':=[.obj e (.cells ⟨[qU d P.length P.length]⟩ 271 (0,0)),.arr (qU d P.length P.length) 285 1 P.length ((List.replicate P.length 0).map cN).flatten]) (by rw [<- EO];rfl) ?_;refine G.loop (fun fr Y g E=>∃ (i:Nat)(c:List Nat)(v5:Value),(i<=P.length/\c.length=P.length/\Dig9 c/\bB (c.drop i)=bB (P.drop i) / (n*f)/\NineC Y v5 (bB (P.drop i) % (n*f))/\∀ j,j<i->g9 c j=0)/\fr=[(0,[],.slice PA P.length pc),(3,[],.pointer (some ⟨b3,0,none⟩)),(4,[],.pointer (some ⟨e,0,none⟩)),(5,[],v5),(9,[],.int .u64 f),(10,[],.int .u64 (g9 W (W.length-1))),(11,[],.int .i64 ((i:Int)-1))]/\g=[.obj e (.cells ⟨[qU d P.length P.length]⟩ 271 (0,0)),.arr (qU d P.length P.length) 285 1 P.length (c.map cN).flatten]/\E=i+1) (hn_ [0,3,4,5,9,10,11] Z) ⟨P.length,List.replicate P.length 0,_,⟨Qz _,Rb,(fun x hx=>by rw [Sz hx];decide),by rw [RN,Tw al];simp [bB],by rw [RN,show bB []=0 from Z,Nat.zero_mod];exact NineC.zero _,fun j _=>Cp _ j⟩,Z,Z,Z⟩ (fun fr bX bY m _ F=>?_);obtain ⟨i,c,v5,⟨hi,aa,ao,H,ab,aq⟩,rfl,rfl,rfl⟩:=F;refine Uh 2 [0,3,4,5,9,10,11,78] Z ?_;refine G.cd (fun au=>?_) fun au=>?_
 ·have aN:0<i:=by
   have:(0:Int)<=(i:Int)-1:=by simpa using au
   omega
  obtain ⟨j,rfl⟩:∃ j,i=j+1:=⟨i-1,by omega⟩;obtain ⟨T,hT⟩:∃ T,bB (P.drop (j+1))=T:=⟨_,rfl⟩;rw [hT] at H ab;have aO:=Rj T A;obtain ⟨I,bd,be,bZ,aP⟩:=ab.get (m:=100001) (SM aO (dG (k:=100001) (n:=100000+1) (jJ (k:=100000) y o) (Qz _)));obtain ⟨RA,rc,aQ,_⟩:=id aP;rw [ar] at aQ;subst aQ;obtain ⟨X,hX⟩:∃ X,g9 P j+B9*(T % (n*f))=X:=⟨_,rfl⟩;have aR:=kW a9.1 j;have bf:bB (g9 P j::I)=X:=by rw [bB,be,hX]
  have J:=sX (t:=T) (x:=g9 P j) A;have bg:=mB (t:=T) A aR;rw [hX] at J bg;have ac:bB (P.drop j)=g9 P j+B9*T:=by rw [fA om_,hT]
  refine UI [(7,3)] Z (fun R a=>?_);refine Um 2 Z ?_;refine Uy ak.m_ U10 om_ (by rw [show ((((j+1:Nat):Int)-1)).toNat=j by omega];exact jq om_:(P.map cN)[((((j+1:Nat):Int)-1)).toNat]?=some (cN (g9 P j))) fl_ (fun b0 bh=>?_);refine Uj bh U8 ?_;refine Vq [cN (g9 P j)] U12 fl_ (fun b1=>?_);refine Uk U6 ?_;refine D.append (j:=0) U11 aP.m_ (KS I) (by simp only [ar,QA,maxLen];omega) (by simp only [ar,QA];omega) fl_ (fun b2=>?_);refine D.call (gw _ _ (g9 P j::I) (n:=1+(I.map cN).length) (by rw [ar];simp;omega)) Z (.inr dc_) U6 (QI _) fl_ (fun bi bj b5 _ bk=>?_);refine C6 1 [0,3,4,5,9,10,11] a Z ?_;clear a R;obtain ⟨rfl,hu⟩:=bk;have K:NineC bj bi X:=⟨EN (g9 P j::I),iD (fun x hx=>(QQ.1 hx).elim (fun h=>by rw [h];exact aR) (bd.1 x)),by rw [iC,bf],hu⟩;have aS:X<B9*(n*f):=by
   have h1:B9*(T % (n*f)+1)<=B9*(n*f):=R3 _ aO;rw [RH] at h1;omega
  have aT:X<B9 ^ 100002:=dG (k:=100002) (n:=100001+1) (PG (k:=100001) aS an) (Qz _);obtain ⟨b,L,av,b6,aw⟩:=K.get aT;obtain ⟨XA,xc,aU,_⟩:=id aw;rw [ar] at aU;subst aU;refine Ui 1 Z fun R a=>?_;refine Uj (PtrTo.block (Mem.get v mup) _) U8 ?_;refine Ut (pN _ K.m_ am.m_) U7 ?_;refine C6 1 [0,3,4,5,9,10,11,92] a Z ?_;clear a R;refine G.cd (fun ax=>?_) fun ax=>?_
  ·have aV:X<n*f:=by
    have:jO X (n*f)<0:=by simpa using ax
    exact je.1 this
   refine Ui 1 Z fun R a=>?_;refine Uq _ Z U6 ?_;refine C6 1 [0,3,4,5,9,10,11] a Z ?_;clear a R;rw [show ((j+1:Nat):Int)-1-1=(j:Int)-1 by omega];refine Uw (m':=j+1) om_ mup (hn_ [0,3,4,5,9,10,11] Z) ⟨j,c,_,⟨by omega,aa,ao,by rw [fA (l:=c) om_,aq j om_,H,ac,J.1,S3 aV];omega,by rw [ac,J.2,TA aV];exact K.mono mup,fun j' h=>aq j' om_⟩,Z,Z,Z⟩
  have bl:n*f<=X:=by
   have h:¬ jO X (n*f)<0:=by simpa using ax
   rw [je] at h;omega
  have bm:=zY L p (by rw [av,z];exact bl);have b7:=yu L p (by rw [av,z];exact aS);have ay:=(uT L p om_ bm).1;obtain ⟨s,az⟩:∃ s,bB (b.drop (W.length-1))=s:=⟨_,rfl⟩;rw [av,z,az] at ay;have b8:=kW L.1 (b.length-1);have b9:=kW L.1 (b.length-2);refine Ui 3 Z fun R a=>?_;refine Uq _ Z U6 ?_;refine Uy aw.m_ U10 om_ (by rw [show ((b.length:Int)-1).toNat=b.length-1 by omega];exact jq om_:(b.map cN)[((b.length:Int)-1).toNat]?=some (cN (g9 b (b.length-1)))) fl_ (fun ca bn=>?_);refine Uj bn U8 ?_;refine C6 1 [0,3,4,5,9,10,11,12] a Z ?_;clear a R;refine Ui 2 Z fun R a=>?_;refine Uj (PtrTo.block (Mem.get v mup) _) U8 ?_;refine C6 2 [0,3,4,5,9,10,11,12,103] a Z ?_;clear a R;refine G.cut (fun fr Y g E=>(s<1000000000000000000)/\fr=[(0,[],.slice PA P.length pc),(3,[],.pointer (some ⟨b3,0,none⟩)),(4,[],.pointer (some ⟨e,0,none⟩)),(5,[],.slice XA b.length xc),(9,[],.int .u64 f),(10,[],.int .u64 (g9 W (W.length-1))),(11,[],.int .i64 (((j+1:Nat):Int)-1)),(12,[],.int .u64 (s:Nat))]/\g=[.obj e (.cells ⟨[qU d P.length P.length]⟩ 271 (0,0)),.arr (qU d P.length P.length) 285 1 P.length (c.map cN).flatten]) ?_ (fun fr _ cb E _ F=>?_)
  ·refine G.cd (fun aA=>?_) fun aA=>?_
   ·have bo:b.length=W.length-1+2:=by
     have:(W.length:Int)<(b.length:Int):=by simpa using aA
     omega
    have M:=J2 bo;rw [az,show W.length-1+1=b.length-1 by omega,show W.length-1=b.length-2 by omega] at M;have bp:g9 b (b.length-1)*B9<=999999999*B9:=Rq _ om_;rw [show 999999999*B9=999999999000000000 from rfl] at bp;refine Ui 1 Z fun R a=>?_;refine D.int (((g9 b (b.length-1)*B9:Nat):Int)) U4 (by rw [show (1000000000:Int)=((B9:Nat):Int) from Z,<- Ra,IntKind.wrap_u64];omega) U2 ?_;refine Um 3 Z ?_;refine Uq _ Z U6 ?_;refine Uy aw.m_ U10 om_ (by rw [show ((b.length:Int)-2).toNat=b.length-2 by omega];exact jq om_:(b.map cN)[((b.length:Int)-2).toNat]?=some (cN (g9 b (b.length-2)))) fl_ (fun cc bq=>?_);refine Uj bq U8 ?_;refine D.int (((s:Nat):Int)) U4 (by rw [M,IntKind.wrap_u64];omega) U2 ?_;refine C6 1 [0,3,4,5,9,10,11,12] a Z ?_;clear a R;refine Ux 0 mup (hn_ [0,3,4,5,9,10,11,12] Z) ⟨by omega,Z,Z⟩
   have br:b.length=W.length-1+1:=by
    have:¬ (W.length:Int)<(b.length:Int):=by simpa using aA
    omega
   have M:=Ci br;rw [az,show W.length-1=b.length-1 by omega] at M;rw [<- M];refine Ux 0 mup (hn_ [0,3,4,5,9,10,11,12] Z) ⟨by omega,Z,Z⟩
  obtain ⟨ce,rfl,rfl⟩:=F;obtain ⟨N,aB⟩:∃ N,s / g9 W (W.length-1)=N:=⟨_,rfl⟩;rw [aB] at ay;have cf:N<=s:=by rw [<- aB];exact RG _ _
  refine Ui 2 Z fun R a=>?_;refine Vn (s) (g9 W (W.length-1)) U6 bb (.inr ⟨Z,by omega⟩) U2 ?_;rw [aB];refine D.min (((min N 999999999:Nat):Int)) U6 om_ U2 ?_;refine C6 1 [0,3,4,5,9,10,11,12] a Z ?_;clear a R;refine Ul fun R a=>?_;refine Uj (PtrTo.block (Mem.get v mup) _) U8 ?_;refine Uk U6 ?_;refine UK (yQ (k:=100001) _ am.m_ an om_ om_) U7 fl_ (fun bs _ _ bt=>?_);refine C6 1 [0,3,4,5,9,10,11,12,13] a Z ?_;clear a R;refine G.loop (fun fr Y g E=>∃ (dd:Nat)(aC:Value),(X / (n*f)<=dd/\dd<B9/\NineC Y aC (n*f*dd))/\fr=[(0,[],.slice PA P.length pc),(3,[],.pointer (some ⟨b3,0,none⟩)),(4,[],.pointer (some ⟨e,0,none⟩)),(5,[],.slice XA b.length xc),(9,[],.int .u64 f),(10,[],.int .u64 (g9 W (W.length-1))),(11,[],.int .i64 (((j+1:Nat):Int)-1)),(12,[],.int .u64 (dd:Nat)),(13,[],aC)]/\g=[.obj e (.cells ⟨[qU d P.length P.length]⟩ 271 (0,0)),.arr (qU d P.length P.length) 285 1 P.length (c.map cN).flatten]/\E=dd+1) (hn_ [0,3,4,5,9,10,11,12,13] Z) ⟨min N 999999999,bs,⟨by have h:=Nat.le_min.2 ⟨ay,(by omega:X / (n*f)<=999999999)⟩;exact h,by omega,bt.mono mup⟩,Z,Z,Z⟩ (fun fr cg ch m _ F=>?_);obtain ⟨dd,aC,⟨bu,aW,aE⟩,rfl,rfl,rfl⟩:=F;refine Ui 2 Z fun R a=>?_;refine Ut (pN _ aE.m_ K.m_) U7 ?_;refine C6 1 [0,3,4,5,9,10,11,12,13,123] a Z ?_;clear a R;refine G.cd (fun aF=>?_) fun aF=>?_
  ·have O:X<n*f*dd:=by
    have:0<jO (n*f*dd) X:=by simpa using aF
    exact Gi.1 this
   have bv:1<=dd:=by
    rcases RM dd with h | h
    ·rw [h] at O;omega
    exact h
   refine Ui 1 Z fun R a=>?_;refine Uj (PtrTo.block (Mem.get v mup) _) U8 ?_;refine UK (uF (k:=100002) _ aE.m_ am.m_ (dG (k:=100002) (n:=100001+1) (jJ (k:=100001) an aW) (Qz _)) (S2 _ bv) om_) U7 fl_ (fun bw _ _ aX=>?_);refine C6 1 [0,3,4,5,9,10,11,12,13] a Z ?_;clear a R;refine Ui 1 Z fun R a=>?_;refine D.int (((dd-1:Nat):Int)) U4 (by rw [IntKind.wrap_u64];omega) U2 ?_;refine C6 1 [0,3,4,5,9,10,11,12,13] a Z ?_;clear a R;rw [show n*f*dd-n*f=n*f*(dd-1) from by rw [Nat.mul_sub,RY]] at aX;refine Uw (m':=dd-1+1) om_ mup (hn_ [0,3,4,5,9,10,11,12,13] Z) ⟨dd-1,bw,⟨by have h:=(Sy A).2 (by rw [Rm];exact O);omega,by omega,aX.mono mup⟩,Z,Z,Z⟩
  have O:n*f*dd<=X:=by
   have h:¬ 0<jO (n*f*dd) X:=by simpa using aF
   rw [Gi] at h;omega
  have aY:dd=X / (n*f):=Nat.le_antisymm ((Nat.le_div_iff_mul_le A).2 (by rw [Rm];exact O)) bu;have bx:X-n*f*dd=X % (n*f):=by rw [aY];have:=TE X (n*f);omega
  refine UD [0,1,2,3,4,5,6,7,8] [] Z kr_ (fun R S a=>?_);refine Uo ag U9 ?_;refine Um 4 Z ?_;refine UK (uF (k:=100002) _ K.m_ aE.m_ aT O om_) U7 fl_ (fun bz _ _ aZ=>?_);refine UL (j*1) U10 (fun _=>⟨by omega,by omega,(by rw [show (((j+1:Nat):Int)-1).toNat=j by omega])⟩) U2 ?_;refine UO (j:=1) U11 (by show j*1+1<=_;rw [bR eL,aa];omega) ?_;refine Uk U6 ?_;refine Un [0,3,4,5,9,10,11] a Z ?_;clear a S R;refine Ui 1 Z fun R a=>?_;refine Uq _ Z U6 ?_;refine C6 1 [0,3,4,5,9,10,11] a Z ?_;clear a R;rw [show ((j+1:Nat):Int)-1-1=(j:Int)-1 by omega];refine G.perm (L':=[.obj e (.cells ⟨[qU d P.length P.length]⟩ 271 (0,0)),.arr (qU d P.length P.length) 285 1 P.length (aD (c.map cN).flatten (cN dd) (j*1))]) (List.Perm.swap _ _ _) ?_;refine Uz (L':=[.obj e (.cells ⟨[qU d P.length P.length]⟩ 271 (0,0)),.arr (qU d P.length P.length) 285 1 P.length ((c.set j dd).map cN).flatten]) (by rw [<- bK eL _ (by omega:j<c.length)]) ?_;rw [bx] at aZ;refine Uw (m':=j+1) om_ mup (hn_ [0,3,4,5,9,10,11] Z) ⟨j,c.set j dd,bz,⟨by omega,by simp [aa],ao.set aW,by rw [lD om_,H,ac,J.1,aY];omega,by rw [ac,J.2];exact aZ.mono mup,fun j' h=>by rw [qC om_];exact aq j' om_⟩,Z,Z,Z⟩
 have aN:i=0:=by
  have:¬ (0:Int)<=(i:Int)-1:=by simpa using au
  omega
 subst aN;rw [RR,RR,aj,Nat.mul_div_mul_right _ _ w] at H;rw [RR,aj,Nat.mul_mod_mul_right] at ab;refine Ui 2 Z fun R a=>?_;refine UF [cN f] U12 (fun ci _ _ bA=>?_);refine UK (sV _ _ _ (m % n*f) f ab.m_ (by
  have h1:=jJ (k:=100000) (SM (Rj m aH) y) o;exact dG (k:=200000) (n:=100000+1) h1 dc_) bA.m_ w o) U7 fl_ (fun cj _ _ bC=>?_)
 obtain ⟨q2,r2,rfl,a1,ck⟩:=bC;rw [Nat.mul_div_cancel _ w] at a1;refine C6 4 [4,5] a Z ?_;clear a R;refine G.perm (L':=[.arr (qU d P.length P.length) 285 1 P.length (c.map cN).flatten,.obj e (.cells ⟨[qU d P.length P.length]⟩ 271 (0,0))]) (List.Perm.swap _ _ _) ?_;refine UI [(1,3)] Z (fun R a=>?_);refine Uo ae U9 ?_;refine D.call (gw _ _ c aa) Z (.inr dc_) U6 (QI _) fl_ (fun cl _ cm _ bD=>?_);refine Uk U6 ?_;obtain ⟨rfl,hu⟩:=bD;obtain ⟨Au,cu,rfl,_⟩:=id hu;refine Us (j:=0) U12 ?_;refine C6 1 [4,5] a Z ?_;clear a R;refine Uv (VM (BD ag Z Z Z Z Z) ?_ Kn);exact ⟨Z,_,_,Z,⟨EN c,iD ao,by rw [iC,H],hu⟩,a1.mono mup⟩
theorem yc (C:Mem)(a b:Value)(m n:Nat)(g:NineC C a m)(h:NineC C b n)(i:m<B9 ^ 100000)(f:0<n) :
  Pur cx.P 227 [a,b] C fun u D=>∃ q r,u=.tuple #[q,r]/\NineC D q (m / n)/\NineC D r (m % n):=by
 rcases Q1 n B9 with c | c
 ·obtain ⟨l,h1,h2,h3,h4⟩:=h.get (m:=1) (by rw [Nat.pow_one];exact c);have j:l≠[]:=fun e=>by rw [e] at h2;rw [<- h2] at f;exact absurd f dc_
  obtain ⟨d,rfl⟩:∃ d,l=[d]:=by
   cases l with
   | nil=>exact absurd rfl j
   | cons d l=>cases l with
    | nil=>exact ⟨d,rfl⟩
    | cons e l=>simp at h3
  have o:d=n:=by rw [<- h2];show d=d+B9*0;omega
  subst o;exact sV C a b m d g (dG (k:=200000) (n:=100000) i dc_) h4 f c
 exact Ed C a b m n g h i c
theorem Kb (C:Mem)(s:Str)(c:UInt8):Gives cx.P 250 [af s,af [c]] C (.bool (cJ c s).2):=by
 exact Ur func250 8 U3 fun w0=>Uh 1 [0,1] Z<|Ui 2 Z fun R a=>Ut (zx _ s c) U7<|C6 1 [4] a Z<|Up U2<|⟨Z,Z⟩
theorem E5 (C:Mem)(s:Str)(c:UInt8):Gives cx.P 277 [af s,af [c]] C (af (cJ c s).1):=by
 refine Ur func277 13 U3 fun w0=>Uh 1 [0,1] Z<|Ui 2 Z fun R d=>Ut (zx _ s c) U7<|Un [0,1,7] d Z<|G.cd (fun a=>?_) fun a=>?_
 ·have h:s.head?=some c:=Q5 fun h=>by unfold cJ at a;rw [aF h] at a;cases a
  have e:1<=s.length:=by cases s with
   | nil=>cases h
   | cons b s=>simp
  refine Ui 3 Z fun R d=>Vf 1 s.length U9 (fun _=>⟨.inr ⟨_,Z⟩,.inl ⟨Z,Z⟩,.inl ⟨Z,Z⟩,by omega,Qz _,Qz _⟩) U2<|C6 1 [4] d Z<|Up U2 ?_;unfold cJ;rw [aJ h];refine ⟨?_,Z⟩;rw [QM,List.drop_one];rfl
 have h:¬ s.head?=some c:=fun h=>by unfold cJ at a;rw [aJ h] at a;cases a
 refine Uh 2 [4] Z<|Up U2 ?_;unfold cJ;rw [aF h];exact ⟨Z,Z⟩
theorem AZ (C:Mem)(s:Str)(c:UInt8):Gives cx.P 225 [af s,af [c]] C (af (cJ c s).1):=by
 exact Ur func225 8 U3 fun w0=>Uh 1 [0,1] Z<|Ui 2 Z fun R a=>Ut (E5 _ s c) U7<|C6 1 [4] a Z<|Up U2<|⟨Z,Z⟩
def eH (z:Int):Int:=if z<0 then -1 else if z=0 then 0 else 1
theorem me (C:Mem)(z:Int):Gives cx.P 186 [af (txt z)] C (.int .i64 (eH z)):=by
 refine Ur func186 9 U3 fun w0=>Uh 1 [0] Z ?_
 skip
 refine Uh 3 [0,3] Z<|G.cd (fun h3=>?_) fun h3=>?_
 ·have b:z=0:=by
   have h:=lE z;rw [h] at h3;exact PZ h3
  exact Uh 1 [2] Z<|Up U2<|⟨by rw [b];rfl,Z⟩
 have b:z≠0:=by
  have h:=lE z;rw [h] at h3;exact QF h3
 refine Ui 1 Z fun R d=>Ut (Kb _ (txt z) 45) U7<|C6 1 [6] d Z<|G.cd (fun a=>?_) fun a=>?_
 ·have c:z<0:=by
   rw [dJ] at a;exact PZ a
  exact Uh 1 [2] Z<|Up U2<|⟨by rw [eH,aJ c],Z⟩
 have c:¬ z<0:=by
  rw [dJ] at a;exact QF a
 exact Uh 1 [2] Z<|Up U2<|⟨by rw [eH,aF c,aF b],Z⟩
theorem sG (C:Mem)(a:Tabs C)(z:Int)(b:-9223372036854775808<=z)(c:z<=9223372036854775807):Gives cx.P 185 [.int .i64 z] C (af (txt z)):=by
 exact Ur func185 5 U3 fun w0=>Uh 1 [0] Z<|Ui 1 Z fun R d=>Ut (fO _ a.m_ z b c) U7<|C6 1 [2] d Z<|Up U2<|⟨Z,Z⟩
theorem iV (z:Int):(txt z).length<=(bj z.natAbs).length+1:=by unfold txt;split <;> simp
theorem uN (C:Mem)(z:Int)(e:(bj z.natAbs).length<=1000000):Gives cx.P 133 [af (txt z)] C (af (txt (-z))):=by
 have f:=iV z;refine Ur func133 14 U3 fun w0=>Uh 1 [0] Z<|Ui 1 Z fun R a=>Ut (me _ z) U7<|Un [0,4] a Z<|Uh 2 [0,4,5] Z<|G.cd (fun h5=>?_) fun h5=>?_
 ·have d:0<z:=by
   have h:eH z=1:=by simpa using h5
   unfold eH at h;split at h
   ·cases h
   split at h
   ·cases h
   omega
  refine Ui 1 Z fun R a=>Vb U6 (fun _=>(by simp only [QT,Re];omega)) U2<|C6 1 [2] a Z<|Up U2<|⟨?_,Z⟩;unfold txt;rw [aF om_,aJ om_,TM];rfl
 have d:¬ 0<z:=fun h=>by
  have h2:eH z=1:=by unfold eH;rw [aF om_,aF om_]
  rw [h2] at h5;cases h5
 refine Uh 2 [0,9] Z<|G.cd (fun b=>?_) fun b=>?_
 ·have c:z<0:=by
   have h:eH z=-1:=by simpa using b
   unfold eH at h;split at h
   ·assumption
   split at h <;> cases h
  refine Ui 1 Z fun R a=>Vf 1 (txt z).length U9 (fun _=>⟨.inr ⟨_,Z⟩,.inl ⟨Z,Z⟩,.inl ⟨Z,Z⟩,(by unfold txt;rw [aJ c];simp),Qz _,Qz _⟩) U2<|C6 1 [2] a Z<|Up U2<|⟨?_,Z⟩;rw [QM];unfold txt;rw [aJ c,aF om_,TM];rfl
 have c:¬ z<0:=fun h=>by
  have h2:eH z=-1:=by unfold eH;rw [aJ h]
  rw [h2] at b;cases b
 refine Uh 2 [2] Z<|Up U2<|⟨?_,Z⟩;rw [show z=0 by omega];rfl
theorem HP:∀ {s t:Str},(∀ c∈s,eG c=true)->(∀ c∈t,eG c=true)->s.length=t.length->Lib.compareBytes s t=jO (bP s) (bP t)
 | [],[],_,_,_=>rfl
 | [],_::_,_,_,h=>by simp at h
 | _::_,[],_,_,h=>by simp at h
 | c::s,d::t,hs,g,k=>by
  have e:s.length=t.length:=by simpa using k
  have i:∀ x∈s,eG x=true:=fun x f=>hs x (by simp [f]);have j:∀ x∈t,eG x=true:=fun x f=>g x (by simp [f]);have l:=HP i j e;have h1:=dz i;have h2:=dz j;have m:=hs c al;have n:=g d al;simp only [eG,QK] at m n;rw [dK,dK,e];rw [e] at h1;simp only [Lib.compareBytes];obtain ⟨p,o⟩:∃ p,10 ^ t.length=p:=⟨_,rfl⟩;rw [o] at h1 h2 ⊢;by_cases a:c<d
  ·rw [aJ a];have r:c.toNat<d.toNat:=a;have h3:(c.toNat-48+1)*p<=(d.toNat-48)*p:=Rq _ om_;rw [Sd] at h3;unfold jO;rw [aJ om_]
  rw [aF a];by_cases b:d<c
  ·rw [aJ b];have u:d.toNat<c.toNat:=b;have h3:(d.toNat-48+1)*p<=(c.toNat-48)*p:=Rq _ om_;rw [Sd] at h3;unfold jO;rw [aF om_,aJ om_]
  rw [aF b,l];have q:c.toNat=d.toNat:=by
   have h3:¬ c.toNat<d.toNat:=a;have h4:¬ d.toNat<c.toNat:=b;omega
  rw [q];unfold jO;split <;> rename_i h5
  ·rw [aJ om_]
  split <;> rename_i v
  ·rw [aF om_,aJ om_]
  rw [aF om_,aF om_]
theorem qN {a b:Nat}(h:(bj a).length<(bj b).length):a<b:=by
 obtain ⟨h1,h2⟩:=bk a;obtain ⟨h3,h4⟩:=bk b;have c:=Rn.2 h1.2.1;have h5:=dz h1.1;have d:=oD h3 om_;have e:10 ^ (bj a).length<=10 ^ ((bj b).length-1):=QZ dc_ om_;omega
theorem NV {a b:Nat}(h:(bj a).length=(bj b).length):Lib.compareBytes (bj a) (bj b)=jO a b:=by
 obtain ⟨h1,h2⟩:=bk a;obtain ⟨h3,h4⟩:=bk b;rw [HP h1.1 h3.1 h,h2,h4]
def vO (z w:Int):Int:=if z<w then -1 else if w<z then 1 else 0
theorem eC (z:Int):(z<0/\eH z=-1)∨(z=0/\eH z=0)∨(0<z/\eH z=1):=by
 unfold eH;split
 ·exact .inl ⟨by assumption,Z⟩
 split
 ·exact .inr (.inl ⟨by assumption,Z⟩)
 exact .inr (.inr ⟨by omega,Z⟩)
theorem zT (h:eH z=eH w):vO z w=eH z*jO z.natAbs w.natAbs:=by
 have a:=eC w;rw [<- h] at a;unfold vO jO;rcases eC z with ⟨h1,h2⟩ | ⟨h1,h2⟩ | ⟨h1,h2⟩ <;> rw [h2] at a ⊢
 ·have h3:w<0:=by omega
  split <;> split <;> (try split) <;> omega
 ·have h3:w=0:=by omega
  subst h1 h3;simp
 have h3:0<w:=by omega
 split <;> split <;> (try split) <;> omega
theorem I9 (z:Int):IntKind.i64.wrap (-(eH z))=-(eH z):=by
 rcases eC z with ⟨h1,h2⟩ | ⟨h1,h2⟩ | ⟨h1,h2⟩ <;> rw [h2] <;> rfl
theorem Fk (C:Mem)(a b:Str):Gives cx.P 226 [af a,af b] C (.int .i64 (Lib.compareBytes a b)):=yV Tryz.scmp a b C kr_
theorem qt (C:Mem)(z w:Int)(_m:(bj z.natAbs).length<=1000000)(_n:(bj w.natAbs).length<=1000000):Gives cx.P 161 [af (txt z),af (txt w)] C (.int .i64 (vO z w)):=by
 have ez:(cJ 45 (txt z)).1=bj z.natAbs:=by rw [dJ]
 have j:(cJ 45 (txt w)).1=bj w.natAbs:=by rw [dJ]
 refine Ur func161 41 U3 fun w0=>Uh 1 [0,1] Z<|Ui 1 Z fun R b=>Ut (me _ z) U7<|Uk U6<|Ut (me _ w) U7<|C6 2 [0,1,5,6] b Z<|Uh 3 [0,1,5,6,15] Z<|G.cd (fun c=>?_) fun c=>?_
 ·have k:eH z≠eH w:=by simpa using c
  refine Uh 3 [18] Z<|G.cd (fun d=>?_) fun d=>?_
  ·have a:eH z<eH w:=by simpa using d
   refine Uh 1 [4] Z<|Up U2<|⟨?_,Z⟩;rw [vO,aJ (by unfold eH at a;split at a <;> split at a <;> (try split at a) <;> omega)]
  have a:¬ eH z<eH w:=by simpa using d
  refine Uh 1 [4] Z<|Up U2<|⟨?_,Z⟩;have h:w<z:=by
   have h2:eH w<eH z:=by omega
   unfold eH at h2;split at h2 <;> split at h2 <;> (try split at h2) <;> omega
  rw [vO,aF om_,aJ h]
 have f:eH z=eH w:=by simpa using c
 refine Ui 1 Z fun R b=>Ut (AZ _ (txt z) 45) U7<|Uk U6<|Ut (AZ _ (txt w) 45) U7 ?_;rw [ez,j];refine C6 2 [5,7,8] b Z<|Uh 5 [5,7,8,27] Z<|G.cd (fun g=>?_) fun g=>?_
 ·have k:(bj z.natAbs).length≠(bj w.natAbs).length:=fun e=>by
   have h:(((bj z.natAbs).length:Nat):Int)≠(((bj w.natAbs).length:Nat):Int):=by simpa using g
   exact h (by rw [e])
  refine Uh 5 [5,32] Z<|G.cd (fun i=>?_) fun i=>?_
  ·have a:z.natAbs<w.natAbs:=qN (by
    have h:(((bj z.natAbs).length:Nat):Int)<(((bj w.natAbs).length:Nat):Int):=by simpa using i
    omega)
   refine Uh 3 [4] Z<|Up U2<|⟨?_,Z⟩;rw [Int.zero_sub,I9,zT f,show jO z.natAbs w.natAbs=-1 from aJ a];congr 1;omega
  have a:w.natAbs<z.natAbs:=qN (by
   have h:¬ (((bj z.natAbs).length:Nat):Int)<(((bj w.natAbs).length:Nat):Int):=by simpa using i
   omega)
  refine Uh 2 [4] Z<|Up U2<|⟨?_,Z⟩;rw [zT f,show jO z.natAbs w.natAbs=1 from by unfold jO;rw [aF om_,aJ a]];congr 1;omega
 have l:(bj z.natAbs).length=(bj w.natAbs).length:=by
  have h:(((bj z.natAbs).length:Nat):Int)=(((bj w.natAbs).length:Nat):Int):=by simpa using g
  omega
 refine Ui 3 Z fun R b=>Ut (Fk _ (bj z.natAbs) (bj w.natAbs)) U7 ?_;rw [NV l];refine UQ ((vO z w)) U4 (by rw [zT f]) (by unfold vO;split <;> (try split) <;> omega) (by unfold vO;split <;> (try split) <;> omega) U2 ?_
 exact C6 1 [4] b Z<|Up U2<|⟨Z,Z⟩
def oC (b:Bool):Int:=if b then 0 else 2
theorem xz (C:Mem)(s:Str):Gives cx.P 160 [af s] C (.int .i64 (oC (cH s))):=by
 obtain ⟨t,neg,p⟩:∃ t b,cJ 45 s=(t,b):=⟨_,_,rfl⟩;have g:cH s=(t.all eG && !(t == []) && !(t.head? == some 48 && (neg || decide (1<t.length))) && decide (t.length<=200)):=by unfold cH yr;rw [p]
 refine Ur func160 47 U3 fun w0=>Uh 1 [0] Z<|Ui 1 Z fun R a=>Uu (by have h:=HL C s 45;rw [p] at h;exact h) U7 fl_<|C6 5 [3,4] a Z<|Ui 6 Z fun R a=>UN U8<|Um 2 Z<|UZ (b:=t.headD 0) U8 (fun r=>⟨by omega,(by
  cases t with
  | nil=>exact Bool.noConfusion (show true=false from r.1)
  | cons b t=>rfl)⟩) U2 ?_
 refine Um 7 Z<|UN U8<|UJ U8<|UN U8<|Un [3,30] a Z<|G.cd (fun d=>?_) fun d=>?_
 ·have j:cH s=false:=by
   rw [g];cases t with
   | nil=>simp
   | cons b t =>
    simp at d;rcases d with h | ⟨h,h2⟩
    ·simp;intro _ _;omega
    have e:b=48:=T0.1 (by show b.toNat=48;omega);subst e;have u:(neg || decide (1<((48:UInt8)::t).length))=true:=by
     rcases h2 with h2 | h2
     ·rw [QV ap];simp
     rw [h2];rfl
    rw [u];simp
  exact Uh 1 [2] Z<|Up U2<|⟨by rw [j];rfl,Z⟩
 have v:t.length<=200:=by
  simp at d;omega
 refine Uh 3 [3,32,33] Z<|G.loop (fun fr E w y=>∃ (i:Nat),(i<=t.length/\∀ c∈t.take i,eG c=true)/\fr=[(3,[],af t),(32,[],.int .i64 t.length),(33,[],.int .i64 i)]/\w=[]/\y=t.length-i) (hn_ [3,32,33] Z) ⟨0,⟨QH _,by simp⟩,Z,Z,Z⟩ (fun fr F H m _ z=>?_);obtain ⟨i,⟨I,k⟩,rfl,rfl,rfl⟩:=z;refine Uh 1 [3,32,33,34] Z<|G.cd (fun l=>?_) fun l=>?_
 ·have n:i<t.length:=by simpa using l
  obtain ⟨c,f⟩:∃ c,t[i]?=some c:=⟨t[i],aj n⟩;refine Uh 2 [3,5,32,33] Z<|Ui 2 Z fun R a=>UZ U8 (fun _=>⟨by omega,f⟩) U2<|Um 4 Z<|UZ U8 (fun _=>⟨by omega,f⟩) U2<|Uk U6<|UN U8<|Un [3,32,33,45] a Z<|G.cd (fun o=>?_) fun o=>?_
  ·have j:cH s=false:=by
    have h1:t.all eG=false:=by
     rw [Tn];refine ⟨c,aX f, ?_⟩;simp at o;unfold eG;simp;omega
    rw [g,h1];rfl
   exact Uh 1 [2] Z<|Up U2<|⟨by rw [j];rfl,Z⟩
  have A:eG c=true:=by
   simp at o;unfold eG;simp;omega
  refine Ul fun R a=>Uq _ Z U6<|C6 1 [3,32,33] a Z<|Uw (m':=t.length-(i+1)) om_ mup (hn_ [3,32,33] Z) ⟨i+1,⟨by omega,fun x q=>by
   rw [Q4,f] at q;rcases QS.1 q with h | h
   ·exact k x h
   simp at h;subst h;exact A⟩,rfl,rfl,rfl⟩
 have n:t.length<=i:=by
  have:¬ i<t.length:=by simpa using l
  omega
 rw [Rf n] at k;have B:t.all eG=true:=QX.2 k;have D:cH s=true:=by
  rw [g,B,QV v];cases t with
  | nil=>simp at d
  | cons b t =>
   simp at d;simp;by_cases e:b=48
   ·subst e;have h5:=d.2;simp at h5;exact .inr ⟨h5.2,Rt om_⟩
   exact .inl e
 exact Uh 1 [2] Z<|Up U2<|⟨by rw [D];rfl,Z⟩
end Go.Proofs.YtfjcldheldflbaaGreatDoor
