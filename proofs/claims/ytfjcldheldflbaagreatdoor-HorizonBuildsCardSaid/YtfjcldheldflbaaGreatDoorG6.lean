/- Laws that the proofs of this seat share, part 6. -/
import Derived.Test.YtfjcldheldflbaaGreatDoorG5
import Derived.Test.YtfjcldheldflbaaGreatDoorShelf
set_option maxHeartbeats 4000000
namespace Go.Proofs.YtfjcldheldflbaaGreatDoor
open Go.Proofs.Tryz
open Go Go.Jog
set_option maxRecDepth 100000
variable {Q:Nat}{a b:List Nat}{i j k:Nat}{l:List Nat}{m n:Nat}{o p:List Int}{q:List Nat}{s:Str}{t:Nat}{w:Int}{x:Nat}{z:Int}
def gI (p:List Int)(i:Nat):Int:=p.getD i 0
theorem HI (h:k<p.length):(p.map nP)[k]?=some (nP (gI p k))/\p[k]?=some (gI p k):=by
 have e:p[k]?=some (gI p k):=by
  unfold gI;rw[am,ai h];rfl
 exact⟨by rw[Rb,e];rfl,e⟩
theorem tm (h:p.length<=k):gI p k=0:=by
 unfold gI;rw[am,Ri h];rfl
theorem MR (p:List Int)(k:Nat):iZ (p.take (k+1))=iZ (p.take k)+(10000:Int) ^ k*gI p k:=by
 rcases Rz k p.length with h|h
 ·exact Fy (HI h).2
 rw[tm h,RH h,RH om_];simp
theorem Gk (o:Int):(o-o % 10000).tdiv 10000=(o-o % 10000) / 10000:=Int.tdiv_eq_ediv_of_dvd (Int.dvd_of_emod_eq_zero om_)
theorem Dl (C:Mem)(v:Value)(p:List Int)(g:Sl C 1 v (p.map nP))(H:0<=iZ p)(I:∀ x∈p, -1000000000000<=x/\x<=1000000000000)(O:p.length<=100000):Pur cx.P 235 [v] C fun u D=>PieC D u (iZ p).toNat:=by
 obtain⟨k,c0,rfl,_⟩:=id g;simp only[au]at g⊢;refine UU func235 43 U3 fun w0=>UM 1 [0] U<|UM 1 [0,3] U<|UM 1 [0,3,4] U<|UM 1 [0,3,4,5] U<|G.nilArr 3 1<|G.loop (fun fr B b c=>∃ (i:Nat)(o:Int)(out:List Nat)(w:Value),(out.length=i/\DigP out/\-1000000000000<=o/\o<=1000000000000/\iZ (p.take i)=(bq out:Nat)+(10000:Int) ^ i*o/\(p.length<=i->(i:Int)+o<=1000000100000))/\fr=[(0,[],.slice k p.length c0),(3,[],w),(4,[],i_ o),(5,[],i_ i)]/\b=[.arr w 3 1 i (out.map aW).flatten]/\c=(p.length-i)*4611686018427387904+o.natAbs) (hn_ [0,3,4,5] U) ⟨0,0,[],_,⟨U,(fun x J=>(by cases J)),by omega,by omega,by simp[iZ,bq],fun h=>by omega⟩,U,U,U⟩ (fun fr Q S m _ d=>?_);obtain⟨i,o,out,w,⟨e,l,T,W,n,E⟩,rfl,rfl,rfl⟩:=d;have q:p.length<=i->0<=o:=fun h=>by
  refine J6 e l (V:=iZ p) H ?_;rw[<- n,RH h]
 have X:(i:Int)<=1000000100000:=by
  rcases Rz i p.length with h|h
  ·omega
  have:=q h;have:=E h;omega
 refine UN 7 U fun R a=>Vq U8<|US [0,3,4,5,14] a U<|G.cd (fun r=>?_) fun r=>?_
 ·have s:i<p.length∨o≠0:=by
   simp at r;omega
  have Y:-1000000000000<=gI p i/\gI p i<=1000000000000:=by
   rcases Rz i p.length with h|h
   ·exact I _ (aM (HI h).2)
   rw[tm h];omega
  refine UM 4 [0,3,4,5,20] U<|G.cut (fun fr B b c=>(True)/\fr=[(0,[],.slice k p.length c0),(3,[],w),(4,[],i_ (o+gI p i)),(5,[],i_ i)]/\b=[.arr w 3 1 i (out.map aW).flatten]) ?_ (fun fr _ Z c _ d=>?_)
  ·refine G.cd (fun t=>?_) fun t=>?_
   ·have f:i<p.length:=by simpa using t
    refine UN 3 U fun R a=>Va g.m_ U10 om_ (HI f).1 fl_ fun aa K=>UO K U8<|UV _ U U6<|C6 1 [0,3,4,5] a U<|Vb 0 l_ (hn_ [0,3,4,5] U) ⟨trivial,U,U⟩
   have f:p.length<=i:=by
    have:¬ i<p.length:=by simpa using t
    omega
   rw[show o=o+gI p i by rw[tm f,Int.add_zero]];refine Vb 0 l_ (hn_ [0,3,4,5] U) ⟨trivial,by rw[tm f];simp,U⟩
  obtain⟨_,rfl,rfl⟩:=d;refine UN 1 U fun R a=>Xi (Int.tmod (o+gI p i) 10000) U U U U U U om_ U U U<|C6 1 [0,3,4,5,6] a U ?_;have y:=JN (o+gI p i);have ab:-10000<=Int.tmod (o+gI p i) 10000/\Int.tmod (o+gI p i) 10000<10000:=by
   have:=Uw (o+gI p i) (show(10000:Int)≠0 by decide);have:=Int.emod_lt_of_pos (o+gI p i) (show(0:Int)<10000 by decide);split at y <;> omega
  refine UM 2 [0,3,4,5,6,30] U<|G.cut (fun fr B b c=>(True)/\fr=[(0,[],.slice k p.length c0),(3,[],w),(4,[],i_ (o+gI p i)),(5,[],i_ i),(6,[],i_ (((o+gI p i) % 10000).toNat:Nat))]/\b=[.arr w 3 1 i (out.map aW).flatten]) ?_ (fun fr _ ac c _ d=>?_)
  ·refine G.cd (fun z=>?_) fun z=>?_
   ·have A:Int.tmod (o+gI p i) 10000<0:=by simpa using z
    rw[aJ A]at y;refine UN 1 U fun R a=>Vt (((((o+gI p i) % 10000).toNat:Nat):Int)) U4 om_ om_ om_ U2<|C6 1 [0,3,4,5,6] a U<|Vb 0 l_ (hn_ [0,3,4,5,6] U) ⟨trivial,U,U⟩
   have A:¬ Int.tmod (o+gI p i) 10000<0:=by simpa using z
   rw[aF A]at y;rw[show Int.tmod (o+gI p i) 10000=((((o+gI p i) % 10000).toNat:Nat):Int) by omega];refine Vb 0 l_ (hn_ [0,3,4,5,6] U) ⟨trivial,U,U⟩
  obtain⟨_,rfl,rfl⟩:=d;refine UN 2 U fun R a=>Vj [aW (((o+gI p i) % 10000).toNat)] U12 fun ad _ _ L=>D.append (j:=0) U11 L U ax (by show(i+1)*8<=_;omega) fl_ fun F=>C6 1 [0,3,4,5,6] a U<|UN 2 U fun R a=>Vt ((o+gI p i-(o+gI p i) % 10000)) U4 om_ om_ om_ U2<|VX ((o+gI p i-(o+gI p i) % 10000) / 10000) U6 om_ (Gk _) f_ U2<|C6 1 [0,3,4,5] a U<|UN 1 U fun R a=>UV _ U U6<|C6 1 [0,3,4,5] a U ?_;have hm:(p.length-(i+1))*4611686018427387904+((o+gI p i-(o+gI p i) % 10000) / 10000).natAbs<(p.length-i)*4611686018427387904+o.natAbs:=by
   rcases Rz i p.length with h2|h2
   ·omega
   have h3:=q h2;rw[tm h2];omega
  refine Vc (L':=[.arr F 3 1 (i+1) ((out++[((o+gI p i) % 10000).toNat]).map aW).flatten]) (by simp[aW])<|U0 (m':=(p.length-(i+1))*4611686018427387904+((o+gI p i-(o+gI p i) % 10000) / 10000).natAbs) om_ mup (hn_ [0,3,4,5] U) ⟨i+1,(o+gI p i-(o+gI p i) % 10000) / 10000,out++[((o+gI p i) % 10000).toNat],F,⟨by simp[e],l.snoc (by show((o+gI p i) % 10000).toNat<10000;omega),by omega,by omega,by
   refine Io e ?_;rw[MR,n,Ul];omega,fun h=>by
   rcases Rz i p.length with h2|h2
   ·omega
   have h3:=q h2;have h4:=E h2;rw[tm h2] at *;omega⟩,rfl,rfl,rfl⟩
 have s:p.length<=i/\o=0:=by
  simp at r;omega
 refine Vl [(1,3)] U fun R a=>UP U6<|D.call (vx _ _ out e) U (.inr dc_) U6 (Rh _) fl_ (fun ae _ af _ M=>?_);obtain⟨rfl,N⟩:=M;refine C6 1 [2] a U<|UT U2<|⟨U,yy out,mQ l, ?_,N⟩;rw[RH s.1,s.2]at n;rw[iJ];omega
theorem By:∀ (l:List Int)(i:Nat)(x:Int),i<l.length->iZ (l.set i x)=iZ l+(10000:Int) ^ i*(x-gI l i)
|[],i,x,h=>by simp at h
|a::l,0,x,_=>by
  show x+10000*iZ l=a+10000*iZ l+1*(x-a);omega
|a::l,i+1,x,h=>by
  have b:=By l i x (by simpa using h);show a+10000*iZ (l.set i x)=a+10000*iZ l+(10000:Int) ^ (i+1)*(x-gI l i);rw[b,Ul,<- Int.mul_assoc,Int.pow_succ,Int.mul_comm ((10000:Int) ^ i) 10000];omega
theorem Fw (l:List Int):iZ (l++[0])=iZ l:=by rw[wm];omega
structure Joins (p q:List Nat)(k:Int)(i:Nat)(o:List Int):Prop where
 len:o.length=max p.length i
 val:iZ o=(bq p:Nat)+k*(bq (q.take i):Nat)
 rest:∀ j,i<=j->gI o j=(gP p j:Nat)
 lim:∀ x∈o, -100000000<=x/\x<=100000000
theorem P0 (p:List Nat)(j:Nat):gI (p.map fun x:Nat=>(x:Int)) j=(gP p j:Nat):=by
 unfold gI gP;rw[am,am,Rb];cases p[j]? <;> rfl
theorem zQ (p q:List Nat)(k:Int)(a:DigP p):Joins p q k 0 (p.map fun x:Nat=>(x:Int)):=by
 refine⟨by simp,by rw[oH];simp[bq],fun j _=>P0 p j,fun x b=>?_⟩;obtain⟨y,hy,rfl⟩:=Ra.1 b;have:y<10000:=a y hy;omega
theorem Joins.zero {p:List Nat}{k:Int}(h:Joins p q k i o)(c:o.length<=i):iZ (o++[0])=(bq p:Nat)+k*(bq (q.take i):Nat)/\(∀ j,i<=j->gI (o++[0]) j=(gP p j:Nat))/\(∀ x∈o++[0], -100000000<=x/\x<=100000000):=by
 refine⟨by rw[Fw,h.val],fun j a=>?_,fun x b=>?_⟩
 ·have h1:=h.rest j a;have h2:gI o j=0:=by unfold gI;rw[am,Ri om_];rfl
  rw[<- h1,h2];unfold gI;rw[am,RD om_];cases j-o.length <;> rfl
 rcases Rr.1 b with h1|h1
 ·exact h.lim x h1
 simp at h1;subst h1;omega
theorem HH {x:Int}(h:i≠j):gI (o.set i x) j=gI o j:=by
 unfold gI;rw[am,am,Ua h]
theorem Et {p:List Nat}{k:Int}{y:Nat}(d:DigP p)(f:DigP q)(a:-9999<=k/\k<=9999)(b:q[i]?=some y)(g:o.length=max p.length (i+1))
  (h:iZ o=(bq p:Nat)+k*(bq (q.take i):Nat)) (c:∀ j,i<=j->gI o j=(gP p j:Nat)) (l:∀ x∈o, -100000000<=x/\x<=100000000) :
  Joins p q k (i+1) (o.set i (gI o i+k*(y:Nat))):=by
 have n:y<10000:=f y (aM b);have r:gP p i<10000:=HG d i;have s:-99980001<=k*(y:Int)/\k*(y:Int)<=99980001:=by
  have h0:(0:Int)<=y:=by omega
  have h1:k*(y:Int)<=9999*(y:Int):=Tx a.2 h0;have h2:(-9999:Int)*(y:Int)<=k*(y:Int):=Tx a.1 h0;omega
 refine⟨by rw[R3];exact g, ?_,fun j t=>?_,fun x m=>?_⟩
 ·rw[By o i _ om_,h,gF b];have e:((bq (q.take i)+BP ^ i*y:Nat):Int)=(bq (q.take i):Nat)+(10000:Int) ^ i*(y:Int):=by
   rw[TP,RF,Int.natCast_pow];rfl
  rw[e,Ul,show gI o i+k*(y:Int)-gI o i=k*(y:Int) by omega,Int.mul_left_comm];omega
 ·rw[HH om_];exact c j om_
 rcases Sy m with h1|h1
 ·exact l x h1
 subst h1;rw[c i (Q7 _)];omega
theorem CQ (h:k<p.length):p[k]?=some (gI p k):=by
 unfold gI;rw[am,ai h];rfl
theorem kw (h:Bh l)(a:bq l<BP ^ m):l.length<=m:=by
 apply RB;intro b;have h1:=vJ h om_;have h2:BP ^ m<=BP ^ (l.length-1):=Rx dc_ om_;omega
theorem vl (x:Int):(nP x).length=1:=rfl
theorem eh (x:Nat):(aW x).length=1:=rfl
theorem Ip (C:Mem)(v:Value)(p:List Int)(b:p.length=n)(c:0<=iZ p)(d:∀ x∈p, -1000000000000<=x/\x<=1000000000000)(e:p.length<=100000):Jog.Fn cx.P 235 [v] C [.arr v 3 1 n (p.map nP).flatten] fun u a f=>f=[]/\PieC a u (iZ p).toNat :=
 Jog.Fn.give (p.map nP) kr_ e_ (by rw[au,b]) (fun a _ hs=>Dl a v p hs c d e)
theorem jx (C:Mem)(J K:Value)(p q:List Nat)(k:Int)(X:Sl C 1 J (p.map aW))(f:Sl C 1 K (q.map aW))(L:DigP p)(M:DigP q)(g:-9999<=k/\k<=9999)(Y:0<=(bq p:Int)+k*(bq q:Int))(ao:p.length<=50000)(ap:q.length<=50000) :
  Pur cx.P 175 [J,K,i_ k,i_ 0] C fun u D=>PieC D u ((bq p:Int)+k*(bq q:Int)).toNat:=by
 obtain⟨N,c0,rfl,_⟩:=id f;simp only[au]at f⊢;refine UU func175 45 U3 fun w0=>UM 1 [0,1,2,3] U<|UQ fun R b=>VV [] U12 fl_ fun aq=>UP U6<|D.append (j:=0) U11 X (by rw[Ru];intro r hr;obtain⟨y,_,rfl⟩:=Ra.1 hr;rfl) (by rw[au];simp only[RQ,maxLen];omega) (by rw[au];show(0+p.length)*8<=_;omega) fl_ fun Z=>C6 1 [1,2,3,9] b U<|UM 1 [1,2,3,9,10] U<|Vc (L':=[.arr Z 3 1 (p.map fun x:Nat=>(x:Int)).length (((p.map fun x:Nat=>(x:Int)).map nP).flatten)]) (by rw[R8];simp;rfl)<|G.loop (fun fr C' d n=>∃ (i:Nat)(o:List Int)(w:Value),(i<=q.length/\Joins p q k i o)/\fr=[(1,[],.slice N q.length c0),(2,[],i_ k),(3,[],i_ 0),(9,[],w),(10,[],i_ i)]/\d=[.arr w 3 1 o.length (o.map nP).flatten]/\n=q.length-i) (hn_ [1,2,3,9,10] U) ⟨0,_,_,⟨Re _,zQ p q k L⟩,U,U,U⟩ (fun fr ar av m _ z=>?_);obtain⟨i,o,w,⟨hi,c⟩,rfl,rfl,rfl⟩:=z;refine UM 4 [1,2,3,9,10,17] U<|G.cd (fun A=>?_) fun A=>?_
 ·have B:i<q.length:=by simpa using A
  have aw:=c.len;refine G.loop (fun fr C' d n=>∃ (a:List Int)(E:Value),((a=o∨(a=o++[0]/\o.length<=i)))/\fr=[(1,[],.slice N q.length c0),(2,[],i_ k),(3,[],i_ 0),(9,[],E),(10,[],i_ i)]/\d=[.arr E 3 1 a.length (a.map nP).flatten]/\n=i+1-a.length) (hn_ [1,2,3,9,10] U) ⟨o,w,.inl U,U,U,U⟩ (fun fr ay az m _ z=>?_);obtain⟨a,E,F,rfl,rfl,rfl⟩:=z;refine Xo 0 U (fun Aw O he=>?_);subst he;have aA:a.length<=50002:=by
   have h1:a.length<=o.length+1:=by
    have h2:=F.imp (fun e=>congrArg List.length e) (fun e=>congrArg List.length e.1);rw[Rf,Q8]at h2;omega
   omega
  refine UN 4 U fun R b=>Vt (((i:Nat):Int)) U4 om_ om_ om_ U2<|C6 1 [1,2,3,9,10,25] b U<|G.cd (fun H=>?_) fun H=>?_
  ·have Q:a.length<=i:=by
    have:(a.length:Int)<=i:=by simpa using H
    omega
   have aa:a=o:=by
    refine F.elim id fun h=>?_;have:=h.1 ▸ Q;rw[Rf,Q8]at this;omega
   subst aa;refine UN 1 U fun R b=>Vj [nP 0] U12 fun aB _ _ ab=>D.append (j:=0) U11 ab U ax (by show(a.length+1)*8<=_;omega) fl_ fun S=>C6 1 [1,2,3,9,10] b U<|Vc (L':=[.arr S 3 1 (a++[0]).length ((a++[0]).map nP).flatten]) (by simp[nP]) ?_;have aC:i+1-(a++[0]).length<i+1-a.length:=by rw[Rf,Q8];omega
   refine U0 (m':=i+1-(a++[0]).length) om_ mup (hn_ [1,2,3,9,10] U) ⟨a++[0],S,.inr ⟨U,Q⟩,U,U,U⟩
  have I:i<a.length:=by
   have:¬ (a.length:Int)<=i:=by simpa using H
   omega
  have ac:a.length=max p.length (i+1)/\iZ a=(bq p:Nat)+k*(bq (q.take i):Nat)/\(∀ j,i<=j->gI a j=(gP p j:Nat))/\(∀ x∈a, -100000000<=x/\x<=100000000):=by
   refine F.elim (fun h=>?_) fun h=>?_
   ·subst h;exact⟨by omega,c.val,c.rest,c.lim⟩
   obtain⟨h1,h2⟩:=h;subst h1;have h3:=c.zero h2;exact⟨by rw[Rf,Q8];omega,h3⟩
  obtain⟨ad,ae,af,T⟩:=ac;obtain⟨ah,ai⟩:=iV (l:=q) (k:=i) B;have aD:gP q i<10000:=HG M i;have aE:-99980001<=k*((gP q i:Nat):Int)/\k*((gP q i:Nat):Int)<=99980001:=by
   have h0:(0:Int)<=((gP q i:Nat):Int):=by omega
   have h1:k*((gP q i:Nat):Int)<=9999*((gP q i:Nat):Int):=Tx g.2 h0;have h2:(-9999:Int)*((gP q i:Nat):Int)<=k*((gP q i:Nat):Int):=Tx g.1 h0;omega
  have aF:=T _ (aM (CQ I));refine WV 0 (m:=a.length-1) (v:=.slice Aw a.length O) (t:=3) (s:=1) (xs:=(a.map nP).flatten) (by rw[show a.length-1+1=a.length by omega];rfl) (fun g0 cc aj=>?_);injection aj with ak aG al;subst ak al;refine Vg [0,1,2,3,4,5,6,7,8,9,10,11,12,13,14] [] U kr_ fun R hB b=>UR 3 U<|Vt (((i:Nat):Int)) U4 om_ om_ om_ U2<|Vp (i*1) U10 w_ U2<|VE ag U6 (fun _=>(by rw[dO vl (CQ I)];rfl)) U2<|UR 3 U<|Va f.m_ U10 om_ ah fl_ fun aH am=>UO am U8<|UV _ U U6<|UV _ U U6<|Vp (i*1) U10 w_ U2<|Vr (j:=0) U11 (by show i*1+1<=_;rw[bT vl];omega)<|US [1,2,3,9,10] b U<|UN 1 U fun R b=>UV _ U U6<|C6 1 [1,2,3,9,10] b U<|Vc (L':=[.arr (s_ g0 a.length O) 3 1 (a.set i (gI a i+k*((gP q i:Nat):Int))).length ((a.set i (gI a i+k*((gP q i:Nat):Int))).map nP).flatten]) (by rw[<- bM vl _ I,R3];rfl)<|U0 (m':=q.length-(i+1)) om_ mup (hn_ [1,2,3,9,10] U) ⟨i+1,_,_,⟨by omega,Et L M g ai ad ae af T⟩,U,U,U⟩
 have B:i=q.length:=by
  have:¬ i<q.length:=by simpa using A
  omega
 have V:iZ o=(bq p:Int)+k*(bq q:Int):=by rw[c.val,B,Rk]
 refine Vl [(1,3)] U fun R b=>UP U6<|D.call (Ip _ _ o U (by rw[V];exact Y) (fun x hx=>by have:=c.lim x hx;omega) (by have:=c.len;omega)) U (.inr dc_) U6 (Rh _) fl_ (fun aI _ aJ _ an=>?_);obtain⟨rfl,W⟩:=an;refine C6 1 [8] b U<|UT U2 ?_;rw[V]at W;exact⟨U,W⟩
theorem LC (n:Nat):kR ([i_ 0]:List Value) n=((List.replicate n 0).map aW).flatten:=by
 rw[fe,TJ];rfl
theorem wk (h:j<l.length):bq (l.drop j)=gP l j+BP*bq (l.drop (j+1)):=by
 rw[Ry h,(aT.1 (iV h).2).2];rfl
theorem uf (h:j<l.length):bq ((l.set j x).drop j)=x+BP*bq (l.drop (j+1)):=by
 rw[wk (by rw[R3];exact h),List.drop_set_of_lt om_];congr 1;unfold gP;rw[am,T2 h];rfl
theorem KZ (h:DigP l)(a:x<BP):DigP (l.set j x):=fun y hy=>by
 rcases Sy hy with h1|h1
 ·exact h y h1
 rw[h1];exact a
theorem Cv (C:Mem)(O Q:Value)(p q:List Nat)(v:Sl C 1 O (p.map aW))(g:Sl C 1 Q (q.map aW))(ai:DigP p)(w:Bh q)(i:0<bq q)(aG:p.length<=10000)(aH:q.length<=10000) :
  Pur cx.P 230 [O,Q] C fun u D=>∃ u1 S,u=.tuple #[u1,S]/\PieC D u1 (bq p / bq q)/\PieC D S (bq p % bq q):=by
 obtain⟨T,c0,rfl,_⟩:=id v;obtain⟨V,W,rfl,_⟩:=id g;simp only[au]at v g⊢;refine UU func230 58 U3 fun w0=>UM 2 [0,1] U<|UN 2 U fun R b=>VQ U9 (Q7 _) (by show 8*p.length<=281474976710656;omega) y_ fl_ fun d=>C6 1 [0,1,6] b U<|UM 1 [0,1,6,7] U<|UN 2 U fun R b=>UV _ U U6<|C6 1 [0,1,6,7,8] b U<|Vc (L':=[.arr (qW d p.length p.length) 3 1 p.length ((List.replicate p.length 0).map aW).flatten]) (by rw[<- LC];rfl)<|G.loop (fun fr X e z=>∃ (k:Nat)(o l:List Nat)(A:Value),(k<=p.length/\o.length=p.length/\DigP o/\bq (o.drop k)=bq (p.drop k) / bq q/\Sl X 1 A (l.map aW)/\Bh l/\bq l=bq (p.drop k) % bq q)/\fr=[(0,[],.slice T p.length c0),(1,[],.slice V q.length W),(6,[],qW d p.length p.length),(7,[],A),(8,[],i_ ((k:Int)-1))]/\e=[.arr (qW d p.length p.length) 3 1 p.length (o.map aW).flatten]/\z=k+1) (hn_ [0,1,6,7,8] U) ⟨p.length,List.replicate p.length 0,[],.slice none 0 0,⟨Q7 _,RI,(fun x c=>by rw[S9 c];decide),by rw[Sm,T3 ak];simp[bq],Sl.nil _ _,⟨fun x c=>(by cases c),by simp⟩,by rw[Sm];simp[bq]⟩,U,U,U⟩ (fun fr aI aJ m _ B=>?_);obtain⟨k,o,l,A,⟨hk,Y,Z,aa,hs,E,F⟩,rfl,rfl,rfl⟩:=B;refine UM 2 [0,1,6,7,8,19] U<|G.cd (fun H=>?_) fun H=>?_
 ·have ab:0<k:=by
   have:(0:Int)<=(k:Int)-1:=by simpa using H
   omega
  obtain⟨j,rfl⟩:∃ j,k=j+1:=⟨k-1,by omega⟩;rw[show((j+1:Nat):Int)-1=(j:Int) by omega];obtain⟨aj,aK⟩:=iV (l:=p) (k:=j) om_;have c:gP p j<BP:=HG ai j;have aL:gP p j<10000:=c;have aM:l.length<=q.length:=kw E (by rw[F];exact Tk (RU _ i) (nj w.1));have al:DigP (gP p j::l):=fun y hy=>by
   rcases Rp.1 hy with h|h
   ·rw[h];exact c
   exact E.1 y h
  refine Vl [(7,3)] U fun R b=>UR 2 U<|Va v.m_ U10 om_ aj fl_ fun aN am=>UO am U8<|VV [aW (gP p j)] U12 fl_ fun aO=>UP U6<|D.append (j:=0) U11 hs.m_ (by rw[Ru];intro r hr;obtain⟨y,_,rfl⟩:=Ra.1 hr;rfl) (by rw[au];simp only[Q8,maxLen];omega) (by rw[au];show(1+l.length)*8<=_;omega) fl_ fun aP=>D.call (vx _ _ (gP p j::l) (n:=1+(l.map aW).length) (by rw[au];simp;omega)) U (.inr dc_) U6 (Rh _) fl_ (fun ac an aQ _ ao=>?_);obtain⟨rfl,I⟩:=ao;refine C6 1 [0,1,6,7,8] b U ?_;obtain⟨r,ad,J,ae,aR⟩:∃ r,Bh r/\bq r=gP p j+BP*(bq (p.drop (j+1)) % bq q)/\Sl an 1 ac (r.map aW)/\r.length<=20000:=⟨yy (gP p j::l),mQ al,by rw[iJ];show gP p j+BP*bq l=_;rw[F],I,by unfold yy;rw[Ro,Rs];omega⟩;have K:=HY (t:=bq (p.drop (j+1))) (x:=gP p j) i;rw[<- wk om_,<- J]at K;have ap:bq r / bq q<BP:=by rw[J];exact yv i c
  have aS:bq r / bq q<10000:=ap;refine UM 2 [0,1,6,7,8,9,10] U<|G.loop (fun fr X e z=>∃ (low a:Nat),(low<=bq r / bq q/\bq r / bq q<=a/\a<=9999)/\fr=[(0,[],.slice T p.length c0),(1,[],.slice V q.length W),(6,[],qW d p.length p.length),(7,[],ac),(8,[],i_ j),(9,[],i_ low),(10,[],i_ a)]/\e=[.arr (qW d p.length p.length) 3 1 p.length (o.map aW).flatten]/\z=a-low) (hn_ [0,1,6,7,8,9,10] U) ⟨0,9999,⟨Re _,by omega,Q7 _⟩,U,U,U⟩ (fun fr aT aU m _ B=>?_);obtain⟨low,a,⟨aq,ar,av⟩,rfl,rfl,rfl⟩:=B;refine UM 3 [0,1,6,7,8,9,10,32] U<|G.cd (fun L=>?_) fun L=>?_
  ·have s:low<a:=by simpa using L
   obtain⟨aw,ax⟩:=N8 i aq ar s;refine UN 2 U fun R b=>UV _ U U6<|UV _ U U6<|VX ((((low+a+1) / 2:Nat):Int)) U6 om_ (by rw[TU om_];omega) f_ U2<|C6 1 [0,1,6,7,8,9,10,11] b U<|UN 3 U fun R b=>Vo (jx _ _ _ [] q ((((low+a+1) / 2:Nat):Int)) (Sl.nil _ _) g.m_ (fun x c=>(by cases c)) w.1 om_ (by rw[<- RF];omega) ak om_) U7 fl_ (fun aV _ _ ay=>?_);obtain⟨l2,az,aA,aB⟩:=ay;have af:bq l2=bq q*((low+a+1) / 2):=by
    have h0:((bq ([]:List Nat):Nat):Int)=0:=rfl;rw[aA,h0,Int.zero_add,<- RF,S6,RT]
   refine UZ (Cp _ _ _ r l2 ae.m_ aB.m_ ad az) U7<|US [0,1,6,7,8,9,10,11,42] b U<|G.cd (fun M=>?_) fun M=>?_
   ·have N:bq r<bq q*((low+a+1) / 2):=by
     rw[<- af];simpa using M
    have f:=aw N;refine UN 1 U fun R b=>UV _ U U6<|C6 1 [0,1,6,7,8,9,10] b U ?_;rw[show((((low+a+1) / 2:Nat):Int))-1=(((low+a+1) / 2-1:Nat):Int) by omega];refine U0 (m':=(low+a+1) / 2-1-low) om_ mup (hn_ [0,1,6,7,8,9,10] U) ⟨low,(low+a+1) / 2-1,⟨f.1,f.2,by omega⟩,U,U,U⟩
   have N:¬ bq r<bq q*((low+a+1) / 2):=by
    rw[<- af];simpa using M
   have f:=ax N;refine UM 2 [0,1,6,7,8,9,10] U<|U0 (m':=a-(low+a+1) / 2) om_ mup (hn_ [0,1,6,7,8,9,10] U) ⟨(low+a+1) / 2,a,⟨f.1,f.2,av⟩,U,U,U⟩
  have s:low=bq r / bq q:=by
   have:¬ low<a:=by simpa using L
   omega
  have ag:((bq r:Nat):Int) + -(low:Int)*((bq q:Nat):Int)=((bq r % bq q:Nat):Int):=by
   have h1:=TM (bq r) (bq q);rw[<- s]at h1;have h2:((bq q*low+bq r % bq q:Nat):Int)=(bq r:Nat):=by rw[h1]
   rw[TP,RF]at h2;rw[Int.neg_mul,Int.mul_comm (low:Int)];omega
  refine UN 3 U fun R b=>Vp (j*1) U10 w_ U2<|Vr (j:=0) U11 (by show j*1+1<=_;rw[bT eh];omega)<|US [0,1,6,7,8,9] b U<|UN 4 U fun R b=>?_;rw[show IntKind.i64.wrap (0-(low:Int))=-(low:Int) by rw[IntKind.wrap_i64];omega];refine Vo (jx _ _ _ r q (-(low:Int)) ae.m_ g.m_ ad.1 w.1 om_ (by rw[ag];omega) om_ om_) U7 fl_ (fun aX _ _ aC=>?_);obtain⟨l3,aD,ah,aE⟩:=aC;rw[ag,S6]at ah;refine C6 1 [0,1,6,7,8] b U<|UN 1 U fun R b=>UV _ U U6<|C6 1 [0,1,6,7,8] b U<|Vc (L':=[.arr (qW d p.length p.length) 3 1 p.length ((o.set j low).map aW).flatten]) (by rw[<- bM eh _ (by omega:j<o.length)];rfl)<|U0 (m':=j+1) om_ mup (hn_ [0,1,6,7,8] U) ⟨j,o.set j low,l3,_,⟨by omega,by rw[R3];exact Y,KZ Z (by show low<BP;omega),by rw[uf om_,aa,K.1,s];omega,aE.mono mup,aD,by rw[ah,K.2,J]⟩,U,U,U⟩
 have ab:k=0:=by
  have:¬ (0:Int)<=(k:Int)-1:=by simpa using H
  omega
 subst ab;refine Vl [(1,3)] U fun R b=>UP U6<|D.call (vx _ _ o Y) U (.inr dc_) U6 (Rh _) fl_ (fun aY _ aZ _ aF=>?_);obtain⟨rfl,I⟩:=aF;refine C6 3 [4,5] b U<|U1 (G.dropAll (Vn U3 ?_));exact⟨U,_,_,U,⟨yy o,mQ Z,by rw[iJ,<- Sx (l:=o),aa,Sx],I⟩,⟨l,E,by rw[F,Sx],hs.mono mup⟩⟩
theorem dI (z:Int):ck 45 (txt z)=(bj z.natAbs,decide (z<0)):=by
 unfold txt;split
 ·rename_i h;rw[Rt h];rfl
 rename_i h;rw[RG h];unfold ck;rw[aF];intro h0;have h1:=(bB z.natAbs).1.1 45 (List.mem_of_mem_head? h0);revert h1;decide
theorem BB (z:Int):txt z=[48] ↔ z=0:=by
 constructor
 ·intro h;have h1:(ck 45 (txt z)).1=[48]:=by rw[h];rfl
  rw[dI]at h1;have h2:=(bB z.natAbs).2;have h3:bj z.natAbs=[48]:=h1;rw[h3]at h2;have h4:bR [48]=0:=rfl;omega
 rintro rfl;unfold txt;rw[aF om_,show bj (0:Int).natAbs=bj 0 from rfl,bj];rfl
theorem kH (z:Int):((⟨(txt z).toArray⟩:ByteArray).data.toList == (⟨#[48]⟩:ByteArray).data.toList)=decide (z=0):=by
 show(txt z == [48])=_;rw[P7,RY];exact BB z
theorem cX (n:Nat):txt (n:Int)=bj n:=by
 unfold txt;rw[aF om_];rfl
theorem dC (C:Mem)(z:Int):Gives cx.P 172 [af (txt z)] C (.tuple #[.bool (decide (z<0)),af (bj z.natAbs)]):=by
 have h:=split_fn C (txt z)
 rwa [dI]at h
theorem H7 {c:UInt8}(h:s[i]?=some c):bR (s.take (i+1))=10*bR (s.take i)+(c.toNat-48):=by
 rw[H8 h];omega
theorem yx (a:∀ c∈s,dU c=true)(d:s.length<=17)(i:Nat):bR (s.take i)<100000000000000000:=by
 have h1:=dA (s:=s.take i) (fun c b=>a c (So b));have h2:10 ^ (s.take i).length<=10 ^ 17:=Rx dc_ (by rw[Ro];omega);omega
theorem uo (C:Mem)(z:Int)(b:(bj z.natAbs).length<=17):Gives cx.P 177 [af (txt z)] C (.tuple #[i_ z,.bool true]):=by
 obtain⟨s,k⟩:∃ s,bj z.natAbs=s:=⟨_,rfl⟩;have hs:=(bB z.natAbs).1.1;have d:=(bB z.natAbs).2;rw[k]at b hs d;refine UU func177 45 U3 fun w0=>UM 2 [0] U<|UN 1 U fun R a=>UY (by have h:=dC C z;rw[k]at h;exact h) U7 fl_<|C6 5 [4,5] a U<|UM 3 [4,5,16] U<|G.cd (fun l=>?_) fun l=>?_
 ·exfalso;have:(s.length:Int) > 19:=by simpa using l
  omega
 refine UM 1 [4,5,6] U<|UM 1 [4,5,6,7] U<|G.loop (fun fr w p q=>∃ (i:Nat),(i<=s.length)/\fr=[(4,[],.bool (decide (z<0))),(5,[],af s),(6,[],i_ (-((bR (s.take i):Nat):Int))),(7,[],i_ i)]/\p=[]/\q=s.length-i) (hn_ [4,5,6,7] U) ⟨0,Re _,U,U,U⟩ (fun fr x y m _ r=>?_);obtain⟨i,A,rfl,rfl,rfl⟩:=r;refine UM 4 [4,5,6,7,20] U<|G.cd (fun e=>?_) fun e=>?_
 ·have f:i<s.length:=by simpa using e
  obtain⟨c,g⟩:∃ c,s[i]?=some c:=⟨s[i],ai f⟩;have t:=hs c (aM g);have B:48<=c.toNat/\c.toNat<=57:=by simpa [dU] using t
  have D:=yx hs b i;have u:(-9223372036854775808+(((c.toNat:Nat):Int)-48)).tdiv 10=-((9223372036854775808-(((c.toNat:Nat):Int)-48)) / 10):=by
   rw[show(-9223372036854775808+(((c.toNat:Nat):Int)-48))=-(9223372036854775808-(((c.toNat:Nat):Int)-48)) by omega,Int.neg_tdiv,TU om_]
  refine UN 2 U fun R a=>Vy U8 (fun _=>⟨by omega,g⟩) U2<|Vz (c:=((c.toNat:Nat):Int)) U8 f_ fl_<|UV _ U U6<|C6 1 [4,5,6,7,8] a U<|UN 2 U fun R a=>UV _ U U6<|VX (-((9223372036854775808-(((c.toNat:Nat):Int)-48)) / 10)) U6 om_ u f_ U2<|C6 1 [4,5,6,7,8,32] a U<|G.cd (fun n=>?_) fun n=>?_
  ·exfalso;simp only[Rj]at n;omega
  refine UN 1 U fun R a=>UV _ U U6<|UP U6<|UV _ U U6<|C6 1 [4,5,6,7] a U<|UN 1 U fun R a=>UV _ U U6<|C6 1 [4,5,6,7] a U ?_;rw[show 10 * -((bR (s.take i):Nat):Int)-(((c.toNat:Nat):Int)-48)=-((bR (s.take (i+1)):Nat):Int) by rw[H7 g];omega];refine U0 (m':=s.length-(i+1)) om_ mup (hn_ [4,5,6,7] U) ⟨i+1,om_,U,U,U⟩
 have f:i=s.length:=by
  have:¬ i<s.length:=by simpa using e
  omega
 rw[f,Rk,d];refine UM 2 [6,37] U<|G.cd (fun j=>?_) fun j=>?_
 ·have v:z<0:=by simpa using j
  refine UM 3 [2,3] U<|U1 (G.dropAll (Vn U3 ?_));refine⟨?_,U⟩;rw[show -((z.natAbs:Nat):Int)=z by omega]
 have v:¬ z<0:=by simpa using j
 have E:z.natAbs<100000000000000000:=by
  have:=yx hs b s.length
  rwa [Rk,d]at this
 refine UM 3 [6,40] U<|G.cd (fun o=>?_) fun o=>?_
 ·exfalso;simp at o;omega
 refine UM 4 [2,3] U<|U1 (G.dropAll (Vn U3 ?_));refine⟨?_,U⟩;rw[show IntKind.i64.wrap (0 - -((z.natAbs:Nat):Int))=z by rw[IntKind.wrap_i64];omega]
theorem ph (C:Mem)(z:Int):Gives cx.P 171 [af (txt z)] C (.tuple #[i_ (if (bj z.natAbs).length<=17 then z else 0),.bool (decide ((bj z.natAbs).length<=17))]):=by
 refine UU func171 18 U3 fun w0=>UM 2 [0] U<|UN 1 U fun R b=>UZ (dC C z) U7<|C6 5 [0,5] b U<|UM 3 [0,13] U<|G.cd (fun c=>?_) fun c=>?_
 ·have a:¬ (bj z.natAbs).length<=17:=by
   have:((bj z.natAbs).length:Int) > 17:=by simpa using c
   omega
  refine UM 2 [2,3] U<|U1 (G.dropAll (Vn U3 ?_));rw[aF a,RG a];exact⟨U,U⟩
 have a:(bj z.natAbs).length<=17:=by
  have:¬ ((bj z.natAbs).length:Int) > 17:=by simpa using c
  omega
 refine UN 1 U fun R b=>UZ (uo _ z a) U7<|C6 4 [2,3] b U<|U1 (G.dropAll (Vn U3 ?_));rw[aJ a,Rt a];exact⟨U,U⟩
theorem gR (C:Mem)(a:Tabs C)(z:Int)(b:-9223372036854775808<=z)(c:z<=9223372036854775807):Gives cx.P 106 [i_ z] C (af (txt z)):=by
 exact UU func106 5 U3 fun w0=>UM 1 [0] U<|UN 1 U fun R d=>UZ (fT _ a z b c) U7<|C6 1 [2] d U<|UT U2<|⟨U,U⟩
theorem pO (C:Mem)(z:Int):Gives cx.P 165 [af (txt z)] C (i_ (if z<0 then -1 else if z=0 then 0 else 1)):=by
 refine UU func165 13 U3 fun w0=>UM 1 [0] U<|UN 1 U fun R e=>UZ (dC C z) U7<|C6 5 [0,3] e U<|UM 1 [0,10] U<|G.cd (fun b=>?_) fun b=>?_
 ·have c:z<0:=by simpa using b
  refine UM 1 [2] U<|UT U2 ?_;rw[aJ c];exact⟨U,U⟩
 have c:¬ z<0:=by simpa using b
 rw[aF c];refine UM 2 [12] U<|G.cd (fun a=>?_) fun a=>?_
 ·rw[kH]at a;have d:z=0:=by simpa using a
  refine UM 1 [2] U<|UT U2 ?_;rw[aJ d];exact⟨U,U⟩
 rw[kH]at a;have d:¬ z=0:=by simpa using a
 refine UM 1 [2] U<|UT U2 ?_;rw[aF d];exact⟨U,U⟩
theorem nF (C:Mem)(z:Int)(d:(bj z.natAbs).length<=1000000):Gives cx.P 166 [af (txt z)] C (af (txt (-z))):=by
 refine UU func166 18 U3 fun w0=>UM 1 [0] U<|UN 1 U fun R a=>UZ (dC C z) U7<|C6 5 [0,3,4] a U<|UN 4 U fun R a=>Vq U8<|US [4,14] a U<|G.cd (fun b=>?_) fun b=>?_
 ·rw[kH]at b;have c:z<=0:=by simp at b;omega
  refine UM 2 [2] U<|UT U2<|⟨?_,U⟩;rw[show txt (-z)=bj z.natAbs by rw[show -z=((z.natAbs:Nat):Int) by omega,cX]]
 rw[kH]at b;have c:0<z:=by simp at b;omega
 refine UN 1 U fun R a=>VI U6 (fun _=>(by simp only[Rs,RQ];omega)) U2<|C6 1 [2] a U<|UT U2<|⟨?_,U⟩;rw[show txt (-z)=45::bj z.natAbs by unfold txt;rw[aJ om_];congr 2;omega];rfl
theorem tR (C:Mem)(z:Int):Gives cx.P 229 [af (txt z)] C (af (bj z.natAbs)):=by
 exact UU func229 11 U3 fun w0=>UM 1 [0] U<|UN 1 U fun R a=>UZ (dC C z) U7<|C6 5 [4] a U<|UM 2 [2] U<|UT U2<|⟨U,U⟩
theorem OP:BP ^ 200=10 ^ 800:=by decide +kernel
theorem eC (h:n<BP ^ 200):(bj n).length<=800:=dQ (by rw[<- OP];exact h) om_
theorem PieC.take {D:Mem}{u:Value}(h:PieC D u n)(a:n<BP ^ 201):∃ l,Bh l/\bq l=n/\l.length<=201/\Sl D 1 u (l.map aW):=by
 obtain⟨l,h1,h2,h3⟩:=h;exact⟨l,h1,h2,kw h1 (by rw[h2];exact a),h3⟩
theorem gk (C:Mem)(n:Nat)(h:n<BP ^ 200):Pur cx.P 173 [af (bj n)] C fun u D=>∃ l,Bh l/\bq l=n/\l.length<=200/\Sl D 1 u (l.map aW) :=
 (MX C (bj n) (bB n).1.1 (by have:=eC h;omega)).mono fun u D _ _ ⟨h0,l,h1,h2,h3⟩=>⟨h0,l,h1,by rw[h2,(bB n).2],kw h1 (by rw[h2,(bB n).2];exact h),h3⟩
theorem OO:BP ^ 200+BP ^ 200<BP ^ 201:=by decide +kernel
theorem pg (h:(bj z.natAbs).length<=17):z.natAbs<100000000000000000:=by
 have h1:=dA (bB z.natAbs).1.1;rw[(bB z.natAbs).2]at h1;have h2:10 ^ (bj z.natAbs).length<=10 ^ 17:=Rx dc_ h;omega
theorem F1 (h:decide (z<0)=decide (w<0)):sgZ (decide (z<0)) (z.natAbs+w.natAbs)=z+w:=by
 rw[RY]at h;unfold sgZ;by_cases a:z<0
 ·have:=h.1 a;rw[Rt a,aJ rfl];omega
 have:¬ w<0:=fun h1=>a (h.2 h1);rw[RG a,aF ak];omega
theorem M7 (h:decide (z<0)≠decide (w<0))(b:z.natAbs<w.natAbs):sgZ (decide (w<0)) (w.natAbs-z.natAbs)=z+w:=by
 rw[ne_eq,RY]at h;unfold sgZ;by_cases a:w<0
 ·have:¬ z<0:=fun h1=>h ⟨fun _=>a,fun _=>h1⟩;rw[Rt a,aJ rfl];omega
 have:z<0:=RB fun h1=>h ⟨fun h2=>absurd h2 h1,fun h2=>absurd h2 a⟩;rw[RG a,aF ak];omega
theorem F2 (h:decide (z<0)≠decide (w<0))(b:¬ z.natAbs<w.natAbs):sgZ (decide (z<0)) (z.natAbs-w.natAbs)=z+w:=by
 rw[ne_eq,RY]at h;unfold sgZ;by_cases a:z<0
 ·have:¬ w<0:=fun h1=>h ⟨fun _=>h1,fun _=>a⟩;rw[Rt a,aJ rfl];omega
 have:w<0:=RB fun h1=>h ⟨fun h2=>absurd h2 a,fun h2=>absurd h2 h1⟩;rw[RG a,aF ak];omega
theorem tQ (C:Mem)(g:Tabs C)(z w:Int)(v:z.natAbs<BP ^ 200)(x:w.natAbs<BP ^ 200):Gives cx.P 110 [af (txt z),af (txt w)] C (af (txt (z+w))):=by
 have B:=OO;refine UU func110 70 U3 fun w0=>UM 1 [0,1] U<|UN 1 U fun R a=>UZ (ph C z) U7<|C6 5 [0,1,5,6] a U<|UN 1 U fun R a=>UZ (ph _ w) U7<|C6 5 [0,1,5,6,7,8] a U<|UN 3 U fun R a=>Vk U8<|US [0,1,5,7,28] a U<|G.cd (fun q=>?_) fun q=>?_
 ·have h:(bj z.natAbs).length<=17/\(bj w.natAbs).length<=17:=by simpa using q
  have D:=pg h.1;have E:=pg h.2;rw[aJ h.1,aJ h.2];exact UN 2 U fun R a=>UV _ U U6<|UY (gR _ g (z+w) om_ om_) U7 fl_<|C6 1 [4] a U<|UT U2<|⟨U,U⟩
 refine UN 1 U fun R a=>UZ (dC _ z) U7<|C6 5 [1,9,10] a U<|UN 1 U fun R a=>UZ (dC _ w) U7<|C6 5 [9,10,11,12] a U<|UN 1 U fun R a=>Vu (gk _ z.natAbs v) U7 (fun F _ _ y=>?_);obtain⟨lp,i,H,I,j⟩:=y;refine UP U6<|Vu (gk _ w.natAbs x) U7 (fun J _ _ A=>?_);obtain⟨b,k,K,L,l⟩:=A;refine C6 2 [9,11,13,14] a U<|UM 4 [9,11,13,14,47] U<|G.cd (fun n=>?_) fun n=>?_
 ·have m:decide (z<0)=decide (w<0):=by simpa using n
  refine UN 3 U fun R a=>Vo (jx _ _ _ lp b 1 j.m_ l.m_ i.1 k.1 om_ om_ om_ om_) U7 fl_ (fun M _ _ r=>?_);rw[show((bq lp:Int)+1*(bq b:Int)).toNat=z.natAbs+w.natAbs by omega]at r;obtain⟨c,d,e,s,f⟩:=PieC.take r om_;refine UY (nJ _ g.m_ (decide (z<0)) _ c f.m_ d.1 om_) U7 fl_<|C6 1 [4] a U<|UT U2<|⟨?_,U⟩;rw[e,F1 m]
 have m:decide (z<0)≠decide (w<0):=by simpa using n
 refine UN 2 U fun R a=>UZ (Cp _ _ _ lp b j.m_ l.m_ i k) U7<|C6 1 [9,11,13,14,56] a U<|G.cd (fun o=>?_) fun o=>?_
 ·have p:z.natAbs<w.natAbs:=by
   have:bq lp<bq b:=by simpa using o
   omega
  refine UN 3 U fun R a=>Vo (jx _ _ _ b lp (-1) l.m_ j.m_ k.1 i.1 om_ om_ om_ om_) U7 fl_ (fun N _ _ t=>?_);rw[show((bq b:Int) + -1*(bq lp:Int)).toNat=w.natAbs-z.natAbs by omega]at t;obtain⟨c,d,e,s,f⟩:=PieC.take t om_;refine UY (nJ _ g.m_ (decide (w<0)) _ c f.m_ d.1 om_) U7 fl_<|C6 1 [4] a U<|UT U2<|⟨?_,U⟩;rw[e,M7 m p]
 have p:¬ z.natAbs<w.natAbs:=by
  have:¬ bq lp<bq b:=by simpa using o
  omega
 refine UN 3 U fun R a=>Vo (jx _ _ _ lp b (-1) j.m_ l.m_ i.1 k.1 om_ om_ om_ om_) U7 fl_ (fun O _ _ u=>?_);rw[show((bq lp:Int) + -1*(bq b:Int)).toNat=z.natAbs-w.natAbs by omega]at u;obtain⟨c,d,e,s,f⟩:=PieC.take u om_;refine UY (nJ _ g.m_ (decide (z<0)) _ c f.m_ d.1 om_) U7 fl_<|C6 1 [4] a U<|UT U2<|⟨?_,U⟩;rw[e,F2 m p]
theorem DO (C:Mem)(b:Tabs C)(z w:Int)(c:z.natAbs<BP ^ 200)(a:w.natAbs<BP ^ 200):Gives cx.P 237 [af (txt z),af (txt w)] C (af (txt (z-w))):=by
 exact UU func237 9 U3 fun w0=>UM 1 [0,1] U<|UN 2 U fun R d=>UY (nF _ w (by have:=eC a;omega)) U7 fl_<|UY (tQ _ b z (-w) c (by rw[T7];exact a)) U7 fl_<|C6 1 [4] d U<|UT U2<|⟨U,U⟩
theorem sf (C:Mem)(a:Tabs C)(z w:Int)(b:z.natAbs<BP ^ 200)(c:w.natAbs<BP ^ 200):Gives cx.P 180 [af (txt z),af (txt w)] C (i_ (if z-w<0 then -1 else if z-w=0 then 0 else 1)):=by
 exact UU func180 9 U3 fun w0=>UM 1 [0,1] U<|UN 2 U fun R d=>UZ (DO _ a z w b c) U7<|UZ (pO _ (z-w)) U7<|C6 1 [4] d U<|UT U2<|⟨U,U⟩
theorem pK (C:Mem)(n:Nat):Gives cx.P 172 [af (bj n)] C (.tuple #[.bool false,af (bj n)]):=by
 have h:=dC C (n:Int);rw[cX,RG om_]at h;exact h
theorem rH (C:Mem)(n:Nat):Gives cx.P 171 [af (bj n)] C (.tuple #[i_ (if (bj n).length<=17 then (n:Int) else 0),.bool (decide ((bj n).length<=17))]):=by
 have h:=ph C (n:Int);rw[cX]at h;exact h
theorem rI (h:(bj n).length<=17):n<100000000000000000:=pg (z:=(n:Int)) h
theorem GN (C:Mem)(a:Tabs C)(n:Nat)(h:n<=9223372036854775807):Gives cx.P 106 [i_ n] C (af (bj n)):=by
 have h:=gR C a (n:Int) om_ om_
 rwa [cX]at h
theorem uQ (C:Mem)(a:Tabs C)(v:Value)(l:List Nat)(b:Sl C 1 v (l.map aW))(c:DigP l)(d:l.length<=100000):Gives cx.P 174 [.bool false,v] C (af (bj (bq l))):=by
 have h:=nJ C a false v l b c d;rw[show sgZ false (bq l)=((bq l:Nat):Int) from rfl,cX]at h;exact h
theorem QI {q:Nat}(h:q<=9223372036854775807):IntKind.i64.wrap ((q:Nat):Int)=(q:Nat):=by rw[IntKind.wrap_i64];omega
theorem mK (C:Mem)(d:Tabs C)(a b:Nat)(l:a<BP ^ 200)(m:b<BP ^ 200)(e:0<b):Gives cx.P 168 [af (bj a),af (bj b)] C (.tuple #[af (bj (a / b)),af (bj (a % b))]):=by
 have D:=OO;refine UU func168 93 U3 fun w0=>UM 2 [0,1] U<|UN 1 U fun R c=>UZ (rH C a) U7<|C6 5 [0,1,6,7] c U<|UN 1 U fun R c=>UZ (rH _ b) U7<|C6 5 [0,1,6,7,8,9] c U<|UN 3 U fun R c=>Vk U8<|US [0,1,6,8,31] c U<|G.cd (fun f=>?_) fun f=>?_
 ·have hs:(bj a).length<=17/\(bj b).length<=17:=by simpa using f
  have h1:=rI hs.1;have h2:=rI hs.2;rw[aJ hs.1,aJ hs.2];have h0:=Sf a b;refine Vg [0,1,2,3,4,5,6,7] [] U kr_ fun R E c=>UR 2 U<|VX (((a / b:Nat):Int)) U6 om_ (by rw[TU om_];rfl) (QI om_) U2<|UR 2 U<|VY U6 om_ om_ U2<|C6 2 [6,8,10,11] c U<|UM 2 [6,8,10,11,39] U<|G.cd (fun g=>?_) fun g=>?_
  ·exfalso;have h3:=Uw (a:Int) (show(b:Int)≠0 by omega);simp only[Rj]at g;omega
  rw[<- Int.natCast_emod];have h3:=Sf a b;have h4:=RU a e;refine UN 1 U fun R c=>UY (GN _ d (a / b) om_) U7 fl_<|UP U6<|UY (GN _ d (a % b) om_) U7 fl_<|C6 2 [4,5] c U<|U1 (G.dropAll (Vn U3 ?_));exact⟨U,U⟩
 refine UN 1 U fun R c=>UZ (pK _ a) U7<|C6 5 [1,12,13] c U<|UN 1 U fun R c=>UZ (pK _ b) U7<|C6 5 [12,13,14,15] c U<|UN 1 U fun R c=>Vu (gk _ a l) U7 (fun F _ _ n=>?_);obtain⟨lp,o,p,H,q⟩:=n;refine UP U6<|Vu (gk _ b m) U7 (fun I _ _ r=>?_);obtain⟨s,t,u,J,v⟩:=r;refine Vo (Cv _ _ _ lp s q.m_ v.m_ o.1 t om_ om_ om_) U7 fl_ (fun K _ _ w=>?_);obtain⟨u1,L,rfl,h,i⟩:=w;rw[p,u]at h i;obtain⟨l1,x,y,M,z⟩:=PieC.take h (by have:=Sf a b;omega);obtain⟨l2,A,B,N,j⟩:=PieC.take i (by have:=RU a e;omega);obtain⟨A2,c2,rfl,_⟩:=id j;refine C6 5 [12,14,15,16,17] c U<|UN 5 U fun R c=>Vk U8<|US [12,14,15,16,17,78] c U<|G.cd (fun k=>?_) fun k=>?_
 ·exfalso;simp at k
 refine UN 4 U fun R c=>UY (uQ _ d.m_ _ l1 z.m_ x.1 om_) U7 fl_<|UP U6<|UY (uQ _ d.m_ _ l2 j.m_ A.1 om_) U7 fl_<|C6 2 [4,5] c U<|U1 (G.dropAll (Vn U3 ?_));rw[y,B];exact⟨U,U⟩
theorem Mx (n:Nat):((⟨(bj n).toArray⟩:ByteArray).data.toList == (⟨#[48]⟩:ByteArray).data.toList)=decide (n=0):=by
 have h:=kH (n:Int);rw[cX]at h;rw[h,RY];omega
theorem tk (C:Mem)(h:Tabs C)(z w:Int)(i:z.natAbs<BP ^ 200)(j:w.natAbs<BP ^ 200):Gives cx.P 167 [af (txt z),af (txt w)] C (af (bj (Nat.gcd z.natAbs w.natAbs))):=by
 refine UU func167 22 U3 fun w0=>UM 1 [0,1] U<|UN 1 U fun R e=>UZ (tR _ z) U7<|UP U6<|UZ (tR _ w) U7<|C6 2 [0,1] e U<|G.loop (fun fr p k l=>∃ (a b:Nat),(a<BP ^ 200/\b<BP ^ 200/\Nat.gcd a b=Nat.gcd z.natAbs w.natAbs)/\fr=[(0,[],af (bj a)),(1,[],af (bj b))]/\k=[]/\l=b+1) (hn_ [0,1] U) ⟨z.natAbs,w.natAbs,⟨i,j,U⟩,U,U,U⟩ (fun fr q r m _ n=>?_);obtain⟨a,b,⟨o,f,g⟩,rfl,rfl,rfl⟩:=n;refine UM 2 [0,1,12] U<|G.cd (fun c=>?_) fun c=>?_
 ·have d:0<b:=by
   rw[Mx]at c;have:b≠0:=by simpa using c
   omega
  have s:=RU a d;refine UN 2 U fun R e=>UZ (mK _ h.m_ a b o f d) U7<|C6 5 [1,6] e U<|UM 4 [0,1] U<|U0 (m':=a % b+1) om_ mup (hn_ [0,1] U) ⟨b,a % b,⟨f,by omega,by rw[<- g,P4 a b d]⟩,U,U,U⟩
 have d:b=0:=by
  rw[Mx]at c;simpa using c
 refine UM 2 [4] U<|UT U2<|⟨?_,U⟩;rw[<- g,d,TL]
def gd (s:Str):Int:=sgZ (ck 45 s).2 (bR (ck 45 s).1)
theorem yK {t:Str}(h:wc t):t.head?=some 48 ↔ bR t=0:=by
 constructor
 ·intro h0;have h1:=h.2.2 h0;cases t with
 |nil=>cases h0
 |cons b t =>
   have a:b=48:=by simpa using h0
   have d:t=[]:=by cases t with
   |nil=>rfl
   |cons c t=>simp at h1
   subst a d;rfl
 intro h0;have:=rG h (bB 0).1 (by rw[h0,(bB 0).2]);rw[this,bj];rfl
theorem yJ :jD s=true ↔ wc (ck 45 s).1/\((ck 45 s).2=true->0<bR (ck 45 s).1):=by
 obtain⟨t,neg,d⟩:∃ t b,ck 45 s=(t,b):=⟨_,_,rfl⟩;unfold jD;rw[d];simp only[Rq,TV,S4,ne_eq,Ru,Bool.and_eq_false_imp,SR,SK,RJ];constructor
 ·rintro ⟨⟨h1,h2⟩,h3⟩;have a:wc t:=⟨h1,h2,fun h=>by
   have:=(h3 h).2;have:0<t.length:=RX.2 h2;omega⟩
  refine⟨a,fun c=>?_⟩;rcases Sk (bR t) with h|h
  ·have:=(h3 ((yK a).2 h)).1;rw[c]at this;cases this
  exact h
 rintro ⟨a,h⟩;refine⟨⟨a.1,a.2.1⟩,fun h0=>?_⟩;have h1:=(yK a).1 h0;have h2:=a.2.2 h0;refine⟨?_,by omega⟩;cases c:neg with
|false=>rfl
|true=>have:=h c;omega
theorem HX (s:Str):s=if (ck 45 s).2 then 45::(ck 45 s).1 else (ck 45 s).1:=by
 unfold ck;split
 ·rename_i h;cases s with
 |nil=>cases h
 |cons b s =>
   have a:b=45:=by simpa using h
   subst a;rfl
 rfl
theorem yI (h:jD s=true):s=txt (gd s):=by
 obtain⟨h1,h2⟩:=yJ.1 h;unfold gd;rw[BC _ _ h2,<- pf h1];exact HX s
def lU (zn:Int):Option Str->Bool
|none=>true
|some b=>decide (1<gd b) && !(zn == 0) && (Nat.gcd zn.natAbs (gd b).natAbs == 1)
def aS (s:Str):Bool:=bS (iX 47 s).1 && bS ((iX 47 s).2.getD [49]) && lU (gd (iX 47 s).1) (iX 47 s).2
theorem nv :bS s=true ↔ okD (ck 45 s).1=true/\((ck 45 s).2=true->0<bR (ck 45 s).1):=by
 unfold bS;rw[Rq,yJ,uJ,Rj];constructor
 ·rintro ⟨⟨h1,h2⟩,h3⟩;exact⟨⟨h1,h3⟩,h2⟩
 rintro ⟨⟨h1,h3⟩,h2⟩;exact⟨⟨h1,h2⟩,h3⟩
theorem Db (s:Str):(gd s).natAbs=bR (ck 45 s).1:=by
 unfold gd sgZ;split <;> omega
theorem xl (h:s.length<=n):(iX 47 s).1.length<=n/\((iX 47 s).2.getD [49]).length<=n+1:=by
 rcases gY 47 s with⟨h1,_⟩|⟨a,post,h1,h2,_⟩
 ·rw[h1];exact⟨h,by simp⟩
 have e:=congrArg List.length h2;rw[Rf,Rs]at e;rw[h1];simp only[Sr];omega
theorem xf (h:bS s=true):s=txt (gd s)/\(gd s).natAbs<BP ^ 200:=by
 have h1:=nv.1 h;refine⟨yI (by unfold bS at h;exact(Ub.1 h).1), ?_⟩;rw[Db];have h2:=uJ.1 h1.1;have h3:=dA h2.1.1;have h4:∀ M,(ck 45 s).1.length<=M->10 ^ (ck 45 s).1.length<=10 ^ M:=fun M h=>Rx dc_ h;rw[OP];exact Sb h3 (h4 800 om_)
theorem one_val:([49]:Str)=txt 1:=by
 unfold txt;rw[aF om_,show bj (1:Int).natAbs=bj 1 from rfl,bj];rfl
theorem PM:(1:Int).natAbs<BP ^ 200:=by decide +kernel
theorem ry (n:Nat):((⟨(bj n).toArray⟩:ByteArray).data.toList == (⟨#[49]⟩:ByteArray).data.toList)=(n == 1):=by
 show(bj n == [49])=_;rw[P7,UB,Rj,SR];constructor
 ·intro h;have h2:=(bB n).2;rw[h]at h2;exact h2.symm
 rintro rfl;rw[bj];rfl
theorem Gf (C:Mem)(o:Tabs C)(s:Str)(u:s.length<=999998):Gives cx.P 112 [af s] C (.bool (aS s)):=by
 have p:=xl u;obtain⟨c,d,i⟩:∃ a b,iX 47 s=(a,b):=⟨_,_,rfl⟩;have e:aS s=(bS c && bS (d.getD [49]) && lU (gd c) d):=by
  unfold aS;rw[i]
 rw[i]at p;simp only at p;refine UU func112 34 U3 fun w0=>UM 1 [0] U<|UN 1 U fun R f=>UY (by have h:=xz C s om_;rw[i]at h;exact h) U7 fl_<|C6 5 [0,3,4] f U<|UN 1 U fun R f=>UY (xh _ c om_) U7 fl_<|UR 3 U<|Vh (fun _=>(xh _ (d.getD [49]) om_)) U9<|UP U6<|Vq U8<|US [0,3,4,17] f U<|G.cd (fun k=>?_) fun k=>?_
 ·have v:aS s=false:=by
   rw[e];cases h1:bS c with
  |false=>rfl
  |true =>
    rw[h1]at k;have h2:bS (d.getD [49])=false:=by simpa using k
    rw[h2];rfl
  exact UM 1 [2] U<|UT U2<|⟨by rw[v],U⟩
 have hr:bS c=true/\bS (d.getD [49])=true:=by simpa using k
 rw[hr.1,hr.2]at e;obtain⟨q,r⟩:=xf hr.1;refine UN 1 U fun R f=>UZ (mB _ s 47) U7<|C6 1 [3,4,20] f U<|G.cd (fun l=>?_) fun l=>?_
 ·have h0:¬ 0<=Lib.indexByte s 47:=by
   have:Lib.indexByte s 47<0:=by simpa using l
   omega
  have m:d=none:=by
   have h:=rA h0;rw[i]at h;exact(Un h).2
  rw[m]at e;exact UM 1 [2] U<|UT U2<|⟨by rw[e];rfl,U⟩
 have h0:0<=Lib.indexByte s 47:=by
  have:¬ Lib.indexByte s 47<0:=by simpa using l
  omega
 obtain⟨b,m⟩:∃ b,d=some b:=by
  obtain⟨E,post,h1,_⟩:=vy h0;rw[i]at h1;exact⟨post,(Un h1).2⟩
 subst m;obtain⟨w,x⟩:=xf hr.2;have t:b=txt (gd b):=w;have n:(gd b).natAbs<BP ^ 200:=x;obtain⟨j,y⟩:∃ z,gd c=z:=⟨_,rfl⟩;obtain⟨g,A⟩:∃ z,gd b=z:=⟨_,rfl⟩;unfold lU at e;simp only[y,A]at e q r t n;rw[show af c=af (txt j) from congrArg af q,show af ((some b).getD [49])=af (txt g) from congrArg af t];refine UN 1 U fun R f=>UY (by have h:=sf _ o.m_ g 1 n PM;rw[<- one_val]at h;exact h) U7 fl_<|UR 4 U<|Vk U8<|UR 3 U<|Vv (fun _=>(tk _ o.m_ j g r n)) U9<|UP U6<|Vk U8<|C6 1 [2] f U<|UT U2<|⟨?_,U⟩;have B:decide (0<if g-1<0 then (-1:Int) else if g-1=0 then 0 else 1)=decide (1<g):=by
  rw[RY];split
  ·omega
  split <;> omega
 have D:(j == 0)=decide (j=0):=by by_cases h:j=0 <;> simp[h]
 rw[e,B,kH,ry,D];rfl
theorem GE (C:Mem)(s:Str)(d:∀ c∈s,dU c=true)(e:s≠[])(f:s.length<=18):Gives cx.P 251 [af s,i_ 10,i_ 64] C (.tuple #[.int .u64 (bR s),.nilIface]):=by
 refine UU func251 26 U3 fun w0=>UM 2 [0,1,2] U<|UN 3 U fun R a=>UY (GD Tryz.parseU s d e f _ kr_) U7 fl_<|C6 5 [0,1,2,8,9] a U<|UN 1 U fun R a=>WJ false U U U U U (.inr ⟨U,U⟩) kr_ U U<|US [0,1,2,8,9,18] a U<|G.cd (fun b=>?_) fun b=>?_
 ·cases b
 refine UM 3 [6,7] U<|U1 (G.dropAll (Vn U3 ?_));exact⟨U,U⟩
theorem DW (C:Mem)(i:Nat)(h:i<100):Gives cx.P 313 [i_ i] C (af (bj i)):=by
 have h1:=Gives.ofCalls (f:=313) (args:=[i_ i]) (P:=cx.P) kr_ (fun w=>Any.internal_strconv_small Tryz.small10 i h w) C;rw[dR]at h1;exact h1
theorem CH (u:Nat):Lib.nDigits u=(bj u).length:=by rw[<- dR,Lib.decDigits_length]
theorem EB (C:Mem)(l:Tabs C)(u:Nat)(s:u<9223372036854775808):Gives cx.P 298 [.int .u64 u,i_ 10] C (af (bj u)):=by
 refine UU func298 32 U3 fun w0=>UM 1 [0,1] U<|UM 2 [0,1,10] U<|G.cd (fun g=>?_) fun g=>?_
 ·refine UM 2 [0,12] U<|G.cd (fun e=>?_) fun e=>?_
  ·have h:u<100:=by
    have:(u:Int)<100:=by simpa using e
    omega
   exact UN 1 U fun R a=>Vz (c:=(u:Int)) U8 f_ fl_<|UZ (DW _ u h) U7<|C6 1 [4] a U<|UT U2<|⟨U,U⟩
  have h:100<=u:=by
   have:¬ (u:Int)<100:=by simpa using e
   omega
  have t:Lib.nDigits u<=19:=by
   rw[CH];exact dQ om_ om_
  refine UQ fun R a=>Ve U5 fun i=>US [0,5] a U<|UN 1 U fun R a=>UY (xK Tryz.nDig u om_ om_ _ l.pow.m_ kr_) U7 fl_<|C6 1 [0,5,6] a U<|Vl [(3,3)] U fun R a=>UP U6<|Wa 0 (Lib.nDigits u) 24 U12 (fun _=>⟨.inl ⟨U,U⟩,.inr ⟨_,U⟩,.inl ⟨U,U⟩,by omega,by omega,by decide⟩) U2<|UP U6<|D.call (zX Tryz.fmt10 i 24 u 393 (List.replicate 24 (Value.int .u8 0)) om_ (fun j d=>(by rw[Sq,aJ om_])) om_ _ kr_) U (.inr dc_) U6 (Rh _) fl_ fun w _ z _ m=>US [5,6] a U ?_;obtain⟨_,rfl,cs,rfl,A,n⟩:=m;refine G.freeze 0 U (fun o _ p=>?_);have q:(bj u).length=Lib.nDigits u:=(CH u).symm;have k:Sl o 1 (s_ i ((bj u).map fun b=>[Value.int .u8 b.toNat]).length 24) ((bj u).map fun b=>[Value.int .u8 b.toNat]) :=
   Sl.ofBlock p e_ (fun j v d=>by
    rw[gz,Rb]at d;cases f:(bj u)[j]? with
   |none=>rw[f]at d;cases d
   |some x=>rw[f]at d;cases d;simpa using n j x f) ap (by simp[maxLen])
  rw[au,q]at k;exact UN 1 U fun R a=>Wa 0 (Lib.nDigits u) 24 U12 (fun _=>⟨.inl ⟨U,U⟩,.inr ⟨_,U⟩,.inl ⟨U,U⟩,by omega,by omega,by decide⟩) U2<|Wc k.m_ U11 fl_<|C6 1 [4] a U<|UT U2<|⟨U,U⟩
 exact absurd g dc_
theorem EC (C:Mem)(a:Tabs C)(u:Nat)(b:u<9223372036854775808):Gives cx.P 255 [.int .u64 u,i_ 10] C (af (bj u)):=by
 exact UU func255 8 U3 fun w0=>UM 1 [0,1] U<|UN 2 U fun R c=>UZ (EB _ a.m_ u b) U7<|C6 1 [4] c U<|UT U2<|⟨U,U⟩
theorem jW (C:Mem)(z:Int)(m:Nat)(d:m<=18):Gives cx.P 188 [af (txt z),i_ m] C (.tuple #[i_ (if (txt z).length<=m then z else 0),.bool (decide ((txt z).length<=m))]):=by
 refine UU func188 20 U3 fun w0=>UM 2 [0,1] U<|UM 4 [0,11] U<|G.cd (fun b=>?_) fun b=>?_
 ·have a:¬ (txt z).length<=m:=by
   have:(m:Int)<((txt z).length:Int):=by simpa using b
   omega
  refine UM 2 [4,5] U<|U1 (G.dropAll (Vn U3 ?_));exact⟨by rw[aF a,RG a],U⟩
 have a:(txt z).length<=m:=by
  have:¬ (m:Int)<((txt z).length:Int):=by simpa using b
  omega
 refine UN 1 U fun R c=>UY (AU Tryz.atoi z om_ _ kr_) U7 fl_<|C6 5 [6,7] c U<|Vg [0,1,2,3,4] [] U kr_ fun R e c=>UR 2 U<|WJ true U U U U U (.inl ⟨U,U⟩) kr_ U U<|C6 2 [4,5] c U<|U1 (G.dropAll (Vn U3 ?_));exact⟨by rw[aJ a,Rt a],U⟩
theorem jo (C:Mem)(z:Int)(v:(bj z.natAbs).length<=1000000):Pur cx.P 189 [af (txt z)] C fun u D=>∃ p,u=.agg ⟨[.bool (decide (z<0)),p]⟩/\NineC D p z.natAbs:=by
 obtain⟨S,i⟩:∃ S,bj z.natAbs=S:=⟨_,rfl⟩;have b:=(bB z.natAbs).1;have k:=(bB z.natAbs).2;rw[i]at v b k;refine UU func189 44 U3 fun w0=>UQ fun R a=>Ve U5 fun d=>US [0,2] a U<|UN 1 U fun R a=>UZ (Ie _ (txt z) 45) U7 ?_;rw[dI,i];refine C6 5 [2,3,4] a U<|UN 2 U fun R a=>VS (S.length) (9) U6 om_ (.inl ⟨U,by omega⟩) U2<|Vt (((S.length / 9+1:Nat):Int)) U4 om_ om_ om_ U2<|VQ U9 (Re _) (by show 8*(S.length / 9+1)<=281474976710656;omega) y_ fl_ fun M=>C6 1 [2,3,4,5] a U ?_;rw[show(af S:Value)=af (S.take S.length) by rw[Rk]];refine G.loop (fun fr N l y=>∃ (q j:Nat)(out:List Nat)(w:Value),(q<=S.length/\(q=0∨q+9*j=S.length)/\out.length=j/\j<=S.length/\(q=0∨j<S.length)/\Dig9 out/\bE out=bR (S.drop q))/\fr=[(2,[],p_ d),(3,[],af (S.take q)),(4,[],.bool (decide (z<0))),(5,[],w)]/\l=[.arr w 285 1 j (out.map cQ).flatten,.obj d (.cells ⟨[.bool false,.slice none 0 0]⟩ 273 (0,0))]/\y=q+1) (hn_ [2,3,4,5] U) ⟨S.length,0,[],_,⟨Q7 _,by omega,U,Re _,by have:=RX.2 b.2.1;omega,(fun x A=>(by cases A)),by rw[Sm];rfl⟩,U,U,U⟩ (fun fr O Q m _ B=>?_);obtain⟨q,j,out,w,⟨T,V,e,W,X,o,f⟩,rfl,rfl,rfl⟩:=B;refine UM 3 [2,3,4,5,21] U<|G.cd (fun g=>?_) fun g=>?_
 ·have E:(⟨(S.take q).toArray⟩:ByteArray).data.toList.length=q:=by
   show(S.take q).length=q;rw[Ro];omega
  have F:(S.take q).length=q:=E;have r:0<q:=by
   have h:(0:Int)<(((⟨(S.take q).toArray⟩:ByteArray).data.toList.length:Nat):Int):=by simpa using g
   omega
  have H:(gX S (q-9) q).length<=9/\0<(gX S (q-9) q).length:=by
   unfold gX;rw[Tc,Ro];omega
  have I:∀ c∈gX S (q-9) q,dU c=true:=fun c J=>b.1 c (So (Tw J));refine UN 2 U fun R a=>Vt (((q:Int)-9)) U4 om_ om_ om_ U2<|D.max (((q-9:Nat):Int)) U6 om_ U2<|C6 1 [2,3,4,5,6] a U<|UN 2 U fun R a=>VL (q-9) (S.take q).length U9 (fun _=>⟨.inr ⟨_,U⟩,.inl ⟨U,U⟩,.inl ⟨U,U⟩,by omega,Q7 _,Q7 _⟩) U2 ?_;rw[show(((S.take q).take (S.take q).length).drop (q-9))=gX S (q-9) q from by rw[Rk];rfl];refine UY (GE _ (gX S (q-9) q) I (RX.1 H.2) om_) U7 fl_<|C6 5 [2,3,4,5,6,7] a U<|Vg [0,1,4,5,6,2,3,7,8] [] U kr_ fun R Y a=>UR 4 U<|VL 0 (q-9) U9 (fun _=>⟨.inl ⟨U,U⟩,.inr ⟨_,U⟩,.inl ⟨U,U⟩,by omega,by omega,Q7 _⟩) U2<|Vj [cQ (bR (gX S (q-9) q))] U12 fun Z _ _ K=>D.append (j:=0) U11 K U ax (by show(j+1)*8<=_;omega) fl_ fun s=>C6 2 [2,3,4,5] a U ?_;rw[show((S.take q).take (q-9)).drop 0=S.take (q-9) from by rw[Sx,T6,Sa om_]];refine Vc (L':=[.arr s 285 1 (j+1) ((out++[bR (gX S (q-9) q)]).map cQ).flatten,.obj d (.cells ⟨[.bool false,.slice none 0 0]⟩ 273 (0,0))]) (by simp[cQ])<|U0 (m':=q-9+1) om_ mup (hn_ [2,3,4,5] U) ⟨q-9,j+1,out++[bR (gX S (q-9) q)],s,⟨by omega,by omega,by simp[e],by omega,by omega,o.snoc (K2 b.1 om_),DK om_ e om_ f⟩,U,U,U⟩
 have r:q=0:=by
  have F:(S.take q).length=q:=by rw[Ro];omega
  have h:¬ (0:Int)<(((S.take q).length:Nat):Int):=by simpa using g
  omega
 subst r;rw[Sx,k]at f;refine Vl [(2,3)] U fun R a=>UR 2 U<|D.call (gH _ _ out (n:=j) e) U (.inr dc_) U6 (Rh _) fl_ (fun aa _ ab _ L=>?_);obtain⟨rfl,t⟩:=L;obtain⟨Au,cu,rfl,_⟩:=id t;refine Vf [.bool (decide (z<0)),_] U8<|UX (j:=0) U12<|US [2] a U<|U1 (VF ag U4 ?_);exact⟨U,_,U,Fi out,iL o,by rw[iK,f],t⟩
theorem EJ (k:Nat)(s:Str):bR (List.replicate k 48++s)=bR s:=by
 induction k with
|zero=>rfl
|succ k a=>rw[Sd,S3,dJ,a];simp
theorem NI (h:x<1000000000):nh 9 x=List.replicate (9-(bj x).length) 48++bj x:=by
 obtain⟨h1,h2,h3⟩:=kZ 9 x h;obtain⟨h4,h5⟩:=bB x;have b:(bj x).length<=9:=dQ om_ om_;refine Ay h2 (fun c a=>?_) (by rw[h1];simp;omega) (by rw[h3,EJ,h5]);rcases Rr.1 a with a|a
 ·rw[S9 a];rfl
 exact h4.1 c a
def Lt (l:List Nat)(j:Nat)(s:Str):Prop:=(j=0/\s=[])∨(0<j/\wc s/\bR s=bE (l.drop (l.length-j))/\0<bR s)
theorem Er (b:yY l)(d:j<l.length)(h:Lt l j s):Lt l (j+1) (s++if j=0 then bj (g9 l (l.length-1-j)) else nh 9 (g9 l (l.length-1-j))):=by
 have a:l[l.length-1-j]?=some (g9 l (l.length-1-j)):=yh om_;refine .inr ⟨by omega, ?_⟩;rw[show l.length-(j+1)=l.length-1-j by omega];rcases h with⟨rfl,rfl⟩|⟨h0,h1,h2,h3⟩
 ·rw[aJ rfl,Ti];obtain⟨h4,h5⟩:=bB (g9 l (l.length-1-0));have c:bE (l.drop (l.length-1-0))=g9 l (l.length-1-0):=by
   rw[Ry om_,show l.length-1-0+1=l.length by omega,Sm];rw[ai om_]at a;rw[SG a];show _+B9*0=_;omega
  refine⟨h4,by rw[h5,c], ?_⟩;rw[h5];rcases Sk (g9 l (l.length-1-0)) with h|h
  ·rw[h]at a;exact absurd (by rw[Tt];exact a) b.2
  exact h
 rw[aF om_];rw[show l.length-j=l.length-1-j+1 by omega]at h2;exact EA b.1 a h1 h2 h3
theorem ku (C:Mem)(W:Tabs C)(m:Bool)(v:Value)(n:Nat)(X:NineC C v n)(Y:n<B9 ^ 100000):Gives cx.P 191 [.agg ⟨[.bool m,v]⟩] C (af (txt (sgZ m n))):=by
 obtain⟨ls,J,K,al,hs⟩:=X.get Y;obtain⟨A,c,rfl,_⟩:=id hs;simp only[au]at hs⊢;refine We kr_ func191 U 34 U U fun w0=>UQ fun R a=>Vd U6 fun L=>C6 1 [1] a U<|G.freeze 0 U fun _ _ o=>UN 1 U fun R a=>UO (PtrTo.block (Mem.get o mup) _) U8<|C6 2 [1,10] a U<|G.cd (fun y=>?_) fun y=>?_
 ·have M:ls=[]:=by
   have:(ls.length:Int)=0:=by simpa using y
   exact RZ om_
  refine UM 1 [2] U<|U1 (Wj (LV U U) ?_ KS);subst M;refine⟨?_,U⟩;rw[<- K,(BB (sgZ m (bE []))).2 (by cases m <;> rfl)];rfl
 have M:0<ls.length:=by
  have:¬ (ls.length:Int)=0:=by simpa using y
  omega
 obtain⟨d,g⟩:∃ d:Str,(if m then [45] else [])=d:=⟨_,rfl⟩;have am:d.length<=1:=by rw[<- g];split <;> simp
 refine UQ fun R a=>Ve U5 fun b=>US [1,3] a U<|G.nilArr 5 1<|G.perm (L':=[.obj b (.cells ⟨[.pointer none,.slice none 0 0]⟩ 344 (0,0)),.arr (.slice none 0 0) 5 1 0 []]) (List.Perm.swap _ _ _)<|UN 1 U fun R a=>UO (PtrTo.block (Mem.get o mup) _) U8<|US [1,3,12] a U<|G.cut (fun fr Z e z=>∃ (q:Option Addr)(w:Value),(q=none∨q=some ⟨b,0,none⟩)/\fr=[(1,[],p_ L),(3,[],p_ b)]/\e=[.obj b (.cells ⟨[.pointer q,w]⟩ 344 (0,0)),.arr w 5 1 d.length (u8s d)]) ?_ (fun fr _ an z _ f=>?_)
 ·refine G.cd (fun B=>?_) fun B=>?_
  ·rw[aJ B]at g;subst g;refine Vl [(0,3)] U fun R a=>D.call (we _ b none (.slice none 0 0) [] 45 (.inl U) ak) U (.inr dc_) U6 (Rh _) fl_ fun ao _ aq _ aa=>US [1,3] a U ?_;obtain⟨w1,rfl⟩:=aa;refine Vb 0 mup (hn_ [1,3] U) ⟨some ⟨b,0,none⟩,w1,.inr U,U,U⟩
  rw[aF (by rw[B];decide)]at g;subst g;refine Vb 0 mup (hn_ [1,3] U) ⟨none,.slice none 0 0,.inl U,U,U⟩
 obtain⟨q ,w,hq,rfl,rfl⟩:=f;refine UN 1 U fun R a=>UO (PtrTo.block (Mem.get o mup) _) U8<|Vu (Dp _ A ls.length c) U7 fun ar _ _ ab=>US [1,3,16] a U ?_;obtain⟨bb,rfl,ac⟩:=ab;refine Vc (L':=[.obj b (.cells ⟨[.pointer q,w]⟩ 344 (0,0)),.arr w 5 1 (d++[]).length (u8s (d++[]))]) (by rw[RC])<|G.rangeFunc U U U kr_ (tP _ bb _ _ ls ac hs.m_ om_) (fun j e=>∃ (q:Option Addr)(w:Value)(s:Str),((q=none∨q=some ⟨b,0,none⟩)/\Lt ls j s/\s.length<=9*j)/\e=[.obj b (.cells ⟨[.pointer q,w]⟩ 344 (0,0)),.arr w 5 1 (d++s).length (u8s (d++s))]) ⟨q,w,[],⟨hq,.inl ⟨U,U⟩,by simp⟩,U⟩ U (fun _ _=>rfl) (fun u v=>[(1,[],p_ L),(3,[],p_ b),(4,[],u),(5,[],v)]) (fun l u v W1 e=>?_) (fun l j u v e W1 f E=>?_) (fun bD e f=>?_)
 ·exact UM 1 [1,3,4,18] U<|UM 1 [1,3,4,5] U<|WU ⟨U,U,U,U,trivial⟩
 ·obtain⟨q,w,s,⟨F,p,N⟩,rfl⟩:=f;have O:j<ls.length:=by have:=(aT.1 E).1;rwa [fX]at this
  rw[vM O]at E;cases E
  have Q:=Er J O p;obtain⟨x,H⟩:∃ x,g9 ls (ls.length-1-j)=x:=⟨_,rfl⟩;have i:x<B9:=by rw[<- H];exact lj J.1 _
  rw[show ls.getD (ls.length-1-j) 0=x from H];rw[H]at Q;have av:(bj x).length<=9:=dQ (by rw[B9v]at i;omega) om_;have ad:=NI (x:=x) (by rw[B9v]at i;exact i);have aw:(nh 9 x).length=9:=(kZ 9 x (by rw[B9v]at i;omega)).1;refine UN 1 U fun R a=>UY (EC _ W.m_ x (by rw[B9v]at i;omega)) U7 fl_<|C6 1 [1,3,4,6] a U<|UN 2 U fun R a=>UO (PtrTo.block (Mem.get o mup) _) U8<|UP U6<|UV _ U U6<|C6 1 [3,6,26] a U<|G.cut (fun fr Z e z=>∃ (k:Option Addr)(r:Value)(t:Str),((k=none∨k=some ⟨b,0,none⟩)/\t++bj x=d++(s++if j=0 then bj x else nh 9 x)/\t.length<=9*j+10)/\fr=[(3,[],p_ b),(6,[],af (bj x))]/\e=[.obj b (.cells ⟨[.pointer k,r]⟩ 344 (0,0)),.arr r 5 1 t.length (u8s t)]) ?_ (fun fr _ ax z _ f=>?_)
  ·refine G.cd (fun I=>?_) fun I=>?_
   ·have S:0<j:=by
     have:((ls.length-1-j:Nat):Int)<(ls.length:Int)-1:=by simpa using I
     omega
    refine Vl [(3,3)] U fun R a=>UR 2 U<|VL (bj x).length 9 U9 (fun _=>⟨.inr ⟨_,U⟩,.inl ⟨U,U⟩,.inl ⟨U,U⟩,by omega,Q7 _,Q7 _⟩) U2 ?_;rw[show((([48,48,48,48,48,48,48,48,48]:Str).take 9).drop (bj x).length)=List.replicate (9-(bj x).length) 48 from by rw[show(([48,48,48,48,48,48,48,48,48]:Str).take 9)=List.replicate 9 48 from rfl,List.drop_replicate]];refine D.call (kG _ b q w (d++s) (List.replicate (9-(bj x).length) 48) F ap) U (.inr dc_) U6 (Rh _) fl_ fun ay _ az _ ae=>US [3,6] a U ?_;obtain⟨w1,rfl⟩:=ae;refine Vb 0 mup (hn_ [3,6] U) ⟨some ⟨b,0,none⟩,w1,_,⟨.inr U,by rw[aF om_,ad];simp[],by simp;omega⟩,U,U⟩
   have S:j=0:=by
    have:¬ ((ls.length-1-j:Nat):Int)<(ls.length:Int)-1:=by simpa using I
    omega
   refine Vb 0 mup (hn_ [3,6] U) ⟨q,w,d++s,⟨F,by rw[aJ S,RL],by simp;omega⟩,U,U⟩
  obtain⟨k ,r ,t,⟨ag,ah,aA⟩,rfl,rfl⟩:=f;refine Vl [(1,3)] U fun R a=>UP U6<|D.call (kG _ b k r t (bj x) ag om_) U (.inr dc_) U6 (Rh _) fl_ fun aB _ aC _ ai=>VU [] trivial (a _ _ _ U ?_);obtain⟨w4,rfl⟩:=ai;rw[ah];exact Wv (R:=fun e=>∃ (q:Option Addr)(w:Value)(s:Str),((q=none∨q=some ⟨b,0,none⟩)/\Lt ls (j+1) s/\s.length<=9*(j+1))/\e=[.obj b (.cells ⟨[.pointer q,w]⟩ 344 (0,0)),.arr w 5 1 (d++s).length (u8s (d++s))]) (Rh _) ⟨some ⟨b,0,none⟩,w4,_,⟨.inr U,Q,by rw[Rf];split <;> omega⟩,U⟩
 obtain⟨q,w,s,⟨F,p,N⟩,rfl⟩:=f;rw[fX]at p;obtain⟨aD,T,V,aE⟩:0<ls.length/\wc s/\bR s=bE (ls.drop (ls.length-ls.length))/\0<bR s:=p.elim (fun h=>by omega) id;rw[T0,Sx,K]at V;refine G.perm (L':=[.obj b (.cells ⟨[.pointer q,w]⟩ 344 (0,0)),.arr w 5 1 (d++s).length (u8s (d++s)),.obj bD (.deferred (some []))]) (pkL [1,1,0] U)<|Vl [(0,3)] U fun R a=>D.call (ER _ b q w (d++s) (fun h=>T.2.1 (Uk.1 h).2) (by simp;rw[fX]at N;omega)) U (.inr dc_) U6 (Rh _) fl_ fun aG _ aH _ aj=>C6 1 [2] a U ?_;obtain⟨rfl,rfl⟩:=aj;refine U1 (WS (LV U U) ?_);refine⟨?_,U⟩;have es:s=bj n:=by rw[<- V];exact pf T
 rw[BC m n (fun _=>by omega),es,<- g];cases m <;> rfl
theorem tE (a:0<Q):(x+B9*t) / Q=B9*(t / Q)+(x+B9*(t % Q)) / Q/\(x+B9*t) % Q=(x+B9*(t % Q)) % Q:=by
 have h:x+B9*t=(x+B9*(t % Q))+Q*(B9*(t / Q)):=by
  have h1:=Ue t Q;have h2:B9*t=B9*(t % Q)+B9*(Q*(t / Q)):=by rw[<- Sg,h1]
  rw[h2,UH];omega
 rw[h,T9 _ _ a,Nat.add_mul_mod_self_left];exact⟨by omega,U⟩
theorem mL (a:0<Q)(b:x<B9):(x+B9*(t % Q)) / Q<B9:=by
 rw[S8 a];have h1:=RU t a;have h2:B9*(t % Q+1)<=B9*Q:=Sz _ h1;rw[Sg]at h2;omega
theorem fF (h:j<l.length):bE (l.drop j)=g9 l j+B9*bE (l.drop (j+1)):=by
 rw[Ry h,bE,zW (ai h)]
theorem lN (h:j<l.length):bE ((l.set j x).drop j)=x+B9*bE (l.drop (j+1)):=by
 rw[Ry (by simpa using h),bE,List.getElem_set_self,List.drop_set_of_lt om_]
theorem tD (C:Mem)(va M:Value)(m d:Nat)(ha:NineC C va m)(hm:m<B9 ^ 200000)(F:Sl C 1 M ([d].map cQ))(H:0<d)(hd:d<B9) :
  Pur cx.P 227 [va,M] C fun u D=>∃ q r,u=.tuple #[q,r]/\NineC D q (m / d)/\NineC D r (m % d):=by
 have aa:NineC C M d:=⟨[d],⟨fun x o=>(by rw[Rw.1 o];exact hd),by simp;omega⟩,by show d+B9*0=d;omega,F⟩;have N:=ha;obtain⟨a,am,ab,aD,O⟩:=ha.get hm;obtain⟨A0,c0,rfl,_⟩:=id O;obtain⟨B0,d0,rfl,aF⟩:=id F;simp only[au,Q8]at F aa O N⊢;have p:=B9v;refine We kr_ func227 U 146 U U fun w0=>UQ fun R b=>Vd U6 fun b3=>Ve U5 fun g=>C6 1 [0,3,4,5] b U<|G.freeze 1 U fun _ _ K=>UN 1 U fun R b=>UO (PtrTo.block (Mem.get K mup) _) U8<|UZ (qE _ N.m_ aa.m_) U7<|C6 1 [0,3,4,5,17] b U<|G.cd (fun Q=>?_) fun Q=>?_
 ·have S:m<d:=by
   have:jY m d<0:=by simpa using Q
   exact jn.1 this
  refine UN 1 U fun R b=>UX (j:=0) U12<|C6 1 [4,5] b U<|U1 (Wj (B7 ag U U U U U) ?_ KS);refine⟨U,_,_,U, ?_, ?_⟩
  ·rw[TD S];exact NineC.zero _
  rw[T8 S];exact N.mono mup
 have S:d<=m:=by
  have h:¬ jY m d<0:=by simpa using Q
  rw[jn]at h;omega
 obtain⟨n,hn⟩:∃ n,a.length=n:=⟨_,rfl⟩;refine UQ fun R b=>UO (PtrTo.block (Mem.get K mup) _) U8<|C6 2 [0,3,4,5,21] b U<|G.cd (fun ad=>?_) fun ad=>?_
 ·refine UN 2 U fun R b=>VQ U9 (Q7 _) (by show 8*a.length<=281474976710656;omega) y_ fl_ fun f=>UX (j:=1) U12<|US [0,3,4] b U<|UQ fun R b=>Ve U5 fun k=>UX (j:=0) U12<|US [0,3,4,6] b U<|UN 1 U fun R b=>Vu (Dp _ A0 a.length c0) U7 fun aG _ _ an=>US [3,4,6,26] b U ?_;obtain⟨bb,rfl,ao⟩:=an;refine Vc (L':=[.obj k (.cells ⟨[.int .u64 ((bE (a.drop (a.length-0)) % d:Nat):Int)]⟩ 285 (0,0)),.obj g (.cells ⟨[qU f a.length a.length]⟩ 271 (0,0)),.arr (qU f a.length a.length) 285 1 a.length ((List.replicate a.length 0).map cQ).flatten]) (by rw[<- Fj,T5,Sm,show bE []=0 from U,Nat.zero_mod];rfl)<|G.rangeFunc U U U kr_ (tP _ bb _ _ a ao O.m_ om_) (fun j e=>∃ (c:List Nat),(c.length=a.length/\Dig9 c/\bE (c.drop (a.length-j))=bE (a.drop (a.length-j)) / d)/\e=[.obj k (.cells ⟨[.int .u64 ((bE (a.drop (a.length-j)) % d:Nat):Int)]⟩ 285 (0,0)),.obj g (.cells ⟨[qU f a.length a.length]⟩ 271 (0,0)),.arr (qU f a.length a.length) 285 1 a.length (c.map cQ).flatten]) ⟨List.replicate a.length 0,⟨RI,(fun x o=>by rw[S9 o];decide),by rw[T5,Sm,T3 ak];simp[bE]⟩,U⟩ U (fun _ _=>rfl) (fun u v=>[(3,[],p_ b3),(4,[],p_ g),(6,[],p_ k),(7,[],u),(8,[],v)]) (fun l u v W1 e=>?_) (fun l j u v e W1 s V=>?_) (fun bD e s=>?_)
  ·exact UM 1 [3,4,6,7,28] U<|UM 1 [3,4,6,7,8] U<|WU ⟨U,U,U,U,U,trivial⟩
  ·obtain⟨c,⟨I,L,B⟩,rfl⟩:=s;have ap:j<a.length:=by have:=(aT.1 V).1;rwa [fX]at this
   rw[vM ap]at V;cases V
   obtain⟨i,hi⟩:∃ i,a.length-1-j=i:=⟨_,rfl⟩;have af:a.length-j=i+1:=by omega
   obtain⟨T,hT⟩:∃ T,bE (a.drop (i+1))=T:=⟨_,rfl⟩;have aq:=lj am.1 i;have aH:=RU T H;have hX:T % d*B9+g9 a i<18446744073709551616:=by
    have:=RV B9 (show T % d<=999999999 by omega);rw[p]at this⊢;omega
   rw[hi,af,hT,show a.getD i 0=g9 a i from rfl];rw[af,hT]at B;have ar:T % d*B9+g9 a i=g9 a i+B9*(T % d):=by rw[RT,Tm]
   have W:=tE (t:=T) (x:=g9 a i) H;have ah:=mL (t:=T) H aq;rw[<- ar]at W ah;refine UQ fun R b=>UW ag U9<|D.int (((T % d*B9:Nat):Int)) U4 (by rw[show(1000000000:Int)=((B9:Nat):Int) from U,<- RF,IntKind.wrap_u64];omega) U2<|UP U6<|D.int (((T % d*B9+g9 a i:Nat):Int)) U4 g_ U2<|UX (j:=0) U12<|US [3,4,6,7] b U<|G.cut (fun fr X e Y=>(True)/\fr=[]/\e=[.obj k (.cells ⟨[.int .u64 (((T % d*B9+g9 a i) % d:Nat):Int)]⟩ 285 (0,0)),.arr (qU f a.length a.length) 285 1 a.length (aE (c.map cQ).flatten [Value.int .u64 (((T % d*B9+g9 a i) / d:Nat):Int)] (i*1)),.obj g (.cells ⟨[qU f a.length a.length]⟩ 271 (0,0))]) ?_ (fun fr aI aJ Y aK s=>?_)
   ·refine VJ (.cut [0,1,2,3,4,5,6,8,9,10,12] (.alt 7 (.fin [11,13,14]) (.alt 13 (.fin [7,11,14]) .stop))) [] U U kr_ fun R p b w=>UW ae U9<|UP U6<|UW ag U9<|UO (PtrTo.block (Mem.get K mup) _) U8<|Va F.m_ U10 om_ (rfl:([d].map cQ)[(0:Int).toNat]?=some (cQ d)) fl_ fun aL av=>UO av U8<|VS (T % d*B9+g9 a i) (d) U6 om_ (.inr ⟨U,by omega⟩) U2<|UO (PtrTo.block (Mem.get K mup) _) U8<|Va F.m_ U10 om_ (rfl:([d].map cQ)[(0:Int).toNat]?=some (cQ d)) fl_ fun aM aw=>UO aw U8<|Vp (i*1) U10 w_ U2<|Vw w U ⟨?_, ?_,trivial⟩
    ·first|refine VP ag U9 ?_|refine VP ae U9 ?_
     refine VN (T % d*B9+g9 a i) (d) U6 om_ U2<|Vr (j:=2) U11 (by show i*1+1<=_;rw[bT eM,I];omega)<|UX (j:=1) U12<|VU [] trivial (b _ _ _ U ?_);clear b p w R;exact Vb 0 l_ (fr':=[]) trivial ⟨trivial,U,U⟩
    refine Vr (j:=2) U11 (by show i*1+1<=_;rw[bT eM,I];omega) ?_
    first|refine VP ag U9 ?_|refine VP ae U9 ?_
    refine VN (T % d*B9+g9 a i) (d) U6 om_ U2<|UX (j:=1) U12<|VU [] trivial (b _ _ _ U ?_);clear b p w R;exact Vb 0 l_ (fr':=[]) trivial ⟨trivial,U,U⟩
   obtain⟨_,rfl,rfl⟩:=s;refine G.perm (L':=[.obj k (.cells ⟨[.int .u64 (((T % d*B9+g9 a i) % d:Nat):Int)]⟩ 285 (0,0)),.obj g (.cells ⟨[qU f a.length a.length]⟩ 271 (0,0)),.arr (qU f a.length a.length) 285 1 a.length (aE (c.map cQ).flatten [Value.int .u64 (((T % d*B9+g9 a i) / d:Nat):Int)] (i*1))]) (pkL [0,1,0] U) ?_;have ai:bE (a.drop i)=g9 a i+B9*T:=by rw[fF om_,hT]
   have ax:bE (a.drop (a.length-(j+1))) % d=(T % d*B9+g9 a i) % d:=by rw[show a.length-(j+1)=i by omega,ai,W.2]
   exact Vc (L':=[.obj k (.cells ⟨[.int .u64 ((bE (a.drop (a.length-(j+1))) % d:Nat):Int)]⟩ 285 (0,0)),.obj g (.cells ⟨[qU f a.length a.length]⟩ 271 (0,0)),.arr (qU f a.length a.length) 285 1 a.length ((c.set i ((T % d*B9+g9 a i) / d)).map cQ).flatten]) (by rw[ax,<- bM eM _ (by omega:i<c.length)];rfl)<|Wv (R:=fun e=>∃ (c:List Nat),(c.length=a.length/\Dig9 c/\bE (c.drop (a.length-(j+1)))=bE (a.drop (a.length-(j+1))) / d)/\e=[.obj k (.cells ⟨[.int .u64 ((bE (a.drop (a.length-(j+1))) % d:Nat):Int)]⟩ 285 (0,0)),.obj g (.cells ⟨[qU f a.length a.length]⟩ 271 (0,0)),.arr (qU f a.length a.length) 285 1 a.length (c.map cQ).flatten]) (Rh _) ⟨c.set i ((T % d*B9+g9 a i) / d),⟨by simp[I],L.set ah,by rw[show a.length-(j+1)=i by omega,ai,lN om_,B,W.1];omega⟩,U⟩
  obtain⟨c,⟨I,L,B⟩,rfl⟩:=s;rw[fX,T0,Sx,Sx,ab]at B;rw[fX,T0,Sx,ab];refine G.freezeArr 3 (c.map cQ) U2 e_ (by rw[au,I]) fun Cq aN aj=>G.cut (fun fr X e Y=>∃ (E z:Value),(NineC X E (m / d)/\NineC X z (m % d))/\fr=[(4,[],p_ g),(5,[],z)]/\e=[.obj g (.cells ⟨[E]⟩ 271 (0,0)),.obj bD (.deferred (some [])),.obj k (.cells ⟨[.int .u64 ((m % d:Nat):Int)]⟩ 285 (0,0))]) ?_ (fun fr aO aP Y aQ s=>?_)
  ·refine VJ (.cut [0,2] (.alt 1 (.fin [3,4,5,6]) (.alt 3 (.fin [1,4,5,6]) .stop))) [] U U kr_ fun R p b w=>UW ac U9<|UW ae U9<|Vw w U ⟨?_, ?_,trivial⟩
   ·refine Vu (wu _ L aj.m_) U7 fun E ay _ A=>Vj [cQ (m % d)] U12 fun az aA _ Z=>Vo (wu _ (l:=[m % d]) (fun x o=>by rw[Rw.1 o];have:=RU m H;omega) Z.m_) U7 fl_ (fun z aB _ J=>?_);obtain⟨A7,m7,c7,rfl⟩:=A.form;refine UX (j:=2) U12<|UP U6<|US [4,5] b U ?_;clear b p w R;rw[show bE [m % d]=m % d from(by show m % d+B9*0=m % d;omega)]at J;rw[B]at A;exact Vb 0 mup (hn_ [4,5] U) ⟨_,z,⟨A.mono mup,J.mono mup⟩,U,U⟩
   refine Vj [cQ (m % d)] U12 fun az aA _ Z=>Vu (wu _ L aj.m_) U7 fun E ay _ A=>Vo (wu _ (l:=[m % d]) (fun x o=>by rw[Rw.1 o];have:=RU m H;omega) Z.m_) U7 fl_ (fun z aB _ J=>?_);obtain⟨A7,m7,c7,rfl⟩:=A.form;refine UX (j:=2) U12<|UP U6<|US [4,5] b U ?_;clear b p w R;rw[show bE [m % d]=m % d from(by show m % d+B9*0=m % d;omega)]at J;rw[B]at A;exact Vb 0 mup (hn_ [4,5] U) ⟨_,z,⟨A.mono mup,J.mono mup⟩,U,U⟩
  obtain⟨E,z,⟨al,aC⟩,rfl,rfl⟩:=s;refine G.perm (L':=[.obj bD (.deferred (some [])),.obj g (.cells ⟨[E]⟩ 271 (0,0)),.obj k (.cells ⟨[.int .u64 ((m % d:Nat):Int)]⟩ 285 (0,0))]) (pkL [1,0,0] U) ?_;obtain⟨A7,m7,c7,rfl⟩:=al.form;refine U1 (WS (B7 ag U U U U U) ?_);exact⟨U,_,_,U,al,aC⟩
 exact absurd ad dc_
theorem wn (h:Dig9 l)(a:k<=l.length):bE l / B9 ^ k=bE (l.drop k):=by
 have e:bE l=bE (l.take k)+B9 ^ k*bE (l.drop k):=by
  conv=>lhs;rw[<- R5 k l]
  rw[fI,Ro,Sa a]
 have h1:=jd (h.take k);rw[Ro,Sa a]at h1;rw[e,T9 _ _ (TG dc_),TD h1,SD]
theorem ve {b a:List Nat}(f:yY b)(c:yY a)(j:0<a.length)(m:a.length<=b.length):bE b / bE a<=bE (b.drop (a.length-1)) / g9 a (a.length-1)/\0<g9 a (a.length-1):=by
 have d:bE (a.drop (a.length-1))=g9 a (a.length-1):=by
  rw[fF om_,show a.length-1+1=a.length by omega,Sm];show _+B9*0=_;omega
 have h1:=wn c.1 (k:=a.length-1) om_;have h2:=wn f.1 (k:=a.length-1) om_;have e:0<g9 a (a.length-1):=by
  rcases Sk (g9 a (a.length-1)) with h|h
  ·have h3:=yh (l:=a) (i:=a.length-1) om_;rw[h]at h3;exact absurd (by rw[Tt];exact h3) c.2
  exact h
 refine⟨?_,e⟩;rw[<- h2,<- d,<- h1,Nat.div_div_eq_div_mul];have g:0<B9 ^ (a.length-1):=TG dc_;rw[d]at h1;refine Nat.div_le_div_left (Nat.mul_div_le _ _) ?_;rw[h1];exact Tv g e
theorem CN (h:l.length=k+1):bE (l.drop k)=g9 l k:=by
 rw[fF om_,show k+1=l.length by omega,Sm];show _+B9*0=_;omega
theorem Kt (h:l.length=k+2):bE (l.drop k)=g9 l (k+1)*B9+g9 l k:=by
 rw[fF om_,CN (k:=k+1) om_,RT];omega
theorem AO (c:yY a)(d:yY b)(h:bE b<=bE a):b.length<=a.length:=by
 rcases Rz a.length b.length with h1|h1
 ·have:=uT c.1 d h1;omega
 exact h1
theorem yL (c:yY a)(d:yY b)(h:bE a<B9*bE b):a.length<=b.length+1:=by
 have h2:=jd d.1;refine tO c (Sb h ?_);rw[Sp,RT];exact RV _ (UL h2)
theorem jR {f:Nat}(a:m<B9 ^ k)(b:f<B9):m*f<B9 ^ (k+1):=by
 rw[Sp];exact SA a b
theorem Qe {a:Nat}(h:x<B9*a)(b:a<B9 ^ k):x<B9 ^ (k+1):=by
 rw[Sp,RT _ B9];exact Tk h (Nat.mul_lt_mul_of_pos_left b dc_)
theorem Lo (l:List Nat):(l.map cQ).all (fun r=>r.all lF)=true:=by
 rw[List.all_map,Ru];intro x _;rfl
theorem EI (C:Mem)(va vb:Value)(m n:Nat)(ha:NineC C va m)(hb:NineC C vb n)(hm:m<B9 ^ 100000)(aG:B9<=n) :
  Pur cx.P 227 [va,vb] C fun u D=>∃ q r,u=.tuple #[q,r]/\NineC D q (m / n)/\NineC D r (m % n):=by
 have aH:0<n:=Sb dc_ aG;have ad:=ha;have af:=hb;obtain⟨B,Q,bD,ah⟩:=hb;obtain⟨A0,a0,c0,rfl⟩:=ha.form;obtain⟨B0,d0,rfl,a2,bF,_⟩:=id ah;simp only[au]at ah af a2⊢;have bG:=mx_
 have S:=B9v;have bH:2<=B.length:=by
  rcases Rz B.length 2 with h|h
  ·have h2:=jd Q.1;have h3:B9 ^ B.length<=B9 ^ 1:=Rx dc_ om_;rw[Nat.pow_one]at h3;omega
  exact h
 refine We kr_ func227 U 146 U U (fun w0=>?_);refine UQ fun R a=>?_;refine Vd U6 (fun b3=>?_);refine Ve U5 (fun e=>?_);refine C6 1 [0,3,4,5] a U ?_;clear a R;refine UN 1 U fun R a=>?_
 skip
 refine UW ae U9 ?_;refine UZ (qE _ ad.m_ af.m_) U7 ?_;refine C6 1 [0,3,4,5,17] a U ?_;clear a R;refine G.cd (fun ai=>?_) fun ai=>?_
 ·have V:m<n:=by
   have:jY m n<0:=by simpa using ai
   exact jn.1 this
  refine UN 1 U fun R a=>?_;refine UX (j:=0) U12 ?_;refine C6 1 [4,5] a U ?_;clear a R;refine U1 (Wj (B7 ag U U U U U) ?_ KS);refine⟨U,_,_,U, ?_, ?_⟩
  ·rw[TD V];exact NineC.zero _
  rw[T8 V];exact ad.mono mup
 have V:n<=m:=by
  have h:¬ jY m n<0:=by simpa using ai
  rw[jn]at h;omega
 refine UQ fun R a=>?_;refine UW ae U9 ?_;refine C6 2 [0,3,4,5,21] a U ?_;clear a R;refine G.cd (fun aI=>?_) fun aI=>?_
 ·exact absurd aI ap
 have bI:=lj Q.1 (B.length-1);have a3:(B.map cQ)[((B.length:Int)-1).toNat]?=some (cQ (g9 B (B.length-1))):=by
  rw[show((B.length:Int)-1).toNat=B.length-1 by omega];exact jz om_
 obtain⟨f,hf⟩:∃ f,B9 / (g9 B (B.length-1)+1)=f:=⟨_,rfl⟩;refine UQ fun R a=>?_;refine UW ae U9 ?_;refine UW ae U9 ?_;refine UP U6 ?_;refine UV _ U U6 ?_;refine Va ah.m_ U10 om_ a3 fl_ (fun bJ a4=>?_);refine UO a4 U8 ?_;refine D.int (((g9 B (B.length-1)+1:Nat):Int)) U4 g_ U2 ?_;refine VS (B9) (g9 B (B.length-1)+1) U6 om_ (.inr ⟨U,by omega⟩) U2 ?_;refine C6 1 [0,3,4,5,9] a U ?_;clear a R;rw[hf];have w:0<f:=by rw[<- hf];exact Nat.div_pos om_ om_
 have o:f<B9:=by
  rw[<- hf];have h1:=(ve Q Q om_ (Q7 _)).2;exact Nat.div_lt_self dc_ om_
 have y:n<B9 ^ 100000:=R4 V hm;refine Vg [0,1,3,4,2,5,6,7] [] U kr_ (fun R S a=>?_);refine UR 2 U ?_;refine UW ae U9 ?_;refine UP U6 ?_;refine Vo (zo (k:=100000) _ ad.m_ hm o om_) U7 fl_ (fun bK _ _ a5=>?_);refine Vo (zo (k:=100000) _ af.m_ y o om_) U7 fl_ (fun bL _ a6 aJ=>?_);refine UP U6 ?_;obtain⟨a7,bN,a8,rfl⟩:=aJ.form;refine UX (j:=1) U12 ?_;refine US [0,3,4,5,9] a U ?_;clear a S R;have aK:=a5.mono a6;have aL:=aJ;refine G.freeze 0 U (fun C3 aM v=>?_);obtain⟨P,a9,aj,bO,al⟩:=(aK.mono aM).get (jR hm o);obtain⟨W,p,z,bP,Y⟩:=(aL.mono aM).get (jR y o);obtain⟨PA,pc,rfl,_⟩:=id al;obtain⟨bQ,bR,ba,_⟩:=id Y;cases ba
 simp only[au]at al Y v aK aL⊢;have am:NineC C3 (.slice a7 W.length a8) (n*f):=⟨W,p,z,Y⟩;have A:0<n*f:=Tv aH w;have an:n*f<B9 ^ 100001:=dF (k:=100001) (n:=100000+1) (jR (k:=100000) y o) (Q7 _);have bS:2<=W.length:=by
  have h1:B9<=bE W:=by rw[z];exact Rn aG (TC _ w)
  rcases Rz W.length 2 with h|h
  ·have h2:=jd p.1;have h3:B9 ^ W.length<=B9 ^ 1:=Rx dc_ om_;rw[Nat.pow_one]at h3;omega
  exact h
 have bU:1<=P.length:=by
  rcases Sk P.length with h|h
  ·have:P=[]:=RZ h;subst this;have h1:m*f=0:=by rw[<- aj];rfl
   have h2:0<m*f:=Tv om_ w;omega
  exact h
 have bb:=(ve p p om_ (Q7 _)).2;have bV:=lj p.1 (W.length-1);refine UN 2 U fun R a=>?_;refine VQ U9 (Q7 _) (by show 8*P.length<=281474976710656;omega) y_ fl_ (fun d=>?_);refine UX (j:=1) U12 ?_;refine US [0,3,4,5,9] a U ?_;clear a R;refine UQ fun R a=>?_;refine UO (PtrTo.block (Mem.get v mup) _) U8 ?_;refine UO (PtrTo.block (Mem.get v mup) _) U8 ?_;refine UP U6 ?_;refine UV _ U U6 ?_;refine Va Y.m_ U10 om_ (by rw[show((W.length:Int)-1).toNat=W.length-1 by omega];exact jz om_:(W.map cQ)[((W.length:Int)-1).toNat]?=some (cQ (g9 W (W.length-1)))) fl_ (fun bW bc=>?_);refine UO bc U8 ?_;refine C6 1 [0,3,4,5,9,10] a U ?_;clear a R;refine UN 2 U fun R a=>?_;refine UV _ U U6 ?_;refine C6 1 [0,3,4,5,9,10,11] a U ?_;clear a R;refine Vc (L':=[.obj e (.cells ⟨[qU d P.length P.length]⟩ 271 (0,0)),.arr (qU d P.length P.length) 285 1 P.length ((List.replicate P.length 0).map cQ).flatten]) (by rw[<- Fj];rfl) ?_;refine G.loop (fun fr Z g E=>∃ (i:Nat)(c:List Nat)(v5:Value),(i<=P.length/\c.length=P.length/\Dig9 c/\bE (c.drop i)=bE (P.drop i) / (n*f)/\NineC Z v5 (bE (P.drop i) % (n*f))/\∀ j,j<i->g9 c j=0)/\fr=[(0,[],.slice PA P.length pc),(3,[],p_ b3),(4,[],p_ e),(5,[],v5),(9,[],.int .u64 f),(10,[],.int .u64 (g9 W (W.length-1))),(11,[],i_ ((i:Int)-1))]/\g=[.obj e (.cells ⟨[qU d P.length P.length]⟩ 271 (0,0)),.arr (qU d P.length P.length) 285 1 P.length (c.map cQ).flatten]/\E=i+1) (hn_ [0,3,4,5,9,10,11] U) ⟨P.length,List.replicate P.length 0,_,⟨Q7 _,RI,(fun x hx=>by rw[S9 hx];decide),by rw[Sm,T3 ak];simp[bE],by rw[Sm,show bE []=0 from U,Nat.zero_mod];exact NineC.zero _,fun j _=>CR _ j⟩,U,U,U⟩ (fun fr bX bY m _ F=>?_);obtain⟨i,c,v5,⟨hi,aa,ao,H,ab,aq⟩,rfl,rfl,rfl⟩:=F;refine UM 2 [0,3,4,5,9,10,11,78] U ?_;refine G.cd (fun ar=>?_) fun ar=>?_
 ·have aN:0<i:=by
   have:(0:Int)<=(i:Int)-1:=by simpa using ar
   omega
  obtain⟨j,rfl⟩:∃ j,i=j+1:=⟨i-1,by omega⟩;obtain⟨T,hT⟩:∃ T,bE (P.drop (j+1))=T:=⟨_,rfl⟩;rw[hT]at H ab;have aO:=RU T A;obtain⟨I,bd,be,bZ,aP⟩:=ab.get (m:=100001) (Tk aO (dF (k:=100001) (n:=100000+1) (jR (k:=100000) y o) (Q7 _)));obtain⟨RA,rc,aQ,_⟩:=id aP;rw[au]at aQ;subst aQ;obtain⟨X,hX⟩:∃ X,g9 P j+B9*(T % (n*f))=X:=⟨_,rfl⟩;have aR:=lj a9.1 j;have bf:bE (g9 P j::I)=X:=by rw[bE,be,hX]
  have J:=tE (t:=T) (x:=g9 P j) A;have bg:=mL (t:=T) A aR;rw[hX]at J bg;have ac:bE (P.drop j)=g9 P j+B9*T:=by rw[fF om_,hT]
  refine Vl [(7,3)] U (fun R a=>?_);refine UR 2 U ?_;refine Va al.m_ U10 om_ (by rw[show((((j+1:Nat):Int)-1)).toNat=j by omega];exact jz om_:(P.map cQ)[((((j+1:Nat):Int)-1)).toNat]?=some (cQ (g9 P j))) fl_ (fun b0 bh=>?_);refine UO bh U8 ?_;refine VV [cQ (g9 P j)] U12 fl_ (fun b1=>?_);refine UP U6 ?_;refine D.append (j:=0) U11 aP.m_ (Lo I) (by simp only[au,Q8,maxLen];omega) (by simp only[au,Q8];omega) fl_ (fun b2=>?_);refine D.call (gH _ _ (g9 P j::I) (n:=1+(I.map cQ).length) (by rw[au];simp;omega)) U (.inr dc_) U6 (Rh _) fl_ (fun bi bj b5 _ bk=>?_);refine C6 1 [0,3,4,5,9,10,11] a U ?_;clear a R;obtain⟨rfl,hu⟩:=bk;have K:NineC bj bi X:=⟨Fi (g9 P j::I),iL (fun x hx=>(Rp.1 hx).elim (fun h=>by rw[h];exact aR) (bd.1 x)),by rw[iK,bf],hu⟩;have aS:X<B9*(n*f):=by
   have h1:B9*(T % (n*f)+1)<=B9*(n*f):=Sz _ aO;rw[Sg]at h1;omega
  have aT:X<B9 ^ 100002:=dF (k:=100002) (n:=100001+1) (Qe (k:=100001) aS an) (Q7 _);obtain⟨b,L,av,b6,aw⟩:=K.get aT;obtain⟨XA,xc,aU,_⟩:=id aw;rw[au]at aU;subst aU;refine UN 1 U fun R a=>?_;refine UO (PtrTo.block (Mem.get v mup) _) U8 ?_;refine UZ (qE _ K.m_ am.m_) U7 ?_;refine C6 1 [0,3,4,5,9,10,11,92] a U ?_;clear a R;refine G.cd (fun ax=>?_) fun ax=>?_
  ·have aV:X<n*f:=by
    have:jY X (n*f)<0:=by simpa using ax
    exact jn.1 this
   refine UN 1 U fun R a=>?_;refine UV _ U U6 ?_;refine C6 1 [0,3,4,5,9,10,11] a U ?_;clear a R;rw[show((j+1:Nat):Int)-1-1=(j:Int)-1 by omega];refine U0 (m':=j+1) om_ mup (hn_ [0,3,4,5,9,10,11] U) ⟨j,c,_,⟨by omega,aa,ao,by rw[fF (l:=c) om_,aq j om_,H,ac,J.1,TD aV];omega,by rw[ac,J.2,T8 aV];exact K.mono mup,fun j' h=>aq j' om_⟩,U,U,U⟩
  have bl:n*f<=X:=by
   have h:¬ jY X (n*f)<0:=by simpa using ax
   rw[jn]at h;omega
  have bm:=AO L p (by rw[av,z];exact bl);have b7:=yL L p (by rw[av,z];exact aS);have ay:=(ve L p om_ bm).1;obtain⟨s,az⟩:∃ s,bE (b.drop (W.length-1))=s:=⟨_,rfl⟩;rw[av,z,az]at ay;have b8:=lj L.1 (b.length-1);have b9:=lj L.1 (b.length-2);refine UN 3 U fun R a=>?_;refine UV _ U U6 ?_;refine Va aw.m_ U10 om_ (by rw[show((b.length:Int)-1).toNat=b.length-1 by omega];exact jz om_:(b.map cQ)[((b.length:Int)-1).toNat]?=some (cQ (g9 b (b.length-1)))) fl_ (fun ca bn=>?_);refine UO bn U8 ?_;refine C6 1 [0,3,4,5,9,10,11,12] a U ?_;clear a R;refine UN 2 U fun R a=>?_;refine UO (PtrTo.block (Mem.get v mup) _) U8 ?_;refine C6 2 [0,3,4,5,9,10,11,12,103] a U ?_;clear a R;refine G.cut (fun fr Z g E=>(s<1000000000000000000)/\fr=[(0,[],.slice PA P.length pc),(3,[],p_ b3),(4,[],p_ e),(5,[],.slice XA b.length xc),(9,[],.int .u64 f),(10,[],.int .u64 (g9 W (W.length-1))),(11,[],i_ (((j+1:Nat):Int)-1)),(12,[],.int .u64 (s:Nat))]/\g=[.obj e (.cells ⟨[qU d P.length P.length]⟩ 271 (0,0)),.arr (qU d P.length P.length) 285 1 P.length (c.map cQ).flatten]) ?_ (fun fr _ cb E _ F=>?_)
  ·refine G.cd (fun aA=>?_) fun aA=>?_
   ·have bo:b.length=W.length-1+2:=by
     have:(W.length:Int)<(b.length:Int):=by simpa using aA
     omega
    have M:=Kt bo;rw[az,show W.length-1+1=b.length-1 by omega,show W.length-1=b.length-2 by omega]at M;have bp:g9 b (b.length-1)*B9<=999999999*B9:=RV _ om_;rw[show 999999999*B9=999999999000000000 from rfl]at bp;refine UN 1 U fun R a=>?_;refine D.int (((g9 b (b.length-1)*B9:Nat):Int)) U4 (by rw[show(1000000000:Int)=((B9:Nat):Int) from U,<- RF,IntKind.wrap_u64];omega) U2 ?_;refine UR 3 U ?_;refine UV _ U U6 ?_;refine Va aw.m_ U10 om_ (by rw[show((b.length:Int)-2).toNat=b.length-2 by omega];exact jz om_:(b.map cQ)[((b.length:Int)-2).toNat]?=some (cQ (g9 b (b.length-2)))) fl_ (fun cc bq=>?_);refine UO bq U8 ?_;refine D.int (((s:Nat):Int)) U4 (by rw[M,IntKind.wrap_u64];omega) U2 ?_;refine C6 1 [0,3,4,5,9,10,11,12] a U ?_;clear a R;refine Vb 0 mup (hn_ [0,3,4,5,9,10,11,12] U) ⟨by omega,U,U⟩
   have br:b.length=W.length-1+1:=by
    have:¬ (W.length:Int)<(b.length:Int):=by simpa using aA
    omega
   have M:=CN br;rw[az,show W.length-1=b.length-1 by omega]at M;rw[<- M];refine Vb 0 mup (hn_ [0,3,4,5,9,10,11,12] U) ⟨by omega,U,U⟩
  obtain⟨ce,rfl,rfl⟩:=F;obtain⟨N,aB⟩:∃ N,s / g9 W (W.length-1)=N:=⟨_,rfl⟩;rw[aB]at ay;have cf:N<=s:=by rw[<- aB];exact Sf _ _
  refine UN 2 U fun R a=>?_;refine VS (s) (g9 W (W.length-1)) U6 bb (.inr ⟨U,by omega⟩) U2 ?_;rw[aB];refine D.min (((min N 999999999:Nat):Int)) U6 om_ U2 ?_;refine C6 1 [0,3,4,5,9,10,11,12] a U ?_;clear a R;refine UQ fun R a=>?_;refine UO (PtrTo.block (Mem.get v mup) _) U8 ?_;refine UP U6 ?_;refine Vo (zo (k:=100001) _ am.m_ an om_ om_) U7 fl_ (fun bs _ _ bt=>?_);refine C6 1 [0,3,4,5,9,10,11,12,13] a U ?_;clear a R;refine G.loop (fun fr Z g E=>∃ (dd:Nat)(aC:Value),(X / (n*f)<=dd/\dd<B9/\NineC Z aC (n*f*dd))/\fr=[(0,[],.slice PA P.length pc),(3,[],p_ b3),(4,[],p_ e),(5,[],.slice XA b.length xc),(9,[],.int .u64 f),(10,[],.int .u64 (g9 W (W.length-1))),(11,[],i_ (((j+1:Nat):Int)-1)),(12,[],.int .u64 (dd:Nat)),(13,[],aC)]/\g=[.obj e (.cells ⟨[qU d P.length P.length]⟩ 271 (0,0)),.arr (qU d P.length P.length) 285 1 P.length (c.map cQ).flatten]/\E=dd+1) (hn_ [0,3,4,5,9,10,11,12,13] U) ⟨min N 999999999,bs,⟨by have h:=Nat.le_min.2 ⟨ay,(by omega:X / (n*f)<=999999999)⟩;exact h,by omega,bt.mono mup⟩,U,U,U⟩ (fun fr cg ch m _ F=>?_);obtain⟨dd,aC,⟨bu,aW,aD⟩,rfl,rfl,rfl⟩:=F;refine UN 2 U fun R a=>?_;refine UZ (qE _ aD.m_ K.m_) U7 ?_;refine C6 1 [0,3,4,5,9,10,11,12,13,123] a U ?_;clear a R;refine G.cd (fun aF=>?_) fun aF=>?_
  ·have O:X<n*f*dd:=by
    have:0<jY (n*f*dd) X:=by simpa using aF
    exact GI.1 this
   have bv:1<=dd:=by
    rcases Sk dd with h|h
    ·rw[h]at O;omega
    exact h
   refine UN 1 U fun R a=>?_;refine UO (PtrTo.block (Mem.get v mup) _) U8 ?_;refine Vo (uP (k:=100002) _ aD.m_ am.m_ (dF (k:=100002) (n:=100001+1) (jR (k:=100001) an aW) (Q7 _)) (TC _ bv) om_) U7 fl_ (fun bw _ _ aX=>?_);refine C6 1 [0,3,4,5,9,10,11,12,13] a U ?_;clear a R;refine UN 1 U fun R a=>?_;refine D.int (((dd-1:Nat):Int)) U4 g_ U2 ?_;refine C6 1 [0,3,4,5,9,10,11,12,13] a U ?_;clear a R;rw[show n*f*dd-n*f=n*f*(dd-1) from by rw[Nat.mul_sub,Sw]]at aX;refine U0 (m':=dd-1+1) om_ mup (hn_ [0,3,4,5,9,10,11,12,13] U) ⟨dd-1,bw,⟨by have h:=(S8 A).2 (by rw[RT];exact O);omega,by omega,aX.mono mup⟩,U,U,U⟩
  have O:n*f*dd<=X:=by
   have h:¬ 0<jY (n*f*dd) X:=by simpa using aF
   rw[GI]at h;omega
  have aY:dd=X / (n*f):=Nat.le_antisymm ((Nat.le_div_iff_mul_le A).2 (by rw[RT];exact O)) bu;have bx:X-n*f*dd=X % (n*f):=by rw[aY];have:=Ue X (n*f);omega
  refine Vg [0,1,2,3,4,5,6,7,8] [] U kr_ (fun R S a=>?_);refine UW ag U9 ?_;refine UR 4 U ?_;refine Vo (uP (k:=100002) _ K.m_ aD.m_ aT O om_) U7 fl_ (fun bz _ _ aZ=>?_);refine Vp (j*1) U10 (fun _=>⟨by omega,by omega,(by rw[show(((j+1:Nat):Int)-1).toNat=j by omega])⟩) U2 ?_;refine Vr (j:=1) U11 (by show j*1+1<=_;rw[bT eM,aa];omega) ?_;refine UP U6 ?_;refine US [0,3,4,5,9,10,11] a U ?_;clear a S R;refine UN 1 U fun R a=>?_;refine UV _ U U6 ?_;refine C6 1 [0,3,4,5,9,10,11] a U ?_;clear a R;rw[show((j+1:Nat):Int)-1-1=(j:Int)-1 by omega];refine G.perm (L':=[.obj e (.cells ⟨[qU d P.length P.length]⟩ 271 (0,0)),.arr (qU d P.length P.length) 285 1 P.length (aE (c.map cQ).flatten (cQ dd) (j*1))]) (List.Perm.swap _ _ _) ?_;refine Vc (L':=[.obj e (.cells ⟨[qU d P.length P.length]⟩ 271 (0,0)),.arr (qU d P.length P.length) 285 1 P.length ((c.set j dd).map cQ).flatten]) (by rw[<- bM eM _ (by omega:j<c.length)]) ?_;rw[bx]at aZ;refine U0 (m':=j+1) om_ mup (hn_ [0,3,4,5,9,10,11] U) ⟨j,c.set j dd,bz,⟨by omega,by simp[aa],ao.set aW,by rw[lN om_,H,ac,J.1,aY];omega,by rw[ac,J.2];exact aZ.mono mup,fun j' h=>by rw[rb om_];exact aq j' om_⟩,U,U,U⟩
 have aN:i=0:=by
  have:¬ (0:Int)<=(i:Int)-1:=by simpa using ar
  omega
 subst aN;rw[Sx,Sx,aj,Nat.mul_div_mul_right _ _ w]at H;rw[Sx,aj,Nat.mul_mod_mul_right]at ab;refine UN 2 U fun R a=>?_;refine Vj [cQ f] U12 (fun ci _ _ bA=>?_);refine Vo (tD _ _ _ (m % n*f) f ab.m_ (by
  have h1:=jR (k:=100000) (Tk (RU m aH) y) o;exact dF (k:=200000) (n:=100000+1) h1 dc_) bA.m_ w o) U7 fl_ (fun cj _ _ bB=>?_)
 obtain⟨q2,r2,rfl,a1,ck⟩:=bB;rw[Nat.mul_div_cancel _ w]at a1;refine C6 4 [4,5] a U ?_;clear a R;refine G.perm (L':=[.arr (qU d P.length P.length) 285 1 P.length (c.map cQ).flatten,.obj e (.cells ⟨[qU d P.length P.length]⟩ 271 (0,0))]) (List.Perm.swap _ _ _) ?_;refine Vl [(1,3)] U (fun R a=>?_);refine UW ae U9 ?_;refine D.call (gH _ _ c aa) U (.inr dc_) U6 (Rh _) fl_ (fun cl _ cm _ bC=>?_);refine UP U6 ?_;obtain⟨rfl,hu⟩:=bC;obtain⟨Au,cu,rfl,_⟩:=id hu;refine UX (j:=0) U12 ?_;refine C6 1 [4,5] a U ?_;clear a R;refine U1 (Wj (B7 ag U U U U U) ?_ KS);exact⟨U,_,_,U,⟨Fi c,iL ao,by rw[iK,H],hu⟩,a1.mono mup⟩
theorem yu (C:Mem)(a b:Value)(m n:Nat)(g:NineC C a m)(h:NineC C b n)(i:m<B9 ^ 100000)(f:0<n) :
  Pur cx.P 227 [a,b] C fun u D=>∃ q r,u=.tuple #[q,r]/\NineC D q (m / n)/\NineC D r (m % n):=by
 rcases Rz n B9 with c|c
 ·obtain⟨l,h1,h2,h3,h4⟩:=h.get (m:=1) (by rw[Nat.pow_one];exact c);have j:l≠[]:=fun e=>by rw[e]at h2;rw[<- h2]at f;exact absurd f dc_
  obtain⟨d,rfl⟩:∃ d,l=[d]:=by
   cases l with
  |nil=>exact absurd rfl j
  |cons d l=>cases l with
   |nil=>exact⟨d,rfl⟩
   |cons e l=>simp at h3
  have o:d=n:=by rw[<- h2];show d=d+B9*0;omega
  subst o;exact tD C a b m d g (dF (k:=200000) (n:=100000) i dc_) h4 f c
 exact EI C a b m n g h i c
theorem KE (C:Mem)(s:Str)(c:UInt8):Gives cx.P 250 [af s,af [c]] C (.bool (ck c s).2):=by
 exact UU func250 8 U3 fun w0=>UM 1 [0,1] U<|UN 2 U fun R a=>UZ (zU _ s c) U7<|C6 1 [4] a U<|UT U2<|⟨U,U⟩
theorem FC (C:Mem)(s:Str)(c:UInt8):Gives cx.P 277 [af s,af [c]] C (af (ck c s).1):=by
 refine UU func277 13 U3 fun w0=>UM 1 [0,1] U<|UN 2 U fun R d=>UZ (zU _ s c) U7<|US [0,1,7] d U<|G.cd (fun a=>?_) fun a=>?_
 ·have h:s.head?=some c:=RB fun h=>by unfold ck at a;rw[aF h]at a;cases a
  have e:1<=s.length:=by cases s with
  |nil=>cases h
  |cons b s=>simp
  refine UN 3 U fun R d=>VL 1 s.length U9 (fun _=>⟨.inr ⟨_,U⟩,.inl ⟨U,U⟩,.inl ⟨U,U⟩,by omega,Q7 _,Q7 _⟩) U2<|C6 1 [4] d U<|UT U2 ?_;unfold ck;rw[aJ h];refine⟨?_,U⟩;rw[Rk,List.drop_one];rfl
 have h:¬ s.head?=some c:=fun h=>by unfold ck at a;rw[aJ h]at a;cases a
 refine UM 2 [4] U<|UT U2 ?_;unfold ck;rw[aF h];exact⟨U,U⟩
theorem BD (C:Mem)(s:Str)(c:UInt8):Gives cx.P 225 [af s,af [c]] C (af (ck c s).1):=by
 exact UU func225 8 U3 fun w0=>UM 1 [0,1] U<|UN 2 U fun R a=>UZ (FC _ s c) U7<|C6 1 [4] a U<|UT U2<|⟨U,U⟩
def eG (z:Int):Int:=if z<0 then -1 else if z=0 then 0 else 1
theorem my (C:Mem)(z:Int):Gives cx.P 186 [af (txt z)] C (i_ (eG z)):=by
 refine UU func186 9 U3 fun w0=>UM 1 [0] U ?_
 skip
 refine UM 3 [0,3] U<|G.cd (fun h3=>?_) fun h3=>?_
 ·have b:z=0:=by
   have h:=kH z;rw[h]at h3;exact Qw h3
  exact UM 1 [2] U<|UT U2<|⟨by rw[b];rfl,U⟩
 have b:z≠0:=by
  have h:=kH z;rw[h]at h3;exact Rc h3
 refine UN 1 U fun R d=>UZ (KE _ (txt z) 45) U7<|C6 1 [6] d U<|G.cd (fun a=>?_) fun a=>?_
 ·have c:z<0:=by
   rw[dI]at a;exact Qw a
  exact UM 1 [2] U<|UT U2<|⟨by rw[eG,aJ c],U⟩
 have c:¬ z<0:=by
  rw[dI]at a;exact Rc a
 exact UM 1 [2] U<|UT U2<|⟨by rw[eG,aF c,aF b],U⟩
theorem sZ (C:Mem)(a:Tabs C)(z:Int)(b:-9223372036854775808<=z)(c:z<=9223372036854775807):Gives cx.P 185 [i_ z] C (af (txt z)):=by
 exact UU func185 5 U3 fun w0=>UM 1 [0] U<|UN 1 U fun R d=>UZ (fT _ a.m_ z b c) U7<|C6 1 [2] d U<|UT U2<|⟨U,U⟩
theorem je (z:Int):(txt z).length<=(bj z.natAbs).length+1:=by unfold txt;split <;> simp
theorem uW (C:Mem)(z:Int)(e:(bj z.natAbs).length<=1000000):Gives cx.P 133 [af (txt z)] C (af (txt (-z))):=by
 have f:=je z;refine UU func133 14 U3 fun w0=>UM 1 [0] U<|UN 1 U fun R a=>UZ (my _ z) U7<|US [0,4] a U<|UM 2 [0,4,5] U<|G.cd (fun h5=>?_) fun h5=>?_
 ·have d:0<z:=by
   have h:eG z=1:=by simpa using h5
   unfold eG at h;split at h
   ·cases h
   split at h
   ·cases h
   omega
  refine UN 1 U fun R a=>VI U6 (fun _=>(by simp only[Rs,RQ];omega)) U2<|C6 1 [2] a U<|UT U2<|⟨?_,U⟩;unfold txt;rw[aF om_,aJ om_,T7];rfl
 have d:¬ 0<z:=fun h=>by
  have h2:eG z=1:=by unfold eG;rw[aF om_,aF om_]
  rw[h2]at h5;cases h5
 refine UM 2 [0,9] U<|G.cd (fun b=>?_) fun b=>?_
 ·have c:z<0:=by
   have h:eG z=-1:=by simpa using b
   unfold eG at h;split at h
   ·assumption
   split at h <;> cases h
  refine UN 1 U fun R a=>VL 1 (txt z).length U9 (fun _=>⟨.inr ⟨_,U⟩,.inl ⟨U,U⟩,.inl ⟨U,U⟩,(by unfold txt;rw[aJ c];simp),Q7 _,Q7 _⟩) U2<|C6 1 [2] a U<|UT U2<|⟨?_,U⟩;rw[Rk];unfold txt;rw[aJ c,aF om_,T7];rfl
 have c:¬ z<0:=fun h=>by
  have h2:eG z=-1:=by unfold eG;rw[aJ h]
  rw[h2]at b;cases b
 refine UM 2 [2] U<|UT U2<|⟨?_,U⟩;rw[show z=0 by omega];rfl
theorem Ih:∀ {s t:Str},(∀ c∈s,dU c=true)->(∀ c∈t,dU c=true)->s.length=t.length->Lib.compareBytes s t=jY (bR s) (bR t)
|[],[],_,_,_=>rfl
|[],_::_,_,_,h=>by simp at h
|_::_,[],_,_,h=>by simp at h
|c::s,d::t,hs,g,k=>by
  have e:s.length=t.length:=by simpa using k
  have i:∀ x∈s,dU x=true:=fun x f=>hs x (by simp[f]);have j:∀ x∈t,dU x=true:=fun x f=>g x (by simp[f]);have l:=Ih i j e;have h1:=dA i;have h2:=dA j;have m:=hs c ak;have n:=g d ak;simp only[dU,Rj]at m n;rw[dJ,dJ,e];rw[e]at h1;simp only[Lib.compareBytes];obtain⟨p,o⟩:∃ p,10 ^ t.length=p:=⟨_,rfl⟩;rw[o]at h1 h2⊢;by_cases a:c<d
  ·rw[aJ a];have r:c.toNat<d.toNat:=a;have h3:(c.toNat-48+1)*p<=(d.toNat-48)*p:=RV _ om_;rw[SL]at h3;unfold jY;rw[aJ om_]
  rw[aF a];by_cases b:d<c
  ·rw[aJ b];have u:d.toNat<c.toNat:=b;have h3:(d.toNat-48+1)*p<=(c.toNat-48)*p:=RV _ om_;rw[SL]at h3;unfold jY;rw[aF om_,aJ om_]
  rw[aF b,l];have q:c.toNat=d.toNat:=by
   have h3:¬ c.toNat<d.toNat:=a;have h4:¬ d.toNat<c.toNat:=b;omega
  rw[q];unfold jY;split <;> rename_i h5
  ·rw[aJ om_]
  split <;> rename_i v
  ·rw[aF om_,aJ om_]
  rw[aF om_,aF om_]
theorem ru {a b:Nat}(h:(bj a).length<(bj b).length):a<b:=by
 obtain⟨h1,h2⟩:=bB a;obtain⟨h3,h4⟩:=bB b;have c:=RX.2 h1.2.1;have h5:=dA h1.1;have d:=pe h3 om_;have e:10 ^ (bj a).length<=10 ^ ((bj b).length-1):=Rx dc_ om_;omega
theorem Oz {a b:Nat}(h:(bj a).length=(bj b).length):Lib.compareBytes (bj a) (bj b)=jY a b:=by
 obtain⟨h1,h2⟩:=bB a;obtain⟨h3,h4⟩:=bB b;rw[Ih h1.1 h3.1 h,h2,h4]
def wa (z w:Int):Int:=if z<w then -1 else if w<z then 1 else 0
theorem eA (z:Int):(z<0/\eG z=-1)∨(z=0/\eG z=0)∨(0<z/\eG z=1):=by
 unfold eG;split
 ·exact .inl ⟨by assumption,U⟩
 split
 ·exact .inr (.inl ⟨by assumption,U⟩)
 exact .inr (.inr ⟨by omega,U⟩)
theorem AH (h:eG z=eG w):wa z w=eG z*jY z.natAbs w.natAbs:=by
 have a:=eA w;rw[<- h]at a;unfold wa jY;rcases eA z with⟨h1,h2⟩|⟨h1,h2⟩|⟨h1,h2⟩ <;> rw[h2]at a⊢
 ·have h3:w<0:=by omega
  split <;> split <;> (try split) <;> omega
 ·have h3:w=0:=by omega
  subst h1 h3;simp
 have h3:0<w:=by omega
 split <;> split <;> (try split) <;> omega
theorem Jz (z:Int):IntKind.i64.wrap (-(eG z))=-(eG z):=by
 rcases eA z with⟨h1,h2⟩|⟨h1,h2⟩|⟨h1,h2⟩ <;> rw[h2] <;> rfl
theorem FP (C:Mem)(a b:Str):Gives cx.P 226 [af a,af b] C (i_ (Lib.compareBytes a b)):=zt Tryz.scmp a b C kr_
theorem qX (C:Mem)(z w:Int)(_m:(bj z.natAbs).length<=1000000)(_n:(bj w.natAbs).length<=1000000):Gives cx.P 161 [af (txt z),af (txt w)] C (i_ (wa z w)):=by
 have ez:(ck 45 (txt z)).1=bj z.natAbs:=by rw[dI]
 have j:(ck 45 (txt w)).1=bj w.natAbs:=by rw[dI]
 refine UU func161 41 U3 fun w0=>UM 1 [0,1] U<|UN 1 U fun R b=>UZ (my _ z) U7<|UP U6<|UZ (my _ w) U7<|C6 2 [0,1,5,6] b U<|UM 3 [0,1,5,6,15] U<|G.cd (fun c=>?_) fun c=>?_
 ·have k:eG z≠eG w:=by simpa using c
  refine UM 3 [18] U<|G.cd (fun d=>?_) fun d=>?_
  ·have a:eG z<eG w:=by simpa using d
   refine UM 1 [4] U<|UT U2<|⟨?_,U⟩;rw[wa,aJ (by unfold eG at a;split at a <;> split at a <;> (try split at a) <;> omega)]
  have a:¬ eG z<eG w:=by simpa using d
  refine UM 1 [4] U<|UT U2<|⟨?_,U⟩;have h:w<z:=by
   have h2:eG w<eG z:=by omega
   unfold eG at h2;split at h2 <;> split at h2 <;> (try split at h2) <;> omega
  rw[wa,aF om_,aJ h]
 have f:eG z=eG w:=by simpa using c
 refine UN 1 U fun R b=>UZ (BD _ (txt z) 45) U7<|UP U6<|UZ (BD _ (txt w) 45) U7 ?_;rw[ez,j];refine C6 2 [5,7,8] b U<|UM 5 [5,7,8,27] U<|G.cd (fun g=>?_) fun g=>?_
 ·have k:(bj z.natAbs).length≠(bj w.natAbs).length:=fun e=>by
   have h:(((bj z.natAbs).length:Nat):Int)≠(((bj w.natAbs).length:Nat):Int):=by simpa using g
   exact h (by rw[e])
  refine UM 5 [5,32] U<|G.cd (fun i=>?_) fun i=>?_
  ·have a:z.natAbs<w.natAbs:=ru (by
    have h:(((bj z.natAbs).length:Nat):Int)<(((bj w.natAbs).length:Nat):Int):=by simpa using i
    omega)
   refine UM 3 [4] U<|UT U2<|⟨?_,U⟩;rw[Int.zero_sub,Jz,AH f,show jY z.natAbs w.natAbs=-1 from aJ a];congr 1;omega
  have a:w.natAbs<z.natAbs:=ru (by
   have h:¬ (((bj z.natAbs).length:Nat):Int)<(((bj w.natAbs).length:Nat):Int):=by simpa using i
   omega)
  refine UM 2 [4] U<|UT U2<|⟨?_,U⟩;rw[AH f,show jY z.natAbs w.natAbs=1 from by unfold jY;rw[aF om_,aJ a]];congr 1;omega
 have l:(bj z.natAbs).length=(bj w.natAbs).length:=by
  have h:(((bj z.natAbs).length:Nat):Int)=(((bj w.natAbs).length:Nat):Int):=by simpa using g
  omega
 refine UN 3 U fun R b=>UZ (FP _ (bj z.natAbs) (bj w.natAbs)) U7 ?_;rw[Oz l];refine Vt ((wa z w)) U4 (by rw[AH f]) (by unfold wa;split <;> (try split) <;> omega) (by unfold wa;split <;> (try split) <;> omega) U2 ?_
 exact C6 1 [4] b U<|UT U2<|⟨U,U⟩
def oG (b:Bool):Int:=if b then 0 else 2
theorem yd (C:Mem)(s:Str):Gives cx.P 160 [af s] C (i_ (oG (bS s))):=by
 obtain⟨t,neg,p⟩:∃ t b,ck 45 s=(t,b):=⟨_,_,rfl⟩;have g:bS s=(t.all dU && !(t == []) && !(t.head? == some 48 && (neg || decide (1<t.length))) && decide (t.length<=200)):=by unfold bS jD;rw[p]
 refine UU func160 47 U3 fun w0=>UM 1 [0] U<|UN 1 U fun R a=>UY (by have h:=Ie C s 45;rw[p]at h;exact h) U7 fl_<|C6 5 [3,4] a U<|UN 6 U fun R a=>Vq U8<|UR 2 U<|Vy (b:=t.headD 0) U8 (fun r=>⟨by omega,(by
  cases t with
 |nil=>exact Bool.noConfusion (show true=false from r.1)
 |cons b t=>rfl)⟩) U2 ?_
 refine UR 7 U<|Vq U8<|Vk U8<|Vq U8<|US [3,30] a U<|G.cd (fun d=>?_) fun d=>?_
 ·have j:bS s=false:=by
   rw[g];cases t with
  |nil=>simp
  |cons b t =>
    simp at d;rcases d with h|⟨h,h2⟩
    ·simp;intro _ _;omega
    have e:b=48:=Ud.1 (by show b.toNat=48;omega);subst e;have u:(neg || decide (1<((48:UInt8)::t).length))=true:=by
     rcases h2 with h2|h2
     ·rw[Rt ap];simp
     rw[h2];rfl
    rw[u];simp
  exact UM 1 [2] U<|UT U2<|⟨by rw[j];rfl,U⟩
 have v:t.length<=200:=by
  simp at d;omega
 refine UM 3 [3,32,33] U<|G.loop (fun fr E w y=>∃ (i:Nat),(i<=t.length/\∀ c∈t.take i,dU c=true)/\fr=[(3,[],af t),(32,[],i_ t.length),(33,[],i_ i)]/\w=[]/\y=t.length-i) (hn_ [3,32,33] U) ⟨0,⟨Re _,by simp⟩,U,U,U⟩ (fun fr F H m _ z=>?_);obtain⟨i,⟨I,k⟩,rfl,rfl,rfl⟩:=z;refine UM 1 [3,32,33,34] U<|G.cd (fun l=>?_) fun l=>?_
 ·have n:i<t.length:=by simpa using l
  obtain⟨c,f⟩:∃ c,t[i]?=some c:=⟨t[i],ai n⟩;refine UM 2 [3,5,32,33] U<|UN 2 U fun R a=>Vy U8 (fun _=>⟨by omega,f⟩) U2<|UR 4 U<|Vy U8 (fun _=>⟨by omega,f⟩) U2<|UP U6<|Vq U8<|US [3,32,33,45] a U<|G.cd (fun o=>?_) fun o=>?_
  ·have j:bS s=false:=by
    have h1:t.all dU=false:=by
     rw[TA];refine⟨c,aM f, ?_⟩;simp at o;unfold dU;simp;omega
    rw[g,h1];rfl
   exact UM 1 [2] U<|UT U2<|⟨by rw[j];rfl,U⟩
  have A:dU c=true:=by
   simp at o;unfold dU;simp;omega
  refine UQ fun R a=>UV _ U U6<|C6 1 [3,32,33] a U<|U0 (m':=t.length-(i+1)) om_ mup (hn_ [3,32,33] U) ⟨i+1,⟨by omega,fun x q=>by
   rw[RE,f]at q;rcases Rr.1 q with h|h
   ·exact k x h
   simp at h;subst h;exact A⟩,rfl,rfl,rfl⟩
 have n:t.length<=i:=by
  have:¬ i<t.length:=by simpa using l
  omega
 rw[RH n]at k;have B:t.all dU=true:=Ru.2 k;have D:bS s=true:=by
  rw[g,B,Rt v];cases t with
 |nil=>simp at d
 |cons b t =>
   simp at d;simp;by_cases e:b=48
   ·subst e;have h5:=d.2;simp at h5;exact .inr ⟨h5.2,RZ om_⟩
   exact .inl e
 exact UM 1 [2] U<|UT U2<|⟨by rw[D];rfl,U⟩
end Go.Proofs.YtfjcldheldflbaaGreatDoor
