/- Laws that the proofs of this seat share, part 6. -/
import Derived.Test.YtfjcldheldflbaaGreatDoorG5
import Derived.Test.YtfjcldheldflbaaGreatDoorShelf
set_option maxHeartbeats 4000000
namespace Go.Proofs.YtfjcldheldflbaaGreatDoor
open Go.Proofs.Tryz
open Go Go.Jog
set_option maxRecDepth 100000
variable {Q:Nat}{a b:List Nat}{i j k:Nat}{l:List Nat}{m n:Nat}{o p:List Int}{q:List Nat}{s:Str}{t:Nat}{w:Int}{x:Nat}{z:Int}
def gI (p:List Int)(i:Nat):Int:=p.getD i 0
theorem HV (h:k<p.length):(p.map nP)[k]?=some (nP (gI p k))/\p[k]?=some (gI p k):=by
 have e:p[k]?=some (gI p k):=by
  unfold gI;rw[am,ai h];rfl
 exact⟨by rw[Rr,e];rfl,e⟩
theorem tr (h:p.length<=k):gI p k=0:=by
 unfold gI;rw[am,Rx h];rfl
theorem M4 (p:List Int)(k:Nat):iU (p.take (k+1))=iU (p.take k)+(10000:Int) ^ k*gI p k:=by
 rcases RS k p.length with h|h
 ·exact FF (HV h).2
 rw[tr h,RN h,RN om_];simp
theorem Gt (o:Int):(o-o % 10000).tdiv 10000=(o-o % 10000) / 10000:=Int.tdiv_eq_ediv_of_dvd (Int.dvd_of_emod_eq_zero om_)
theorem Dq (C:Mem)(v:Value)(p:List Int)(g:Sl C 1 v (p.map nP))(H:0<=iU p)(I:∀ x∈p, -1000000000000<=x/\x<=1000000000000)(O:p.length<=100000):Pur cx.P 235 [v] C fun u D=>PieC D u (iU p).toNat:=by
 obtain⟨k,c0,rfl,_⟩:=id g;simp only[au]at g⊢;refine Vi func235 43 U3 fun w0=>U1 1 [0] U<|U1 1 [0,3] U<|U1 1 [0,3,4] U<|U1 1 [0,3,4,5] U<|G.nilArr 3 1<|G.loop (fun fr B b c=>∃ (i:Nat)(o:Int)(out:List Nat)(w:Value),(out.length=i/\DigP out/\-1000000000000<=o/\o<=1000000000000/\iU (p.take i)=(bx out:Nat)+(10000:Int) ^ i*o/\(p.length<=i->(i:Int)+o<=1000000100000))/\fr=[(0,[],.slice k p.length c0),(3,[],w),(4,[],i_ o),(5,[],i_ i)]/\b=[.arr w 3 1 i (out.map aW).flatten]/\c=(p.length-i)*4611686018427387904+o.natAbs) (hn_ [0,3,4,5] U) ⟨0,0,[],_,⟨U,(fun x J=>(by cases J)),by omega,by omega,by simp[iU,bx],fun h=>by omega⟩,U,U,U⟩ (fun fr Q S m _ d=>?_);obtain⟨i,o,out,w,⟨e,l,T,W,n,E⟩,rfl,rfl,rfl⟩:=d;have q:p.length<=i->0<=o:=fun h=>by
  refine Kl e l (V:=iU p) H ?_;rw[<- n,RN h]
 have X:(i:Int)<=1000000100000:=by
  rcases RS i p.length with h|h
  ·omega
  have:=q h;have:=E h;omega
 refine Va 7 U fun R a=>VH U8<|Vf [0,3,4,5,14] a U<|G.cd (fun r=>?_) fun r=>?_
 ·have s:i<p.length∨o≠0:=by
   simp at r;omega
  have Y:-1000000000000<=gI p i/\gI p i<=1000000000000:=by
   rcases RS i p.length with h|h
   ·exact I _ (aU (HV h).2)
   rw[tr h];omega
  refine U1 4 [0,3,4,5,20] U<|G.cut (fun fr B b c=>(True)/\fr=[(0,[],.slice k p.length c0),(3,[],w),(4,[],i_ (o+gI p i)),(5,[],i_ i)]/\b=[.arr w 3 1 i (out.map aW).flatten]) ?_ (fun fr _ Z c _ d=>?_)
  ·refine G.cd (fun t=>?_) fun t=>?_
   ·have f:i<p.length:=by simpa using t
    refine Va 3 U fun R a=>Vq g.m_ U10 om_ (HV f).1 fl_ fun aa K=>Vb K U8<|Vh _ U U6<|C6 1 [0,3,4,5] a U<|Vp 0 l_ (hn_ [0,3,4,5] U) ⟨trivial,U,U⟩
   have f:p.length<=i:=by
    have:¬ i<p.length:=by simpa using t
    omega
   rw[show o=o+gI p i by rw[tr f,Int.add_zero]];refine Vp 0 l_ (hn_ [0,3,4,5] U) ⟨trivial,by rw[tr f];simp,U⟩
  obtain⟨_,rfl,rfl⟩:=d;refine Va 1 U fun R a=>Xy (Int.tmod (o+gI p i) 10000) U U U U U U om_ U U U<|C6 1 [0,3,4,5,6] a U ?_;have y:=J2 (o+gI p i);have ab:-10000<=Int.tmod (o+gI p i) 10000/\Int.tmod (o+gI p i) 10000<10000:=by
   have:=UM (o+gI p i) (show(10000:Int)≠0 by decide);have:=Int.emod_lt_of_pos (o+gI p i) (show(0:Int)<10000 by decide);split at y <;> omega
  refine U1 2 [0,3,4,5,6,30] U<|G.cut (fun fr B b c=>(True)/\fr=[(0,[],.slice k p.length c0),(3,[],w),(4,[],i_ (o+gI p i)),(5,[],i_ i),(6,[],i_ (((o+gI p i) % 10000).toNat:Nat))]/\b=[.arr w 3 1 i (out.map aW).flatten]) ?_ (fun fr _ ac c _ d=>?_)
  ·refine G.cd (fun z=>?_) fun z=>?_
   ·have A:Int.tmod (o+gI p i) 10000<0:=by simpa using z
    rw[aM A]at y;refine Va 1 U fun R a=>VI (((((o+gI p i) % 10000).toNat:Nat):Int)) U4 om_ om_ om_ U2<|C6 1 [0,3,4,5,6] a U<|Vp 0 l_ (hn_ [0,3,4,5,6] U) ⟨trivial,U,U⟩
   have A:¬ Int.tmod (o+gI p i) 10000<0:=by simpa using z
   rw[aF A]at y;rw[show Int.tmod (o+gI p i) 10000=((((o+gI p i) % 10000).toNat:Nat):Int) by omega];refine Vp 0 l_ (hn_ [0,3,4,5,6] U) ⟨trivial,U,U⟩
  obtain⟨_,rfl,rfl⟩:=d;refine Va 2 U fun R a=>Vy [aW (((o+gI p i) % 10000).toNat)] U12 fun ad _ _ L=>D.append (j:=0) U11 L U ax (by show(i+1)*8<=_;omega) fl_ fun F=>C6 1 [0,3,4,5,6] a U<|Va 2 U fun R a=>VI ((o+gI p i-(o+gI p i) % 10000)) U4 om_ om_ om_ U2<|Wc ((o+gI p i-(o+gI p i) % 10000) / 10000) U6 om_ (Gt _) f_ U2<|C6 1 [0,3,4,5] a U<|Va 1 U fun R a=>Vh _ U U6<|C6 1 [0,3,4,5] a U ?_;have hm:(p.length-(i+1))*4611686018427387904+((o+gI p i-(o+gI p i) % 10000) / 10000).natAbs<(p.length-i)*4611686018427387904+o.natAbs:=by
   rcases RS i p.length with h2|h2
   ·omega
   have h3:=q h2;rw[tr h2];omega
  refine Vr (L':=[.arr F 3 1 (i+1) ((out++[((o+gI p i) % 10000).toNat]).map aW).flatten]) (by simp[aW])<|Vn (m':=(p.length-(i+1))*4611686018427387904+((o+gI p i-(o+gI p i) % 10000) / 10000).natAbs) om_ mup (hn_ [0,3,4,5] U) ⟨i+1,(o+gI p i-(o+gI p i) % 10000) / 10000,out++[((o+gI p i) % 10000).toNat],F,⟨by simp[e],l.snoc (by show((o+gI p i) % 10000).toNat<10000;omega),by omega,by omega,by
   refine ID e ?_;rw[M4,n,UB];omega,fun h=>by
   rcases RS i p.length with h2|h2
   ·omega
   have h3:=q h2;have h4:=E h2;rw[tr h2] at *;omega⟩,rfl,rfl,rfl⟩
 have s:p.length<=i/\o=0:=by
  simp at r;omega
 refine VB [(1,3)] U fun R a=>Vc U6<|D.call (vC _ _ out e) U (.inr dc_) U6 (Rw _) fl_ (fun ae _ af _ M=>?_);obtain⟨rfl,N⟩:=M;refine C6 1 [2] a U<|Vg U2<|⟨U,yE out,mR l, ?_,N⟩;rw[RN s.1,s.2]at n;rw[iF];omega
theorem BD:∀ (l:List Int)(i:Nat)(x:Int),i<l.length->iU (l.set i x)=iU l+(10000:Int) ^ i*(x-gI l i)
|[],i,x,h=>by simp at h
|a::l,0,x,_=>by
  show x+10000*iU l=a+10000*iU l+1*(x-a);omega
|a::l,i+1,x,h=>by
  have b:=BD l i x (by simpa using h);show a+10000*iU (l.set i x)=a+10000*iU l+(10000:Int) ^ (i+1)*(x-gI l i);rw[b,UB,<- Int.mul_assoc,Int.pow_succ,Int.mul_comm ((10000:Int) ^ i) 10000];omega
theorem FE (l:List Int):iU (l++[0])=iU l:=by rw[wq];omega
structure Joins (p q:List Nat)(k:Int)(i:Nat)(o:List Int):Prop where
 len:o.length=max p.length i
 val:iU o=(bx p:Nat)+k*(bx (q.take i):Nat)
 rest:∀ j,i<=j->gI o j=(gP p j:Nat)
 lim:∀ x∈o, -100000000<=x/\x<=100000000
theorem Qg (p:List Nat)(j:Nat):gI (p.map fun x:Nat=>(x:Int)) j=(gP p j:Nat):=by
 unfold gI gP;rw[am,am,Rr];cases p[j]? <;> rfl
theorem zY (p q:List Nat)(k:Int)(a:DigP p):Joins p q k 0 (p.map fun x:Nat=>(x:Int)):=by
 refine⟨by simp,by rw[oJ];simp[bx],fun j _=>Qg p j,fun x b=>?_⟩;obtain⟨y,hy,rfl⟩:=Rs.1 b;have:y<10000:=a y hy;omega
theorem Joins.zero {p:List Nat}{k:Int}(h:Joins p q k i o)(c:o.length<=i):iU (o++[0])=(bx p:Nat)+k*(bx (q.take i):Nat)/\(∀ j,i<=j->gI (o++[0]) j=(gP p j:Nat))/\(∀ x∈o++[0], -100000000<=x/\x<=100000000):=by
 refine⟨by rw[FE,h.val],fun j a=>?_,fun x b=>?_⟩
 ·have h1:=h.rest j a;have h2:gI o j=0:=by unfold gI;rw[am,Rx om_];rfl
  rw[<- h1,h2];unfold gI;rw[am,RV om_];cases j-o.length <;> rfl
 rcases RF.1 b with h1|h1
 ·exact h.lim x h1
 simp at h1;subst h1;omega
theorem HU {x:Int}(h:i≠j):gI (o.set i x) j=gI o j:=by
 unfold gI;rw[am,am,Uo h]
theorem EB {p:List Nat}{k:Int}{y:Nat}(d:DigP p)(f:DigP q)(a:-9999<=k/\k<=9999)(b:q[i]?=some y)(g:o.length=max p.length (i+1))
  (h:iU o=(bx p:Nat)+k*(bx (q.take i):Nat)) (c:∀ j,i<=j->gI o j=(gP p j:Nat)) (l:∀ x∈o, -100000000<=x/\x<=100000000) :
  Joins p q k (i+1) (o.set i (gI o i+k*(y:Nat))):=by
 have n:y<10000:=f y (aU b);have r:gP p i<10000:=HT d i;have s:-99980001<=k*(y:Int)/\k*(y:Int)<=99980001:=by
  have h0:(0:Int)<=y:=by omega
  have h1:k*(y:Int)<=9999*(y:Int):=TQ a.2 h0;have h2:(-9999:Int)*(y:Int)<=k*(y:Int):=TQ a.1 h0;omega
 refine⟨by rw[Sh];exact g, ?_,fun j t=>?_,fun x m=>?_⟩
 ·rw[BD o i _ om_,h,gD b];have e:((bx (q.take i)+BP ^ i*y:Nat):Int)=(bx (q.take i):Nat)+(10000:Int) ^ i*(y:Int):=by
   rw[T6,RW,Int.natCast_pow];rfl
  rw[e,UB,show gI o i+k*(y:Int)-gI o i=k*(y:Int) by omega,Int.mul_left_comm];omega
 ·rw[HU om_];exact c j om_
 rcases SM m with h1|h1
 ·exact l x h1
 subst h1;rw[c i (Ro _)];omega
theorem CW (h:k<p.length):p[k]?=some (gI p k):=by
 unfold gI;rw[am,ai h];rfl
theorem kp (h:Bp l)(a:bx l<BP ^ m):l.length<=m:=by
 apply RT;intro b;have h1:=vN h om_;have h2:BP ^ m<=BP ^ (l.length-1):=RM dc_ om_;omega
theorem vw (x:Int):(nP x).length=1:=rfl
theorem eo (x:Nat):(aW x).length=1:=rfl
theorem IE (C:Mem)(v:Value)(p:List Int)(b:p.length=n)(c:0<=iU p)(d:∀ x∈p, -1000000000000<=x/\x<=1000000000000)(e:p.length<=100000):Jog.Fn cx.P 235 [v] C [.arr v 3 1 n (p.map nP).flatten] fun u a f=>f=[]/\PieC a u (iU p).toNat :=
 Jog.Fn.give (p.map nP) kr_ (by intro r hr;obtain⟨y,_,rfl⟩:=Rs.1 hr;rfl) (by rw[au,b]) (fun a _ hs=>Dq a v p hs c d e)
theorem js (C:Mem)(J K:Value)(p q:List Nat)(k:Int)(X:Sl C 1 J (p.map aW))(f:Sl C 1 K (q.map aW))(L:DigP p)(M:DigP q)(g:-9999<=k/\k<=9999)(Y:0<=(bx p:Int)+k*(bx q:Int))(ao:p.length<=50000)(ap:q.length<=50000) :
  Pur cx.P 175 [J,K,i_ k,i_ 0] C fun u D=>PieC D u ((bx p:Int)+k*(bx q:Int)).toNat:=by
 obtain⟨N,c0,rfl,_⟩:=id f;simp only[au]at f⊢;refine Vi func175 45 U3 fun w0=>U1 1 [0,1,2,3] U<|Vd fun R b=>Wa [] U12 fl_ fun aq=>Vc U6<|D.append (j:=0) U11 X (by rw[RI];intro r hr;obtain⟨y,_,rfl⟩:=Rs.1 hr;rfl) (by rw[au];simp only[R5,maxLen];omega) (by rw[au];show(0+p.length)*8<=_;omega) fl_ fun Z=>C6 1 [1,2,3,9] b U<|U1 1 [1,2,3,9,10] U<|Vr (L':=[.arr Z 3 1 (p.map fun x:Nat=>(x:Int)).length (((p.map fun x:Nat=>(x:Int)).map nP).flatten)]) (by rw[So];simp;rfl)<|G.loop (fun fr C' d n=>∃ (i:Nat)(o:List Int)(w:Value),(i<=q.length/\Joins p q k i o)/\fr=[(1,[],.slice N q.length c0),(2,[],i_ k),(3,[],i_ 0),(9,[],w),(10,[],i_ i)]/\d=[.arr w 3 1 o.length (o.map nP).flatten]/\n=q.length-i) (hn_ [1,2,3,9,10] U) ⟨0,_,_,⟨Rv _,zY p q k L⟩,U,U,U⟩ (fun fr ar av m _ z=>?_);obtain⟨i,o,w,⟨hi,c⟩,rfl,rfl,rfl⟩:=z;refine U1 4 [1,2,3,9,10,17] U<|G.cd (fun A=>?_) fun A=>?_
 ·have B:i<q.length:=by simpa using A
  have aw:=c.len;refine G.loop (fun fr C' d n=>∃ (a:List Int)(E:Value),((a=o∨(a=o++[0]/\o.length<=i)))/\fr=[(1,[],.slice N q.length c0),(2,[],i_ k),(3,[],i_ 0),(9,[],E),(10,[],i_ i)]/\d=[.arr E 3 1 a.length (a.map nP).flatten]/\n=i+1-a.length) (hn_ [1,2,3,9,10] U) ⟨o,w,.inl U,U,U,U⟩ (fun fr ay az m _ z=>?_);obtain⟨a,E,F,rfl,rfl,rfl⟩:=z;refine XE 0 U (fun Aw O he=>?_);subst he;have aA:a.length<=50002:=by
   have h1:a.length<=o.length+1:=by
    have h2:=F.imp (fun e=>congrArg List.length e) (fun e=>congrArg List.length e.1);rw[Ru,Rp]at h2;omega
   omega
  refine Va 4 U fun R b=>VI (((i:Nat):Int)) U4 om_ om_ om_ U2<|C6 1 [1,2,3,9,10,25] b U<|G.cd (fun H=>?_) fun H=>?_
  ·have Q:a.length<=i:=by
    have:(a.length:Int)<=i:=by simpa using H
    omega
   have aa:a=o:=by
    refine F.elim id fun h=>?_;have:=h.1 ▸ Q;rw[Ru,Rp]at this;omega
   subst aa;refine Va 1 U fun R b=>Vy [nP 0] U12 fun aB _ _ ab=>D.append (j:=0) U11 ab U ax (by show(a.length+1)*8<=_;omega) fl_ fun S=>C6 1 [1,2,3,9,10] b U<|Vr (L':=[.arr S 3 1 (a++[0]).length ((a++[0]).map nP).flatten]) (by simp[nP]) ?_;have aC:i+1-(a++[0]).length<i+1-a.length:=by rw[Ru,Rp];omega
   refine Vn (m':=i+1-(a++[0]).length) om_ mup (hn_ [1,2,3,9,10] U) ⟨a++[0],S,.inr ⟨U,Q⟩,U,U,U⟩
  have I:i<a.length:=by
   have:¬ (a.length:Int)<=i:=by simpa using H
   omega
  have ac:a.length=max p.length (i+1)/\iU a=(bx p:Nat)+k*(bx (q.take i):Nat)/\(∀ j,i<=j->gI a j=(gP p j:Nat))/\(∀ x∈a, -100000000<=x/\x<=100000000):=by
   refine F.elim (fun h=>?_) fun h=>?_
   ·subst h;exact⟨by omega,c.val,c.rest,c.lim⟩
   obtain⟨h1,h2⟩:=h;subst h1;have h3:=c.zero h2;exact⟨by rw[Ru,Rp];omega,h3⟩
  obtain⟨ad,ae,af,T⟩:=ac;obtain⟨ah,ai⟩:=iQ (l:=q) (k:=i) B;have aD:gP q i<10000:=HT M i;have aE:-99980001<=k*((gP q i:Nat):Int)/\k*((gP q i:Nat):Int)<=99980001:=by
   have h0:(0:Int)<=((gP q i:Nat):Int):=by omega
   have h1:k*((gP q i:Nat):Int)<=9999*((gP q i:Nat):Int):=TQ g.2 h0;have h2:(-9999:Int)*((gP q i:Nat):Int)<=k*((gP q i:Nat):Int):=TQ g.1 h0;omega
  have aF:=T _ (aU (CW I));refine Xe 0 (m:=a.length-1) (v:=.slice Aw a.length O) (t:=3) (s:=1) (xs:=(a.map nP).flatten) (by rw[show a.length-1+1=a.length by omega];rfl) (fun g0 cc aj=>?_);injection aj with ak aG al;subst ak al;refine Vv [0,1,2,3,4,5,6,7,8,9,10,11,12,13,14] [] U kr_ fun R hB b=>Ve 3 U<|VI (((i:Nat):Int)) U4 om_ om_ om_ U2<|VD (i*1) U10 w_ U2<|VT ag U6 (fun _=>(by rw[eh vw (CW I)];rfl)) U2<|Ve 3 U<|Vq f.m_ U10 om_ ah fl_ fun aH am=>Vb am U8<|Vh _ U U6<|Vh _ U U6<|VD (i*1) U10 w_ U2<|VG (j:=0) U11 (by show i*1+1<=_;rw[bV vw];omega)<|Vf [1,2,3,9,10] b U<|Va 1 U fun R b=>Vh _ U U6<|C6 1 [1,2,3,9,10] b U<|Vr (L':=[.arr (s_ g0 a.length O) 3 1 (a.set i (gI a i+k*((gP q i:Nat):Int))).length ((a.set i (gI a i+k*((gP q i:Nat):Int))).map nP).flatten]) (by rw[<- bM vw _ I,Sh];rfl)<|Vn (m':=q.length-(i+1)) om_ mup (hn_ [1,2,3,9,10] U) ⟨i+1,_,_,⟨by omega,EB L M g ai ad ae af T⟩,U,U,U⟩
 have B:i=q.length:=by
  have:¬ i<q.length:=by simpa using A
  omega
 have V:iU o=(bx p:Int)+k*(bx q:Int):=by rw[c.val,B,Rz]
 refine VB [(1,3)] U fun R b=>Vc U6<|D.call (IE _ _ o U (by rw[V];exact Y) (fun x hx=>by have:=c.lim x hx;omega) (by have:=c.len;omega)) U (.inr dc_) U6 (Rw _) fl_ (fun aI _ aJ _ an=>?_);obtain⟨rfl,W⟩:=an;refine C6 1 [8] b U<|Vg U2 ?_;rw[V]at W;exact⟨U,W⟩
theorem LP (n:Nat):kQ ([i_ 0]:List Value) n=((List.replicate n 0).map aW).flatten:=by
 rw[fe,Uf];rfl
theorem wo (h:j<l.length):bx (l.drop j)=gP l j+BP*bx (l.drop (j+1)):=by
 rw[RP h,(aJ.1 (iQ h).2).2];rfl
theorem uh (h:j<l.length):bx ((l.set j x).drop j)=x+BP*bx (l.drop (j+1)):=by
 rw[wo (by rw[Sh];exact h),List.drop_set_of_lt om_];congr 1;unfold gP;rw[am,Ug h];rfl
theorem Lc (h:DigP l)(a:x<BP):DigP (l.set j x):=fun y hy=>by
 rcases SM hy with h1|h1
 ·exact h y h1
 rw[h1];exact a
theorem CE (C:Mem)(O Q:Value)(p q:List Nat)(v:Sl C 1 O (p.map aW))(g:Sl C 1 Q (q.map aW))(ai:DigP p)(w:Bp q)(i:0<bx q)(aG:p.length<=10000)(aH:q.length<=10000) :
  Pur cx.P 230 [O,Q] C fun u D=>∃ u1 S,u=.tuple #[u1,S]/\PieC D u1 (bx p / bx q)/\PieC D S (bx p % bx q):=by
 obtain⟨T,c0,rfl,_⟩:=id v;obtain⟨V,W,rfl,_⟩:=id g;simp only[au]at v g⊢;refine Vi func230 58 U3 fun w0=>U1 2 [0,1] U<|Va 2 U fun R b=>V5 U9 (Ro _) (by show 8*p.length<=281474976710656;omega) y_ fl_ fun d=>C6 1 [0,1,6] b U<|U1 1 [0,1,6,7] U<|Va 2 U fun R b=>Vh _ U U6<|C6 1 [0,1,6,7,8] b U<|Vr (L':=[.arr (qW d p.length p.length) 3 1 p.length ((List.replicate p.length 0).map aW).flatten]) (by rw[<- LP];rfl)<|G.loop (fun fr X e z=>∃ (k:Nat)(o l:List Nat)(A:Value),(k<=p.length/\o.length=p.length/\DigP o/\bx (o.drop k)=bx (p.drop k) / bx q/\Sl X 1 A (l.map aW)/\Bp l/\bx l=bx (p.drop k) % bx q)/\fr=[(0,[],.slice T p.length c0),(1,[],.slice V q.length W),(6,[],qW d p.length p.length),(7,[],A),(8,[],i_ ((k:Int)-1))]/\e=[.arr (qW d p.length p.length) 3 1 p.length (o.map aW).flatten]/\z=k+1) (hn_ [0,1,6,7,8] U) ⟨p.length,List.replicate p.length 0,[],.slice none 0 0,⟨Ro _,RX,(fun x c=>by rw[To c];decide),by rw[SA,Uh ak];simp[bx],Sl.nil _ _,⟨fun x c=>(by cases c),by simp⟩,by rw[SA];simp[bx]⟩,U,U,U⟩ (fun fr aI aJ m _ B=>?_);obtain⟨k,o,l,A,⟨hk,Y,Z,aa,hs,E,F⟩,rfl,rfl,rfl⟩:=B;refine U1 2 [0,1,6,7,8,19] U<|G.cd (fun H=>?_) fun H=>?_
 ·have ab:0<k:=by
   have:(0:Int)<=(k:Int)-1:=by simpa using H
   omega
  obtain⟨j,rfl⟩:∃ j,k=j+1:=⟨k-1,by omega⟩;rw[show((j+1:Nat):Int)-1=(j:Int) by omega];obtain⟨aj,aK⟩:=iQ (l:=p) (k:=j) om_;have c:gP p j<BP:=HT ai j;have aL:gP p j<10000:=c;have aM:l.length<=q.length:=kp E (by rw[F];exact Ty (R9 _ i) (nk w.1));have al:DigP (gP p j::l):=fun y hy=>by
   rcases RC.1 hy with h|h
   ·rw[h];exact c
   exact E.1 y h
  refine VB [(7,3)] U fun R b=>Ve 2 U<|Vq v.m_ U10 om_ aj fl_ fun aN am=>Vb am U8<|Wa [aW (gP p j)] U12 fl_ fun aO=>Vc U6<|D.append (j:=0) U11 hs.m_ (by rw[RI];intro r hr;obtain⟨y,_,rfl⟩:=Rs.1 hr;rfl) (by rw[au];simp only[Rp,maxLen];omega) (by rw[au];show(1+l.length)*8<=_;omega) fl_ fun aP=>D.call (vC _ _ (gP p j::l) (n:=1+(l.map aW).length) (by rw[au];simp;omega)) U (.inr dc_) U6 (Rw _) fl_ (fun ac an aQ _ ao=>?_);obtain⟨rfl,I⟩:=ao;refine C6 1 [0,1,6,7,8] b U ?_;obtain⟨r,ad,J,ae,aR⟩:∃ r,Bp r/\bx r=gP p j+BP*(bx (p.drop (j+1)) % bx q)/\Sl an 1 ac (r.map aW)/\r.length<=20000:=⟨yE (gP p j::l),mR al,by rw[iF];show gP p j+BP*bx l=_;rw[F],I,by unfold yE;rw[RE,RH];omega⟩;have K:=Ia (t:=bx (p.drop (j+1))) (x:=gP p j) i;rw[<- wo om_,<- J]at K;have ap:bx r / bx q<BP:=by rw[J];exact yB i c
  have aS:bx r / bx q<10000:=ap;refine U1 2 [0,1,6,7,8,9,10] U<|G.loop (fun fr X e z=>∃ (low a:Nat),(low<=bx r / bx q/\bx r / bx q<=a/\a<=9999)/\fr=[(0,[],.slice T p.length c0),(1,[],.slice V q.length W),(6,[],qW d p.length p.length),(7,[],ac),(8,[],i_ j),(9,[],i_ low),(10,[],i_ a)]/\e=[.arr (qW d p.length p.length) 3 1 p.length (o.map aW).flatten]/\z=a-low) (hn_ [0,1,6,7,8,9,10] U) ⟨0,9999,⟨Rv _,by omega,Ro _⟩,U,U,U⟩ (fun fr aT aU m _ B=>?_);obtain⟨low,a,⟨aq,ar,av⟩,rfl,rfl,rfl⟩:=B;refine U1 3 [0,1,6,7,8,9,10,32] U<|G.cd (fun L=>?_) fun L=>?_
  ·have s:low<a:=by simpa using L
   obtain⟨aw,ax⟩:=Oo i aq ar s;refine Va 2 U fun R b=>Vh _ U U6<|Vh _ U U6<|Wc ((((low+a+1) / 2:Nat):Int)) U6 om_ (by rw[Ua om_];omega) f_ U2<|C6 1 [0,1,6,7,8,9,10,11] b U<|Va 3 U fun R b=>VC (js _ _ _ [] q ((((low+a+1) / 2:Nat):Int)) (Sl.nil _ _) g.m_ (fun x c=>(by cases c)) w.1 om_ (by rw[<- RW];omega) ak om_) U7 fl_ (fun aV _ _ ay=>?_);obtain⟨l2,az,aA,aB⟩:=ay;have af:bx l2=bx q*((low+a+1) / 2):=by
    have h0:((bx ([]:List Nat):Nat):Int)=0:=rfl;rw[aA,h0,Int.zero_add,<- RW,Tk,R8]
   refine Vl (CA _ _ _ r l2 ae.m_ aB.m_ ad az) U7<|Vf [0,1,6,7,8,9,10,11,42] b U<|G.cd (fun M=>?_) fun M=>?_
   ·have N:bx r<bx q*((low+a+1) / 2):=by
     rw[<- af];simpa using M
    have f:=aw N;refine Va 1 U fun R b=>Vh _ U U6<|C6 1 [0,1,6,7,8,9,10] b U ?_;rw[show((((low+a+1) / 2:Nat):Int))-1=(((low+a+1) / 2-1:Nat):Int) by omega];refine Vn (m':=(low+a+1) / 2-1-low) om_ mup (hn_ [0,1,6,7,8,9,10] U) ⟨low,(low+a+1) / 2-1,⟨f.1,f.2,by omega⟩,U,U,U⟩
   have N:¬ bx r<bx q*((low+a+1) / 2):=by
    rw[<- af];simpa using M
   have f:=ax N;refine U1 2 [0,1,6,7,8,9,10] U<|Vn (m':=a-(low+a+1) / 2) om_ mup (hn_ [0,1,6,7,8,9,10] U) ⟨(low+a+1) / 2,a,⟨f.1,f.2,av⟩,U,U,U⟩
  have s:low=bx r / bx q:=by
   have:¬ low<a:=by simpa using L
   omega
  have ag:((bx r:Nat):Int) + -(low:Int)*((bx q:Nat):Int)=((bx r % bx q:Nat):Int):=by
   have h1:=T4 (bx r) (bx q);rw[<- s]at h1;have h2:((bx q*low+bx r % bx q:Nat):Int)=(bx r:Nat):=by rw[h1]
   rw[T6,RW]at h2;rw[Int.neg_mul,Int.mul_comm (low:Int)];omega
  refine Va 3 U fun R b=>VD (j*1) U10 w_ U2<|VG (j:=0) U11 (by show j*1+1<=_;rw[bV eo];omega)<|Vf [0,1,6,7,8,9] b U<|Va 4 U fun R b=>?_;rw[show IntKind.i64.wrap (0-(low:Int))=-(low:Int) by rw[IntKind.wrap_i64];omega];refine VC (js _ _ _ r q (-(low:Int)) ae.m_ g.m_ ad.1 w.1 om_ (by rw[ag];omega) om_ om_) U7 fl_ (fun aX _ _ aC=>?_);obtain⟨l3,aD,ah,aE⟩:=aC;rw[ag,Tk]at ah;refine C6 1 [0,1,6,7,8] b U<|Va 1 U fun R b=>Vh _ U U6<|C6 1 [0,1,6,7,8] b U<|Vr (L':=[.arr (qW d p.length p.length) 3 1 p.length ((o.set j low).map aW).flatten]) (by rw[<- bM eo _ (by omega:j<o.length)];rfl)<|Vn (m':=j+1) om_ mup (hn_ [0,1,6,7,8] U) ⟨j,o.set j low,l3,_,⟨by omega,by rw[Sh];exact Y,Lc Z (by show low<BP;omega),by rw[uh om_,aa,K.1,s];omega,aE.mono mup,aD,by rw[ah,K.2,J]⟩,U,U,U⟩
 have ab:k=0:=by
  have:¬ (0:Int)<=(k:Int)-1:=by simpa using H
  omega
 subst ab;refine VB [(1,3)] U fun R b=>Vc U6<|D.call (vC _ _ o Y) U (.inr dc_) U6 (Rw _) fl_ (fun aY _ aZ _ aF=>?_);obtain⟨rfl,I⟩:=aF;refine C6 3 [4,5] b U<|Vo (G.dropAll (VA U3 ?_));exact⟨U,_,_,U,⟨yE o,mR Z,by rw[iF,<- SE (l:=o),aa,SE],I⟩,⟨l,E,by rw[F,SE],hs.mono mup⟩⟩
theorem dK (z:Int):ck 45 (txt z)=(bk z.natAbs,decide (z<0)):=by
 unfold txt;split
 ·rename_i h;rw[RJ h];rfl
 rename_i h;rw[RU h];unfold ck;rw[aF];intro h0;have h1:=(bl z.natAbs).1.1 45 (List.mem_of_mem_head? h0);revert h1;decide
theorem BG (z:Int):txt z=[48] ↔ z=0:=by
 constructor
 ·intro h;have h1:(ck 45 (txt z)).1=[48]:=by rw[h];rfl
  rw[dK]at h1;have h2:=(bl z.natAbs).2;have h3:bk z.natAbs=[48]:=h1;rw[h3]at h2;have h4:bP [48]=0:=rfl;omega
 rintro rfl;unfold txt;rw[aF om_,show bk (0:Int).natAbs=bk 0 from rfl,bk];rfl
theorem kG (z:Int):((⟨(txt z).toArray⟩:ByteArray).data.toList == (⟨#[48]⟩:ByteArray).data.toList)=decide (z=0):=by
 show(txt z == [48])=_;rw[Ql,Sf];exact BG z
theorem cW (n:Nat):txt (n:Int)=bk n:=by
 unfold txt;rw[aF om_];rfl
theorem dC (C:Mem)(z:Int):Gives cx.P 172 [ae (txt z)] C (.tuple #[.bool (decide (z<0)),ae (bk z.natAbs)]):=by
 have h:=split_fn C (txt z)
 rwa [dK]at h
theorem Ik {c:UInt8}(h:s[i]?=some c):bP (s.take (i+1))=10*bP (s.take i)+(c.toNat-48):=by
 rw[Il h];omega
theorem yD (a:∀ c∈s,dT c=true)(d:s.length<=17)(i:Nat):bP (s.take i)<100000000000000000:=by
 have h1:=dt (s:=s.take i) (fun c b=>a c (SD b));have h2:10 ^ (s.take i).length<=10 ^ 17:=RM dc_ (by rw[RE];omega);omega
theorem uq (C:Mem)(z:Int)(b:(bk z.natAbs).length<=17):Gives cx.P 177 [ae (txt z)] C (.tuple #[i_ z,.bool true]):=by
 obtain⟨s,k⟩:∃ s,bk z.natAbs=s:=⟨_,rfl⟩;have hs:=(bl z.natAbs).1.1;have d:=(bl z.natAbs).2;rw[k]at b hs d;refine Vi func177 45 U3 fun w0=>U1 2 [0] U<|Va 1 U fun R a=>Vm (by have h:=dC C z;rw[k]at h;exact h) U7 fl_<|C6 5 [4,5] a U<|U1 3 [4,5,16] U<|G.cd (fun l=>?_) fun l=>?_
 ·exfalso;have:(s.length:Int) > 19:=by simpa using l
  omega
 refine U1 1 [4,5,6] U<|U1 1 [4,5,6,7] U<|G.loop (fun fr w p q=>∃ (i:Nat),(i<=s.length)/\fr=[(4,[],.bool (decide (z<0))),(5,[],ae s),(6,[],i_ (-((bP (s.take i):Nat):Int))),(7,[],i_ i)]/\p=[]/\q=s.length-i) (hn_ [4,5,6,7] U) ⟨0,Rv _,U,U,U⟩ (fun fr x y m _ r=>?_);obtain⟨i,A,rfl,rfl,rfl⟩:=r;refine U1 4 [4,5,6,7,20] U<|G.cd (fun e=>?_) fun e=>?_
 ·have f:i<s.length:=by simpa using e
  obtain⟨c,g⟩:∃ c,s[i]?=some c:=⟨s[i],ai f⟩;have t:=hs c (aU g);have B:48<=c.toNat/\c.toNat<=57:=by simpa [dT] using t
  have D:=yD hs b i;have u:(-9223372036854775808+(((c.toNat:Nat):Int)-48)).tdiv 10=-((9223372036854775808-(((c.toNat:Nat):Int)-48)) / 10):=by
   rw[show(-9223372036854775808+(((c.toNat:Nat):Int)-48))=-(9223372036854775808-(((c.toNat:Nat):Int)-48)) by omega,Int.neg_tdiv,Ua om_]
  refine Va 2 U fun R a=>VN U8 (fun _=>⟨by omega,g⟩) U2<|VO (c:=((c.toNat:Nat):Int)) U8 f_ fl_<|Vh _ U U6<|C6 1 [4,5,6,7,8] a U<|Va 2 U fun R a=>Vh _ U U6<|Wc (-((9223372036854775808-(((c.toNat:Nat):Int)-48)) / 10)) U6 om_ u f_ U2<|C6 1 [4,5,6,7,8,32] a U<|G.cd (fun n=>?_) fun n=>?_
  ·exfalso;simp only[Ry]at n;omega
  refine Va 1 U fun R a=>Vh _ U U6<|Vc U6<|Vh _ U U6<|C6 1 [4,5,6,7] a U<|Va 1 U fun R a=>Vh _ U U6<|C6 1 [4,5,6,7] a U ?_;rw[show 10 * -((bP (s.take i):Nat):Int)-(((c.toNat:Nat):Int)-48)=-((bP (s.take (i+1)):Nat):Int) by rw[Ik g];omega];refine Vn (m':=s.length-(i+1)) om_ mup (hn_ [4,5,6,7] U) ⟨i+1,om_,U,U,U⟩
 have f:i=s.length:=by
  have:¬ i<s.length:=by simpa using e
  omega
 rw[f,Rz,d];refine U1 2 [6,37] U<|G.cd (fun j=>?_) fun j=>?_
 ·have v:z<0:=by simpa using j
  refine U1 3 [2,3] U<|Vo (G.dropAll (VA U3 ?_));refine⟨?_,U⟩;rw[show -((z.natAbs:Nat):Int)=z by omega]
 have v:¬ z<0:=by simpa using j
 have E:z.natAbs<100000000000000000:=by
  have:=yD hs b s.length
  rwa [Rz,d]at this
 refine U1 3 [6,40] U<|G.cd (fun o=>?_) fun o=>?_
 ·exfalso;simp at o;omega
 refine U1 4 [2,3] U<|Vo (G.dropAll (VA U3 ?_));refine⟨?_,U⟩;rw[show IntKind.i64.wrap (0 - -((z.natAbs:Nat):Int))=z by rw[IntKind.wrap_i64];omega]
theorem ph (C:Mem)(z:Int):Gives cx.P 171 [ae (txt z)] C (.tuple #[i_ (if (bk z.natAbs).length<=17 then z else 0),.bool (decide ((bk z.natAbs).length<=17))]):=by
 refine Vi func171 18 U3 fun w0=>U1 2 [0] U<|Va 1 U fun R b=>Vl (dC C z) U7<|C6 5 [0,5] b U<|U1 3 [0,13] U<|G.cd (fun c=>?_) fun c=>?_
 ·have a:¬ (bk z.natAbs).length<=17:=by
   have:((bk z.natAbs).length:Int) > 17:=by simpa using c
   omega
  refine U1 2 [2,3] U<|Vo (G.dropAll (VA U3 ?_));rw[aF a,RU a];exact⟨U,U⟩
 have a:(bk z.natAbs).length<=17:=by
  have:¬ ((bk z.natAbs).length:Int) > 17:=by simpa using c
  omega
 refine Va 1 U fun R b=>Vl (uq _ z a) U7<|C6 4 [2,3] b U<|Vo (G.dropAll (VA U3 ?_));rw[aM a,RJ a];exact⟨U,U⟩
theorem gM (C:Mem)(a:Tabs C)(z:Int)(b:-9223372036854775808<=z)(c:z<=9223372036854775807):Gives cx.P 106 [i_ z] C (ae (txt z)):=by
 exact Vi func106 5 U3 fun w0=>U1 1 [0] U<|Va 1 U fun R d=>Vl (fT _ a z b c) U7<|C6 1 [2] d U<|Vg U2<|⟨U,U⟩
theorem pO (C:Mem)(z:Int):Gives cx.P 165 [ae (txt z)] C (i_ (if z<0 then -1 else if z=0 then 0 else 1)):=by
 refine Vi func165 13 U3 fun w0=>U1 1 [0] U<|Va 1 U fun R e=>Vl (dC C z) U7<|C6 5 [0,3] e U<|U1 1 [0,10] U<|G.cd (fun b=>?_) fun b=>?_
 ·have c:z<0:=by simpa using b
  refine U1 1 [2] U<|Vg U2 ?_;rw[aM c];exact⟨U,U⟩
 have c:¬ z<0:=by simpa using b
 rw[aF c];refine U1 2 [12] U<|G.cd (fun a=>?_) fun a=>?_
 ·rw[kG]at a;have d:z=0:=by simpa using a
  refine U1 1 [2] U<|Vg U2 ?_;rw[aM d];exact⟨U,U⟩
 rw[kG]at a;have d:¬ z=0:=by simpa using a
 refine U1 1 [2] U<|Vg U2 ?_;rw[aF d];exact⟨U,U⟩
theorem nF (C:Mem)(z:Int)(d:(bk z.natAbs).length<=1000000):Gives cx.P 166 [ae (txt z)] C (ae (txt (-z))):=by
 refine Vi func166 18 U3 fun w0=>U1 1 [0] U<|Va 1 U fun R a=>Vl (dC C z) U7<|C6 5 [0,3,4] a U<|Va 4 U fun R a=>VH U8<|Vf [4,14] a U<|G.cd (fun b=>?_) fun b=>?_
 ·rw[kG]at b;have c:z<=0:=by simp at b;omega
  refine U1 2 [2] U<|Vg U2<|⟨?_,U⟩;rw[show txt (-z)=bk z.natAbs by rw[show -z=((z.natAbs:Nat):Int) by omega,cW]]
 rw[kG]at b;have c:0<z:=by simp at b;omega
 refine Va 1 U fun R a=>VX U6 (fun _=>(by simp only[RH,R5];omega)) U2<|C6 1 [2] a U<|Vg U2<|⟨?_,U⟩;rw[show txt (-z)=45::bk z.natAbs by unfold txt;rw[aM om_];congr 2;omega];rfl
theorem tT (C:Mem)(z:Int):Gives cx.P 229 [ae (txt z)] C (ae (bk z.natAbs)):=by
 exact Vi func229 11 U3 fun w0=>U1 1 [0] U<|Va 1 U fun R a=>Vl (dC C z) U7<|C6 5 [4] a U<|U1 2 [2] U<|Vg U2<|⟨U,U⟩
theorem O4:BP ^ 200=10 ^ 800:=by decide +kernel
theorem eF (h:n<BP ^ 200):(bk n).length<=800:=dQ (by rw[<- O4];exact h) om_
theorem PieC.take {D:Mem}{u:Value}(h:PieC D u n)(a:n<BP ^ 201):∃ l,Bp l/\bx l=n/\l.length<=201/\Sl D 1 u (l.map aW):=by
 obtain⟨l,h1,h2,h3⟩:=h;exact⟨l,h1,h2,kp h1 (by rw[h2];exact a),h3⟩
theorem gj (C:Mem)(n:Nat)(h:n<BP ^ 200):Pur cx.P 173 [ae (bk n)] C fun u D=>∃ l,Bp l/\bx l=n/\l.length<=200/\Sl D 1 u (l.map aW) :=
 (Na C (bk n) (bl n).1.1 (by have:=eF h;omega)).mono fun u D _ _ ⟨h0,l,h1,h2,h3⟩=>⟨h0,l,h1,by rw[h2,(bl n).2],kp h1 (by rw[h2,(bl n).2];exact h),h3⟩
theorem O3:BP ^ 200+BP ^ 200<BP ^ 201:=by decide +kernel
theorem pg (h:(bk z.natAbs).length<=17):z.natAbs<100000000000000000:=by
 have h1:=dt (bl z.natAbs).1.1;rw[(bl z.natAbs).2]at h1;have h2:10 ^ (bk z.natAbs).length<=10 ^ 17:=RM dc_ h;omega
theorem F8 (h:decide (z<0)=decide (w<0)):sgZ (decide (z<0)) (z.natAbs+w.natAbs)=z+w:=by
 rw[Sf]at h;unfold sgZ;by_cases a:z<0
 ·have:=h.1 a;rw[RJ a,aM rfl];omega
 have:¬ w<0:=fun h1=>a (h.2 h1);rw[RU a,aF ak];omega
theorem Nl (h:decide (z<0)≠decide (w<0))(b:z.natAbs<w.natAbs):sgZ (decide (w<0)) (w.natAbs-z.natAbs)=z+w:=by
 rw[ne_eq,Sf]at h;unfold sgZ;by_cases a:w<0
 ·have:¬ z<0:=fun h1=>h ⟨fun _=>a,fun _=>h1⟩;rw[RJ a,aM rfl];omega
 have:z<0:=RT fun h1=>h ⟨fun h2=>absurd h2 h1,fun h2=>absurd h2 a⟩;rw[RU a,aF ak];omega
theorem F9 (h:decide (z<0)≠decide (w<0))(b:¬ z.natAbs<w.natAbs):sgZ (decide (z<0)) (z.natAbs-w.natAbs)=z+w:=by
 rw[ne_eq,Sf]at h;unfold sgZ;by_cases a:z<0
 ·have:¬ w<0:=fun h1=>h ⟨fun _=>h1,fun _=>a⟩;rw[RJ a,aM rfl];omega
 have:w<0:=RT fun h1=>h ⟨fun h2=>absurd h2 a,fun h2=>absurd h2 h1⟩;rw[RU a,aF ak];omega
theorem tS (C:Mem)(g:Tabs C)(z w:Int)(v:z.natAbs<BP ^ 200)(x:w.natAbs<BP ^ 200):Gives cx.P 110 [ae (txt z),ae (txt w)] C (ae (txt (z+w))):=by
 have B:=O3;refine Vi func110 70 U3 fun w0=>U1 1 [0,1] U<|Va 1 U fun R a=>Vl (ph C z) U7<|C6 5 [0,1,5,6] a U<|Va 1 U fun R a=>Vl (ph _ w) U7<|C6 5 [0,1,5,6,7,8] a U<|Va 3 U fun R a=>Vz U8<|Vf [0,1,5,7,28] a U<|G.cd (fun q=>?_) fun q=>?_
 ·have h:(bk z.natAbs).length<=17/\(bk w.natAbs).length<=17:=by simpa using q
  have D:=pg h.1;have E:=pg h.2;rw[aM h.1,aM h.2];exact Va 2 U fun R a=>Vh _ U U6<|Vm (gM _ g (z+w) om_ om_) U7 fl_<|C6 1 [4] a U<|Vg U2<|⟨U,U⟩
 refine Va 1 U fun R a=>Vl (dC _ z) U7<|C6 5 [1,9,10] a U<|Va 1 U fun R a=>Vl (dC _ w) U7<|C6 5 [9,10,11,12] a U<|Va 1 U fun R a=>VJ (gj _ z.natAbs v) U7 (fun F _ _ y=>?_);obtain⟨lp,i,H,I,j⟩:=y;refine Vc U6<|VJ (gj _ w.natAbs x) U7 (fun J _ _ A=>?_);obtain⟨b,k,K,L,l⟩:=A;refine C6 2 [9,11,13,14] a U<|U1 4 [9,11,13,14,47] U<|G.cd (fun n=>?_) fun n=>?_
 ·have m:decide (z<0)=decide (w<0):=by simpa using n
  refine Va 3 U fun R a=>VC (js _ _ _ lp b 1 j.m_ l.m_ i.1 k.1 om_ om_ om_ om_) U7 fl_ (fun M _ _ r=>?_);rw[show((bx lp:Int)+1*(bx b:Int)).toNat=z.natAbs+w.natAbs by omega]at r;obtain⟨c,d,e,s,f⟩:=PieC.take r om_;refine Vm (nI _ g.m_ (decide (z<0)) _ c f.m_ d.1 om_) U7 fl_<|C6 1 [4] a U<|Vg U2<|⟨?_,U⟩;rw[e,F8 m]
 have m:decide (z<0)≠decide (w<0):=by simpa using n
 refine Va 2 U fun R a=>Vl (CA _ _ _ lp b j.m_ l.m_ i k) U7<|C6 1 [9,11,13,14,56] a U<|G.cd (fun o=>?_) fun o=>?_
 ·have p:z.natAbs<w.natAbs:=by
   have:bx lp<bx b:=by simpa using o
   omega
  refine Va 3 U fun R a=>VC (js _ _ _ b lp (-1) l.m_ j.m_ k.1 i.1 om_ om_ om_ om_) U7 fl_ (fun N _ _ t=>?_);rw[show((bx b:Int) + -1*(bx lp:Int)).toNat=w.natAbs-z.natAbs by omega]at t;obtain⟨c,d,e,s,f⟩:=PieC.take t om_;refine Vm (nI _ g.m_ (decide (w<0)) _ c f.m_ d.1 om_) U7 fl_<|C6 1 [4] a U<|Vg U2<|⟨?_,U⟩;rw[e,Nl m p]
 have p:¬ z.natAbs<w.natAbs:=by
  have:¬ bx lp<bx b:=by simpa using o
  omega
 refine Va 3 U fun R a=>VC (js _ _ _ lp b (-1) j.m_ l.m_ i.1 k.1 om_ om_ om_ om_) U7 fl_ (fun O _ _ u=>?_);rw[show((bx lp:Int) + -1*(bx b:Int)).toNat=z.natAbs-w.natAbs by omega]at u;obtain⟨c,d,e,s,f⟩:=PieC.take u om_;refine Vm (nI _ g.m_ (decide (z<0)) _ c f.m_ d.1 om_) U7 fl_<|C6 1 [4] a U<|Vg U2<|⟨?_,U⟩;rw[e,F9 m p]
theorem DV (C:Mem)(b:Tabs C)(z w:Int)(c:z.natAbs<BP ^ 200)(a:w.natAbs<BP ^ 200):Gives cx.P 237 [ae (txt z),ae (txt w)] C (ae (txt (z-w))):=by
 exact Vi func237 9 U3 fun w0=>U1 1 [0,1] U<|Va 2 U fun R d=>Vm (nF _ w (by have:=eF a;omega)) U7 fl_<|Vm (tS _ b z (-w) c (by rw[Ul];exact a)) U7 fl_<|C6 1 [4] d U<|Vg U2<|⟨U,U⟩
theorem se (C:Mem)(a:Tabs C)(z w:Int)(b:z.natAbs<BP ^ 200)(c:w.natAbs<BP ^ 200):Gives cx.P 180 [ae (txt z),ae (txt w)] C (i_ (if z-w<0 then -1 else if z-w=0 then 0 else 1)):=by
 exact Vi func180 9 U3 fun w0=>U1 1 [0,1] U<|Va 2 U fun R d=>Vl (DV _ a z w b c) U7<|Vl (pO _ (z-w)) U7<|C6 1 [4] d U<|Vg U2<|⟨U,U⟩
theorem pL (C:Mem)(n:Nat):Gives cx.P 172 [ae (bk n)] C (.tuple #[.bool false,ae (bk n)]):=by
 have h:=dC C (n:Int);rw[cW,RU om_]at h;exact h
theorem rG (C:Mem)(n:Nat):Gives cx.P 171 [ae (bk n)] C (.tuple #[i_ (if (bk n).length<=17 then (n:Int) else 0),.bool (decide ((bk n).length<=17))]):=by
 have h:=ph C (n:Int);rw[cW]at h;exact h
theorem rH (h:(bk n).length<=17):n<100000000000000000:=pg (z:=(n:Int)) h
theorem GX (C:Mem)(a:Tabs C)(n:Nat)(h:n<=9223372036854775807):Gives cx.P 106 [i_ n] C (ae (bk n)):=by
 have h:=gM C a (n:Int) om_ om_
 rwa [cW]at h
theorem uT (C:Mem)(a:Tabs C)(v:Value)(l:List Nat)(b:Sl C 1 v (l.map aW))(c:DigP l)(d:l.length<=100000):Gives cx.P 174 [.bool false,v] C (ae (bk (bx l))):=by
 have h:=nI C a false v l b c d;rw[show sgZ false (bx l)=((bx l:Nat):Int) from rfl,cW]at h;exact h
theorem QY {q:Nat}(h:q<=9223372036854775807):IntKind.i64.wrap ((q:Nat):Int)=(q:Nat):=by rw[IntKind.wrap_i64];omega
theorem mL (C:Mem)(d:Tabs C)(a b:Nat)(l:a<BP ^ 200)(m:b<BP ^ 200)(e:0<b):Gives cx.P 168 [ae (bk a),ae (bk b)] C (.tuple #[ae (bk (a / b)),ae (bk (a % b))]):=by
 have D:=O3;refine Vi func168 93 U3 fun w0=>U1 2 [0,1] U<|Va 1 U fun R c=>Vl (rG C a) U7<|C6 5 [0,1,6,7] c U<|Va 1 U fun R c=>Vl (rG _ b) U7<|C6 5 [0,1,6,7,8,9] c U<|Va 3 U fun R c=>Vz U8<|Vf [0,1,6,8,31] c U<|G.cd (fun f=>?_) fun f=>?_
 ·have hs:(bk a).length<=17/\(bk b).length<=17:=by simpa using f
  have h1:=rH hs.1;have h2:=rH hs.2;rw[aM hs.1,aM hs.2];have h0:=Sv a b;refine Vv [0,1,2,3,4,5,6,7] [] U kr_ fun R E c=>Ve 2 U<|Wc (((a / b:Nat):Int)) U6 om_ (by rw[Ua om_];rfl) (QY om_) U2<|Ve 2 U<|Wd U6 om_ om_ U2<|C6 2 [6,8,10,11] c U<|U1 2 [6,8,10,11,39] U<|G.cd (fun g=>?_) fun g=>?_
  ·exfalso;have h3:=UM (a:Int) (show(b:Int)≠0 by omega);simp only[Ry]at g;omega
  rw[<- Int.natCast_emod];have h3:=Sv a b;have h4:=R9 a e;refine Va 1 U fun R c=>Vm (GX _ d (a / b) om_) U7 fl_<|Vc U6<|Vm (GX _ d (a % b) om_) U7 fl_<|C6 2 [4,5] c U<|Vo (G.dropAll (VA U3 ?_));exact⟨U,U⟩
 refine Va 1 U fun R c=>Vl (pL _ a) U7<|C6 5 [1,12,13] c U<|Va 1 U fun R c=>Vl (pL _ b) U7<|C6 5 [12,13,14,15] c U<|Va 1 U fun R c=>VJ (gj _ a l) U7 (fun F _ _ n=>?_);obtain⟨lp,o,p,H,q⟩:=n;refine Vc U6<|VJ (gj _ b m) U7 (fun I _ _ r=>?_);obtain⟨s,t,u,J,v⟩:=r;refine VC (CE _ _ _ lp s q.m_ v.m_ o.1 t om_ om_ om_) U7 fl_ (fun K _ _ w=>?_);obtain⟨u1,L,rfl,h,i⟩:=w;rw[p,u]at h i;obtain⟨l1,x,y,M,z⟩:=PieC.take h (by have:=Sv a b;omega);obtain⟨l2,A,B,N,j⟩:=PieC.take i (by have:=R9 a e;omega);obtain⟨A2,c2,rfl,_⟩:=id j;refine C6 5 [12,14,15,16,17] c U<|Va 5 U fun R c=>Vz U8<|Vf [12,14,15,16,17,78] c U<|G.cd (fun k=>?_) fun k=>?_
 ·exfalso;simp at k
 refine Va 4 U fun R c=>Vm (uT _ d.m_ _ l1 z.m_ x.1 om_) U7 fl_<|Vc U6<|Vm (uT _ d.m_ _ l2 j.m_ A.1 om_) U7 fl_<|C6 2 [4,5] c U<|Vo (G.dropAll (VA U3 ?_));rw[y,B];exact⟨U,U⟩
theorem MH (n:Nat):((⟨(bk n).toArray⟩:ByteArray).data.toList == (⟨#[48]⟩:ByteArray).data.toList)=decide (n=0):=by
 have h:=kG (n:Int);rw[cW]at h;rw[h,Sf];omega
theorem tm (C:Mem)(h:Tabs C)(z w:Int)(i:z.natAbs<BP ^ 200)(j:w.natAbs<BP ^ 200):Gives cx.P 167 [ae (txt z),ae (txt w)] C (ae (bk (Nat.gcd z.natAbs w.natAbs))):=by
 refine Vi func167 22 U3 fun w0=>U1 1 [0,1] U<|Va 1 U fun R e=>Vl (tT _ z) U7<|Vc U6<|Vl (tT _ w) U7<|C6 2 [0,1] e U<|G.loop (fun fr p k l=>∃ (a b:Nat),(a<BP ^ 200/\b<BP ^ 200/\Nat.gcd a b=Nat.gcd z.natAbs w.natAbs)/\fr=[(0,[],ae (bk a)),(1,[],ae (bk b))]/\k=[]/\l=b+1) (hn_ [0,1] U) ⟨z.natAbs,w.natAbs,⟨i,j,U⟩,U,U,U⟩ (fun fr q r m _ n=>?_);obtain⟨a,b,⟨o,f,g⟩,rfl,rfl,rfl⟩:=n;refine U1 2 [0,1,12] U<|G.cd (fun c=>?_) fun c=>?_
 ·have d:0<b:=by
   rw[MH]at c;have:b≠0:=by simpa using c
   omega
  have s:=R9 a d;refine Va 2 U fun R e=>Vl (mL _ h.m_ a b o f d) U7<|C6 5 [1,6] e U<|U1 4 [0,1] U<|Vn (m':=a % b+1) om_ mup (hn_ [0,1] U) ⟨b,a % b,⟨f,by omega,by rw[<- g,Qi a b d]⟩,U,U,U⟩
 have d:b=0:=by
  rw[MH]at c;simpa using c
 refine U1 2 [4] U<|Vg U2<|⟨?_,U⟩;rw[<- g,d,T2]
def gc (s:Str):Int:=sgZ (ck 45 s).2 (bP (ck 45 s).1)
theorem yP {t:Str}(h:wh t):t.head?=some 48 ↔ bP t=0:=by
 constructor
 ·intro h0;have h1:=h.2.2 h0;cases t with
 |nil=>cases h0
 |cons b t =>
   have a:b=48:=by simpa using h0
   have d:t=[]:=by cases t with
   |nil=>rfl
   |cons c t=>simp at h1
   subst a d;rfl
 intro h0;have:=rF h (bl 0).1 (by rw[h0,(bl 0).2]);rw[this,bk];rfl
theorem yO :jA s=true ↔ wh (ck 45 s).1/\((ck 45 s).2=true->0<bP (ck 45 s).1):=by
 obtain⟨t,neg,d⟩:∃ t b,ck 45 s=(t,b):=⟨_,_,rfl⟩;unfold jA;rw[d];simp only[RG,Ub,Ti,ne_eq,RI,Bool.and_eq_false_imp,S8,Tf,RZ];constructor
 ·rintro ⟨⟨h1,h2⟩,h3⟩;have a:wh t:=⟨h1,h2,fun h=>by
   have:=(h3 h).2;have:0<t.length:=Sc.2 h2;omega⟩
  refine⟨a,fun c=>?_⟩;rcases Sz (bP t) with h|h
  ·have:=(h3 ((yP a).2 h)).1;rw[c]at this;cases this
  exact h
 rintro ⟨a,h⟩;refine⟨⟨a.1,a.2.1⟩,fun h0=>?_⟩;have h1:=(yP a).1 h0;have h2:=a.2.2 h0;refine⟨?_,by omega⟩;cases c:neg with
|false=>rfl
|true=>have:=h c;omega
theorem H9 (s:Str):s=if (ck 45 s).2 then 45::(ck 45 s).1 else (ck 45 s).1:=by
 unfold ck;split
 ·rename_i h;cases s with
 |nil=>cases h
 |cons b s =>
   have a:b=45:=by simpa using h
   subst a;rfl
 rfl
theorem yN (h:jA s=true):s=txt (gc s):=by
 obtain⟨h1,h2⟩:=yO.1 h;unfold gc;rw[BH _ _ h2,<- pf h1];exact H9 s
def lW (zn:Int):Option Str->Bool
|none=>true
|some b=>decide (1<gc b) && !(zn == 0) && (Nat.gcd zn.natAbs (gc b).natAbs == 1)
def aR (s:Str):Bool:=bR (iS 47 s).1 && bR ((iS 47 s).2.getD [49]) && lW (gc (iS 47 s).1) (iS 47 s).2
theorem nv :bR s=true ↔ okD (ck 45 s).1=true/\((ck 45 s).2=true->0<bP (ck 45 s).1):=by
 unfold bR;rw[RG,yO,uM,Ry];constructor
 ·rintro ⟨⟨h1,h2⟩,h3⟩;exact⟨⟨h1,h3⟩,h2⟩
 rintro ⟨⟨h1,h3⟩,h2⟩;exact⟨⟨h1,h2⟩,h3⟩
theorem Dh (s:Str):(gc s).natAbs=bP (ck 45 s).1:=by
 unfold gc sgZ;split <;> omega
theorem xn (h:s.length<=n):(iS 47 s).1.length<=n/\((iS 47 s).2.getD [49]).length<=n+1:=by
 rcases gT 47 s with⟨h1,_⟩|⟨a,post,h1,h2,_⟩
 ·rw[h1];exact⟨h,by simp⟩
 have e:=congrArg List.length h2;rw[Ru,RH]at e;rw[h1];simp only[SG];omega
theorem xj (h:bR s=true):s=txt (gc s)/\(gc s).natAbs<BP ^ 200:=by
 have h1:=nv.1 h;refine⟨yN (by unfold bR at h;exact(Up.1 h).1), ?_⟩;rw[Dh];have h2:=uM.1 h1.1;have h3:=dt h2.1.1;have h4:∀ M,(ck 45 s).1.length<=M->10 ^ (ck 45 s).1.length<=10 ^ M:=fun M h=>RM dc_ h;rw[O4];exact Sq h3 (h4 800 om_)
theorem one_val:([49]:Str)=txt 1:=by
 unfold txt;rw[aF om_,show bk (1:Int).natAbs=bk 1 from rfl,bk];rfl
theorem P3:(1:Int).natAbs<BP ^ 200:=by decide +kernel
theorem ru (n:Nat):((⟨(bk n).toArray⟩:ByteArray).data.toList == (⟨#[49]⟩:ByteArray).data.toList)=(n == 1):=by
 show(bk n == [49])=_;rw[Ql,UR,Ry,S8];constructor
 ·intro h;have h2:=(bl n).2;rw[h]at h2;exact h2.symm
 rintro rfl;rw[bk];rfl
theorem Gl (C:Mem)(o:Tabs C)(s:Str)(u:s.length<=999998):Gives cx.P 112 [ae s] C (.bool (aR s)):=by
 have p:=xn u;obtain⟨c,d,i⟩:∃ a b,iS 47 s=(a,b):=⟨_,_,rfl⟩;have e:aR s=(bR c && bR (d.getD [49]) && lW (gc c) d):=by
  unfold aR;rw[i]
 rw[i]at p;simp only at p;refine Vi func112 34 U3 fun w0=>U1 1 [0] U<|Va 1 U fun R f=>Vm (by have h:=xE C s om_;rw[i]at h;exact h) U7 fl_<|C6 5 [0,3,4] f U<|Va 1 U fun R f=>Vm (xl _ c om_) U7 fl_<|Ve 3 U<|Vx (fun _=>(xl _ (d.getD [49]) om_)) U9<|Vc U6<|VH U8<|Vf [0,3,4,17] f U<|G.cd (fun k=>?_) fun k=>?_
 ·have v:aR s=false:=by
   rw[e];cases h1:bR c with
  |false=>rfl
  |true =>
    rw[h1]at k;have h2:bR (d.getD [49])=false:=by simpa using k
    rw[h2];rfl
  exact U1 1 [2] U<|Vg U2<|⟨by rw[v],U⟩
 have hr:bR c=true/\bR (d.getD [49])=true:=by simpa using k
 rw[hr.1,hr.2]at e;obtain⟨q,r⟩:=xj hr.1;refine Va 1 U fun R f=>Vl (mB _ s 47) U7<|C6 1 [3,4,20] f U<|G.cd (fun l=>?_) fun l=>?_
 ·have h0:¬ 0<=Lib.indexByte s 47:=by
   have:Lib.indexByte s 47<0:=by simpa using l
   omega
  have m:d=none:=by
   have h:=ry h0;rw[i]at h;exact(UD h).2
  rw[m]at e;exact U1 1 [2] U<|Vg U2<|⟨by rw[e];rfl,U⟩
 have h0:0<=Lib.indexByte s 47:=by
  have:¬ Lib.indexByte s 47<0:=by simpa using l
  omega
 obtain⟨b,m⟩:∃ b,d=some b:=by
  obtain⟨E,post,h1,_⟩:=vD h0;rw[i]at h1;exact⟨post,(UD h1).2⟩
 subst m;obtain⟨w,x⟩:=xj hr.2;have t:b=txt (gc b):=w;have n:(gc b).natAbs<BP ^ 200:=x;obtain⟨j,y⟩:∃ z,gc c=z:=⟨_,rfl⟩;obtain⟨g,A⟩:∃ z,gc b=z:=⟨_,rfl⟩;unfold lW at e;simp only[y,A]at e q r t n;rw[show ae c=ae (txt j) from congrArg ae q,show ae ((some b).getD [49])=ae (txt g) from congrArg ae t];refine Va 1 U fun R f=>Vm (by have h:=se _ o.m_ g 1 n P3;rw[<- one_val]at h;exact h) U7 fl_<|Ve 4 U<|Vz U8<|Ve 3 U<|VK (fun _=>(tm _ o.m_ j g r n)) U9<|Vc U6<|Vz U8<|C6 1 [2] f U<|Vg U2<|⟨?_,U⟩;have B:decide (0<if g-1<0 then (-1:Int) else if g-1=0 then 0 else 1)=decide (1<g):=by
  rw[Sf];split
  ·omega
  split <;> omega
 have D:(j == 0)=decide (j=0):=by by_cases h:j=0 <;> simp[h]
 rw[e,B,kG,ru,D];rfl
theorem GP (C:Mem)(s:Str)(d:∀ c∈s,dT c=true)(e:s≠[])(f:s.length<=18):Gives cx.P 251 [ae s,i_ 10,i_ 64] C (.tuple #[.int .u64 (bP s),.nilIface]):=by
 refine Vi func251 26 U3 fun w0=>U1 2 [0,1,2] U<|Va 3 U fun R a=>Vm (GO Tryz.parseU s d e f _ kr_) U7 fl_<|C6 5 [0,1,2,8,9] a U<|Va 1 U fun R a=>WY false U U U U U (.inr ⟨U,U⟩) kr_ U U<|Vf [0,1,2,8,9,18] a U<|G.cd (fun b=>?_) fun b=>?_
 ·cases b
 refine U1 3 [6,7] U<|Vo (G.dropAll (VA U3 ?_));exact⟨U,U⟩
theorem D2 (C:Mem)(i:Nat)(h:i<100):Gives cx.P 313 [i_ i] C (ae (bk i)):=by
 have h1:=Gives.ofCalls (f:=313) (args:=[i_ i]) (P:=cx.P) kr_ (fun w=>Any.internal_strconv_small Tryz.small10 i h w) C;rw[dR]at h1;exact h1
theorem CN (u:Nat):Lib.nDigits u=(bk u).length:=by rw[<- dR,Lib.decDigits_length]
theorem EI (C:Mem)(l:Tabs C)(u:Nat)(s:u<9223372036854775808):Gives cx.P 298 [.int .u64 u,i_ 10] C (ae (bk u)):=by
 refine Vi func298 32 U3 fun w0=>U1 1 [0,1] U<|U1 2 [0,1,10] U<|G.cd (fun g=>?_) fun g=>?_
 ·refine U1 2 [0,12] U<|G.cd (fun e=>?_) fun e=>?_
  ·have h:u<100:=by
    have:(u:Int)<100:=by simpa using e
    omega
   exact Va 1 U fun R a=>VO (c:=(u:Int)) U8 f_ fl_<|Vl (D2 _ u h) U7<|C6 1 [4] a U<|Vg U2<|⟨U,U⟩
  have h:100<=u:=by
   have:¬ (u:Int)<100:=by simpa using e
   omega
  have t:Lib.nDigits u<=19:=by
   rw[CN];exact dQ om_ om_
  refine Vd fun R a=>Vt U5 fun i=>Vf [0,5] a U<|Va 1 U fun R a=>Vm (xQ Tryz.nDig u om_ om_ _ l.pow.m_ kr_) U7 fl_<|C6 1 [0,5,6] a U<|VB [(3,3)] U fun R a=>Vc U6<|Wr 0 (Lib.nDigits u) 24 U12 (fun _=>⟨.inl ⟨U,U⟩,.inr ⟨_,U⟩,.inl ⟨U,U⟩,by omega,by omega,by decide⟩) U2<|Vc U6<|D.call (Am Tryz.fmt10 i 24 u 393 (List.replicate 24 (Value.int .u8 0)) om_ (fun j d=>(by rw[SU,aM om_])) om_ _ kr_) U (.inr dc_) U6 (Rw _) fl_ fun w _ z _ m=>Vf [5,6] a U ?_;obtain⟨_,rfl,cs,rfl,A,n⟩:=m;refine G.freeze 0 U (fun o _ p=>?_);have q:(bk u).length=Lib.nDigits u:=(CN u).symm;have k:Sl o 1 (s_ i ((bk u).map fun b=>[Value.int .u8 b.toNat]).length 24) ((bk u).map fun b=>[Value.int .u8 b.toNat]) :=
   Sl.ofBlock p (by intro r hr;obtain⟨y,_,rfl⟩:=Rs.1 hr;rfl) (fun j v d=>by
    rw[gw,Rr]at d;cases f:(bk u)[j]? with
   |none=>rw[f]at d;cases d
   |some x=>rw[f]at d;cases d;simpa using n j x f) ap (by simp[maxLen])
  rw[au,q]at k;exact Va 1 U fun R a=>Wr 0 (Lib.nDigits u) 24 U12 (fun _=>⟨.inl ⟨U,U⟩,.inr ⟨_,U⟩,.inl ⟨U,U⟩,by omega,by omega,by decide⟩) U2<|Wt k.m_ U11 fl_<|C6 1 [4] a U<|Vg U2<|⟨U,U⟩
 exact absurd g dc_
theorem EJ (C:Mem)(a:Tabs C)(u:Nat)(b:u<9223372036854775808):Gives cx.P 255 [.int .u64 u,i_ 10] C (ae (bk u)):=by
 exact Vi func255 8 U3 fun w0=>U1 1 [0,1] U<|Va 2 U fun R c=>Vl (EI _ a.m_ u b) U7<|C6 1 [4] c U<|Vg U2<|⟨U,U⟩
theorem jV (C:Mem)(z:Int)(m:Nat)(d:m<=18):Gives cx.P 188 [ae (txt z),i_ m] C (.tuple #[i_ (if (txt z).length<=m then z else 0),.bool (decide ((txt z).length<=m))]):=by
 refine Vi func188 20 U3 fun w0=>U1 2 [0,1] U<|U1 4 [0,11] U<|G.cd (fun b=>?_) fun b=>?_
 ·have a:¬ (txt z).length<=m:=by
   have:(m:Int)<((txt z).length:Int):=by simpa using b
   omega
  refine U1 2 [4,5] U<|Vo (G.dropAll (VA U3 ?_));exact⟨by rw[aF a,RU a],U⟩
 have a:(txt z).length<=m:=by
  have:¬ (m:Int)<((txt z).length:Int):=by simpa using b
  omega
 refine Va 1 U fun R c=>Vm (Bb Tryz.atoi z om_ _ kr_) U7 fl_<|C6 5 [6,7] c U<|Vv [0,1,2,3,4] [] U kr_ fun R e c=>Ve 2 U<|WY true U U U U U (.inl ⟨U,U⟩) kr_ U U<|C6 2 [4,5] c U<|Vo (G.dropAll (VA U3 ?_));exact⟨by rw[aM a,RJ a],U⟩
theorem jm (C:Mem)(z:Int)(v:(bk z.natAbs).length<=1000000):Pur cx.P 189 [ae (txt z)] C fun u D=>∃ p,u=.agg ⟨[.bool (decide (z<0)),p]⟩/\NineC D p z.natAbs:=by
 obtain⟨S,i⟩:∃ S,bk z.natAbs=S:=⟨_,rfl⟩;have b:=(bl z.natAbs).1;have k:=(bl z.natAbs).2;rw[i]at v b k;refine Vi func189 44 U3 fun w0=>Vd fun R a=>Vt U5 fun d=>Vf [0,2] a U<|Va 1 U fun R a=>Vl (Ir _ (txt z) 45) U7 ?_;rw[dK,i];refine C6 5 [2,3,4] a U<|Va 2 U fun R a=>V7 (S.length) (9) U6 om_ (.inl ⟨U,by omega⟩) U2<|VI (((S.length / 9+1:Nat):Int)) U4 om_ om_ om_ U2<|V5 U9 (Rv _) (by show 8*(S.length / 9+1)<=281474976710656;omega) y_ fl_ fun M=>C6 1 [2,3,4,5] a U ?_;rw[show(ae S:Value)=ae (S.take S.length) by rw[Rz]];refine G.loop (fun fr N l y=>∃ (q j:Nat)(out:List Nat)(w:Value),(q<=S.length/\(q=0∨q+9*j=S.length)/\out.length=j/\j<=S.length/\(q=0∨j<S.length)/\Dig9 out/\bC out=bP (S.drop q))/\fr=[(2,[],p_ d),(3,[],ae (S.take q)),(4,[],.bool (decide (z<0))),(5,[],w)]/\l=[.arr w 285 1 j (out.map cP).flatten,.obj d (.cells ⟨[.bool false,.slice none 0 0]⟩ 273 (0,0))]/\y=q+1) (hn_ [2,3,4,5] U) ⟨S.length,0,[],_,⟨Ro _,by omega,U,Rv _,by have:=Sc.2 b.2.1;omega,(fun x A=>(by cases A)),by rw[SA];rfl⟩,U,U,U⟩ (fun fr O Q m _ B=>?_);obtain⟨q,j,out,w,⟨T,V,e,W,X,o,f⟩,rfl,rfl,rfl⟩:=B;refine U1 3 [2,3,4,5,21] U<|G.cd (fun g=>?_) fun g=>?_
 ·have E:(⟨(S.take q).toArray⟩:ByteArray).data.toList.length=q:=by
   show(S.take q).length=q;rw[RE];omega
  have F:(S.take q).length=q:=E;have r:0<q:=by
   have h:(0:Int)<(((⟨(S.take q).toArray⟩:ByteArray).data.toList.length:Nat):Int):=by simpa using g
   omega
  have H:(gS S (q-9) q).length<=9/\0<(gS S (q-9) q).length:=by
   unfold gS;rw[Th,RE];omega
  have I:∀ c∈gS S (q-9) q,dT c=true:=fun c J=>b.1 c (SD (TN J));refine Va 2 U fun R a=>VI (((q:Int)-9)) U4 om_ om_ om_ U2<|D.max (((q-9:Nat):Int)) U6 om_ U2<|C6 1 [2,3,4,5,6] a U<|Va 2 U fun R a=>V0 (q-9) (S.take q).length U9 (fun _=>⟨.inr ⟨_,U⟩,.inl ⟨U,U⟩,.inl ⟨U,U⟩,by omega,Ro _,Ro _⟩) U2 ?_;rw[show(((S.take q).take (S.take q).length).drop (q-9))=gS S (q-9) q from by rw[Rz];rfl];refine Vm (GP _ (gS S (q-9) q) I (Sc.1 H.2) om_) U7 fl_<|C6 5 [2,3,4,5,6,7] a U<|Vv [0,1,4,5,6,2,3,7,8] [] U kr_ fun R Y a=>Ve 4 U<|V0 0 (q-9) U9 (fun _=>⟨.inl ⟨U,U⟩,.inr ⟨_,U⟩,.inl ⟨U,U⟩,by omega,by omega,Ro _⟩) U2<|Vy [cP (bP (gS S (q-9) q))] U12 fun Z _ _ K=>D.append (j:=0) U11 K U ax (by show(j+1)*8<=_;omega) fl_ fun s=>C6 2 [2,3,4,5] a U ?_;rw[show((S.take q).take (q-9)).drop 0=S.take (q-9) from by rw[SE,Uk,Sp om_]];refine Vr (L':=[.arr s 285 1 (j+1) ((out++[bP (gS S (q-9) q)]).map cP).flatten,.obj d (.cells ⟨[.bool false,.slice none 0 0]⟩ 273 (0,0))]) (by simp[cP])<|Vn (m':=q-9+1) om_ mup (hn_ [2,3,4,5] U) ⟨q-9,j+1,out++[bP (gS S (q-9) q)],s,⟨by omega,by omega,by simp[e],by omega,by omega,o.snoc (Lf b.1 om_),DQ om_ e om_ f⟩,U,U,U⟩
 have r:q=0:=by
  have F:(S.take q).length=q:=by rw[RE];omega
  have h:¬ (0:Int)<(((S.take q).length:Nat):Int):=by simpa using g
  omega
 subst r;rw[SE,k]at f;refine VB [(2,3)] U fun R a=>Ve 2 U<|D.call (gF _ _ out (n:=j) e) U (.inr dc_) U6 (Rw _) fl_ (fun aa _ ab _ L=>?_);obtain⟨rfl,t⟩:=L;obtain⟨Au,cu,rfl,_⟩:=id t;refine Vu [.bool (decide (z<0)),_] U8<|Vk (j:=0) U12<|Vf [2] a U<|Vo (VU ag U4 ?_);exact⟨U,_,U,Fm out,iH o,by rw[iG,f],t⟩
theorem ER (k:Nat)(s:Str):bP (List.replicate k 48++s)=bP s:=by
 induction k with
|zero=>rfl
|succ k a=>rw[SB,Tg,dL,a];simp
theorem NU (h:x<1000000000):nh 9 x=List.replicate (9-(bk x).length) 48++bk x:=by
 obtain⟨h1,h2,h3⟩:=kZ 9 x h;obtain⟨h4,h5⟩:=bl x;have b:(bk x).length<=9:=dQ om_ om_;refine AI h2 (fun c a=>?_) (by rw[h1];simp;omega) (by rw[h3,ER,h5]);rcases RF.1 a with a|a
 ·rw[To a];rfl
 exact h4.1 c a
def LH (l:List Nat)(j:Nat)(s:Str):Prop:=(j=0/\s=[])∨(0<j/\wh s/\bP s=bC (l.drop (l.length-j))/\0<bP s)
theorem EA (b:zg l)(d:j<l.length)(h:LH l j s):LH l (j+1) (s++if j=0 then bk (g9 l (l.length-1-j)) else nh 9 (g9 l (l.length-1-j))):=by
 have a:l[l.length-1-j]?=some (g9 l (l.length-1-j)):=ym om_;refine .inr ⟨by omega, ?_⟩;rw[show l.length-(j+1)=l.length-1-j by omega];rcases h with⟨rfl,rfl⟩|⟨h0,h1,h2,h3⟩
 ·rw[aM rfl,Tq];obtain⟨h4,h5⟩:=bl (g9 l (l.length-1-0));have c:bC (l.drop (l.length-1-0))=g9 l (l.length-1-0):=by
   rw[RP om_,show l.length-1-0+1=l.length by omega,SA];rw[ai om_]at a;rw[Sx a];show _+B9*0=_;omega
  refine⟨h4,by rw[h5,c], ?_⟩;rw[h5];rcases Sz (g9 l (l.length-1-0)) with h|h
  ·rw[h]at a;exact absurd (by rw[TJ];exact a) b.2
  exact h
 rw[aF om_];rw[show l.length-j=l.length-1-j+1 by omega]at h2;exact EH b.1 a h1 h2 h3
theorem ko (C:Mem)(W:Tabs C)(m:Bool)(v:Value)(n:Nat)(X:NineC C v n)(Y:n<B9 ^ 100000):Gives cx.P 191 [.agg ⟨[.bool m,v]⟩] C (ae (txt (sgZ m n))):=by
 obtain⟨ls,J,K,al,hs⟩:=X.get Y;obtain⟨A,c,rfl,_⟩:=id hs;simp only[au]at hs⊢;refine Wv kr_ func191 U 34 U U fun w0=>Vd fun R a=>Vs U6 fun L=>C6 1 [1] a U<|G.freeze 0 U fun _ _ o=>Va 1 U fun R a=>Vb (PtrTo.block (Mem.get o mup) _) U8<|C6 2 [1,10] a U<|G.cd (fun y=>?_) fun y=>?_
 ·have M:ls=[]:=by
   have:(ls.length:Int)=0:=by simpa using y
   exact Sd om_
  refine U1 1 [2] U<|Vo (Wz (Mf U U) ?_ K5);subst M;refine⟨?_,U⟩;rw[<- K,(BG (sgZ m (bC []))).2 (by cases m <;> rfl)];rfl
 have M:0<ls.length:=by
  have:¬ (ls.length:Int)=0:=by simpa using y
  omega
 obtain⟨d,g⟩:∃ d:Str,(if m then [45] else [])=d:=⟨_,rfl⟩;have am:d.length<=1:=by rw[<- g];split <;> simp
 refine Vd fun R a=>Vt U5 fun b=>Vf [1,3] a U<|G.nilArr 5 1<|G.perm (L':=[.obj b (.cells ⟨[.pointer none,.slice none 0 0]⟩ 344 (0,0)),.arr (.slice none 0 0) 5 1 0 []]) (List.Perm.swap _ _ _)<|Va 1 U fun R a=>Vb (PtrTo.block (Mem.get o mup) _) U8<|Vf [1,3,12] a U<|G.cut (fun fr Z e z=>∃ (q:Option Addr)(w:Value),(q=none∨q=some ⟨b,0,none⟩)/\fr=[(1,[],p_ L),(3,[],p_ b)]/\e=[.obj b (.cells ⟨[.pointer q,w]⟩ 344 (0,0)),.arr w 5 1 d.length (u8s d)]) ?_ (fun fr _ an z _ f=>?_)
 ·refine G.cd (fun B=>?_) fun B=>?_
  ·rw[aM B]at g;subst g;refine VB [(0,3)] U fun R a=>D.call (wi _ b none (.slice none 0 0) [] 45 (.inl U) ak) U (.inr dc_) U6 (Rw _) fl_ fun ao _ aq _ aa=>Vf [1,3] a U ?_;obtain⟨w1,rfl⟩:=aa;refine Vp 0 mup (hn_ [1,3] U) ⟨some ⟨b,0,none⟩,w1,.inr U,U,U⟩
  rw[aF (by rw[B];decide)]at g;subst g;refine Vp 0 mup (hn_ [1,3] U) ⟨none,.slice none 0 0,.inl U,U,U⟩
 obtain⟨q ,w,hq,rfl,rfl⟩:=f;refine Va 1 U fun R a=>Vb (PtrTo.block (Mem.get o mup) _) U8<|VJ (Dw _ A ls.length c) U7 fun ar _ _ ab=>Vf [1,3,16] a U ?_;obtain⟨bb,rfl,ac⟩:=ab;refine Vr (L':=[.obj b (.cells ⟨[.pointer q,w]⟩ 344 (0,0)),.arr w 5 1 (d++[]).length (u8s (d++[]))]) (by rw[RQ])<|G.rangeFunc U U U kr_ (tQ _ bb _ _ ls ac hs.m_ om_) (fun j e=>∃ (q:Option Addr)(w:Value)(s:Str),((q=none∨q=some ⟨b,0,none⟩)/\LH ls j s/\s.length<=9*j)/\e=[.obj b (.cells ⟨[.pointer q,w]⟩ 344 (0,0)),.arr w 5 1 (d++s).length (u8s (d++s))]) ⟨q,w,[],⟨hq,.inl ⟨U,U⟩,by simp⟩,U⟩ U (fun _ _=>rfl) (fun u v=>[(1,[],p_ L),(3,[],p_ b),(4,[],u),(5,[],v)]) (fun l u v W1 e=>?_) (fun l j u v e W1 f E=>?_) (fun bD e f=>?_)
 ·exact U1 1 [1,3,4,18] U<|U1 1 [1,3,4,5] U<|Xd ⟨U,U,U,U,trivial⟩
 ·obtain⟨q,w,s,⟨F,p,N⟩,rfl⟩:=f;have O:j<ls.length:=by have:=(aJ.1 E).1;rwa [fY]at this
  rw[vQ O]at E;cases E
  have Q:=EA J O p;obtain⟨x,H⟩:∃ x,g9 ls (ls.length-1-j)=x:=⟨_,rfl⟩;have i:x<B9:=by rw[<- H];exact lj J.1 _
  rw[show ls.getD (ls.length-1-j) 0=x from H];rw[H]at Q;have av:(bk x).length<=9:=dQ (by rw[B9v]at i;omega) om_;have ad:=NU (x:=x) (by rw[B9v]at i;exact i);have aw:(nh 9 x).length=9:=(kZ 9 x (by rw[B9v]at i;omega)).1;refine Va 1 U fun R a=>Vm (EJ _ W.m_ x (by rw[B9v]at i;omega)) U7 fl_<|C6 1 [1,3,4,6] a U<|Va 2 U fun R a=>Vb (PtrTo.block (Mem.get o mup) _) U8<|Vc U6<|Vh _ U U6<|C6 1 [3,6,26] a U<|G.cut (fun fr Z e z=>∃ (k:Option Addr)(r:Value)(t:Str),((k=none∨k=some ⟨b,0,none⟩)/\t++bk x=d++(s++if j=0 then bk x else nh 9 x)/\t.length<=9*j+10)/\fr=[(3,[],p_ b),(6,[],ae (bk x))]/\e=[.obj b (.cells ⟨[.pointer k,r]⟩ 344 (0,0)),.arr r 5 1 t.length (u8s t)]) ?_ (fun fr _ ax z _ f=>?_)
  ·refine G.cd (fun I=>?_) fun I=>?_
   ·have S:0<j:=by
     have:((ls.length-1-j:Nat):Int)<(ls.length:Int)-1:=by simpa using I
     omega
    refine VB [(3,3)] U fun R a=>Ve 2 U<|V0 (bk x).length 9 U9 (fun _=>⟨.inr ⟨_,U⟩,.inl ⟨U,U⟩,.inl ⟨U,U⟩,by omega,Ro _,Ro _⟩) U2 ?_;rw[show((([48,48,48,48,48,48,48,48,48]:Str).take 9).drop (bk x).length)=List.replicate (9-(bk x).length) 48 from by rw[show(([48,48,48,48,48,48,48,48,48]:Str).take 9)=List.replicate 9 48 from rfl,List.drop_replicate]];refine D.call (kF _ b q w (d++s) (List.replicate (9-(bk x).length) 48) F ap) U (.inr dc_) U6 (Rw _) fl_ fun ay _ az _ af=>Vf [3,6] a U ?_;obtain⟨w1,rfl⟩:=af;refine Vp 0 mup (hn_ [3,6] U) ⟨some ⟨b,0,none⟩,w1,_,⟨.inr U,by rw[aF om_,ad];simp[],by simp;omega⟩,U,U⟩
   have S:j=0:=by
    have:¬ ((ls.length-1-j:Nat):Int)<(ls.length:Int)-1:=by simpa using I
    omega
   refine Vp 0 mup (hn_ [3,6] U) ⟨q,w,d++s,⟨F,by rw[aM S,R0],by simp;omega⟩,U,U⟩
  obtain⟨k ,r ,t,⟨ag,ah,aA⟩,rfl,rfl⟩:=f;refine VB [(1,3)] U fun R a=>Vc U6<|D.call (kF _ b k r t (bk x) ag om_) U (.inr dc_) U6 (Rw _) fl_ fun aB _ aC _ ai=>V9 [] trivial (a _ _ _ U ?_);obtain⟨w4,rfl⟩:=ai;rw[ah];exact WK (R:=fun e=>∃ (q:Option Addr)(w:Value)(s:Str),((q=none∨q=some ⟨b,0,none⟩)/\LH ls (j+1) s/\s.length<=9*(j+1))/\e=[.obj b (.cells ⟨[.pointer q,w]⟩ 344 (0,0)),.arr w 5 1 (d++s).length (u8s (d++s))]) (Rw _) ⟨some ⟨b,0,none⟩,w4,_,⟨.inr U,Q,by rw[Ru];split <;> omega⟩,U⟩
 obtain⟨q,w,s,⟨F,p,N⟩,rfl⟩:=f;rw[fY]at p;obtain⟨aD,T,V,aE⟩:0<ls.length/\wh s/\bP s=bC (ls.drop (ls.length-ls.length))/\0<bP s:=p.elim (fun h=>by omega) id;rw[TO,SE,K]at V;refine G.perm (L':=[.obj b (.cells ⟨[.pointer q,w]⟩ 344 (0,0)),.arr w 5 1 (d++s).length (u8s (d++s)),.obj bD (.deferred (some []))]) (pkL [1,1,0] U)<|VB [(0,3)] U fun R a=>D.call (EY _ b q w (d++s) (fun h=>T.2.1 (UA.1 h).2) (by simp;rw[fY]at N;omega)) U (.inr dc_) U6 (Rw _) fl_ fun aG _ aH _ aj=>C6 1 [2] a U ?_;obtain⟨rfl,rfl⟩:=aj;refine Vo (Xb (Mf U U) ?_);refine⟨?_,U⟩;have es:s=bk n:=by rw[<- V];exact pf T
 rw[BH m n (fun _=>by omega),es,<- g];cases m <;> rfl
theorem tF (a:0<Q):(x+B9*t) / Q=B9*(t / Q)+(x+B9*(t % Q)) / Q/\(x+B9*t) % Q=(x+B9*(t % Q)) % Q:=by
 have h:x+B9*t=(x+B9*(t % Q))+Q*(B9*(t / Q)):=by
  have h1:=Us t Q;have h2:B9*t=B9*(t % Q)+B9*(Q*(t / Q)):=by rw[<- Sw,h1]
  rw[h2,UW];omega
 rw[h,Un _ _ a,Nat.add_mul_mod_self_left];exact⟨by omega,U⟩
theorem mM (a:0<Q)(b:x<B9):(x+B9*(t % Q)) / Q<B9:=by
 rw[Tn a];have h1:=R9 t a;have h2:B9*(t % Q+1)<=B9*Q:=SN _ h1;rw[Sw]at h2;omega
theorem fF (h:j<l.length):bC (l.drop j)=g9 l j+B9*bC (l.drop (j+1)):=by
 rw[RP h,bC,Ak (ai h)]
theorem lP (h:j<l.length):bC ((l.set j x).drop j)=x+B9*bC (l.drop (j+1)):=by
 rw[RP (by simpa using h),bC,List.getElem_set_self,List.drop_set_of_lt om_]
theorem tE (C:Mem)(va M:Value)(m d:Nat)(ha:NineC C va m)(hm:m<B9 ^ 200000)(F:Sl C 1 M ([d].map cP))(H:0<d)(hd:d<B9) :
  Pur cx.P 227 [va,M] C fun u D=>∃ q r,u=.tuple #[q,r]/\NineC D q (m / d)/\NineC D r (m % d):=by
 have aa:NineC C M d:=⟨[d],⟨fun x o=>(by rw[RK.1 o];exact hd),by simp;omega⟩,by show d+B9*0=d;omega,F⟩;have N:=ha;obtain⟨a,am,ab,aD,O⟩:=ha.get hm;obtain⟨A0,c0,rfl,_⟩:=id O;obtain⟨B0,d0,rfl,aF⟩:=id F;simp only[au,Rp]at F aa O N⊢;have p:=B9v;refine Wv kr_ func227 U 146 U U fun w0=>Vd fun R b=>Vs U6 fun b3=>Vt U5 fun g=>C6 1 [0,3,4,5] b U<|G.freeze 1 U fun _ _ K=>Va 1 U fun R b=>Vb (PtrTo.block (Mem.get K mup) _) U8<|Vl (qD _ N.m_ aa.m_) U7<|C6 1 [0,3,4,5,17] b U<|G.cd (fun Q=>?_) fun Q=>?_
 ·have S:m<d:=by
   have:jW m d<0:=by simpa using Q
   exact jl.1 this
  refine Va 1 U fun R b=>Vk (j:=0) U12<|C6 1 [4,5] b U<|Vo (Wz (Cd ag U U U U U) ?_ K5);refine⟨U,_,_,U, ?_, ?_⟩
  ·rw[TZ S];exact NineC.zero _
  rw[Um S];exact N.mono mup
 have S:d<=m:=by
  have h:¬ jW m d<0:=by simpa using Q
  rw[jl]at h;omega
 obtain⟨n,hn⟩:∃ n,a.length=n:=⟨_,rfl⟩;refine Vd fun R b=>Vb (PtrTo.block (Mem.get K mup) _) U8<|C6 2 [0,3,4,5,21] b U<|G.cd (fun ad=>?_) fun ad=>?_
 ·refine Va 2 U fun R b=>V5 U9 (Ro _) (by show 8*a.length<=281474976710656;omega) y_ fl_ fun f=>Vk (j:=1) U12<|Vf [0,3,4] b U<|Vd fun R b=>Vt U5 fun k=>Vk (j:=0) U12<|Vf [0,3,4,6] b U<|Va 1 U fun R b=>VJ (Dw _ A0 a.length c0) U7 fun aG _ _ an=>Vf [3,4,6,26] b U ?_;obtain⟨bb,rfl,ao⟩:=an;refine Vr (L':=[.obj k (.cells ⟨[.int .u64 ((bC (a.drop (a.length-0)) % d:Nat):Int)]⟩ 285 (0,0)),.obj g (.cells ⟨[qU f a.length a.length]⟩ 271 (0,0)),.arr (qU f a.length a.length) 285 1 a.length ((List.replicate a.length 0).map cP).flatten]) (by rw[<- Fp,Uj,SA,show bC []=0 from U,Nat.zero_mod];rfl)<|G.rangeFunc U U U kr_ (tQ _ bb _ _ a ao O.m_ om_) (fun j e=>∃ (c:List Nat),(c.length=a.length/\Dig9 c/\bC (c.drop (a.length-j))=bC (a.drop (a.length-j)) / d)/\e=[.obj k (.cells ⟨[.int .u64 ((bC (a.drop (a.length-j)) % d:Nat):Int)]⟩ 285 (0,0)),.obj g (.cells ⟨[qU f a.length a.length]⟩ 271 (0,0)),.arr (qU f a.length a.length) 285 1 a.length (c.map cP).flatten]) ⟨List.replicate a.length 0,⟨RX,(fun x o=>by rw[To o];decide),by rw[Uj,SA,Uh ak];simp[bC]⟩,U⟩ U (fun _ _=>rfl) (fun u v=>[(3,[],p_ b3),(4,[],p_ g),(6,[],p_ k),(7,[],u),(8,[],v)]) (fun l u v W1 e=>?_) (fun l j u v e W1 s V=>?_) (fun bD e s=>?_)
  ·exact U1 1 [3,4,6,7,28] U<|U1 1 [3,4,6,7,8] U<|Xd ⟨U,U,U,U,U,trivial⟩
  ·obtain⟨c,⟨I,L,B⟩,rfl⟩:=s;have ap:j<a.length:=by have:=(aJ.1 V).1;rwa [fY]at this
   rw[vQ ap]at V;cases V
   obtain⟨i,hi⟩:∃ i,a.length-1-j=i:=⟨_,rfl⟩;have ae:a.length-j=i+1:=by omega
   obtain⟨T,hT⟩:∃ T,bC (a.drop (i+1))=T:=⟨_,rfl⟩;have aq:=lj am.1 i;have aH:=R9 T H;have hX:T % d*B9+g9 a i<18446744073709551616:=by
    have:=Sa B9 (show T % d<=999999999 by omega);rw[p]at this⊢;omega
   rw[hi,ae,hT,show a.getD i 0=g9 a i from rfl];rw[ae,hT]at B;have ar:T % d*B9+g9 a i=g9 a i+B9*(T % d):=by rw[R8,TB]
   have W:=tF (t:=T) (x:=g9 a i) H;have ah:=mM (t:=T) H aq;rw[<- ar]at W ah;refine Vd fun R b=>Vj ag U9<|D.int (((T % d*B9:Nat):Int)) U4 (by rw[show(1000000000:Int)=((B9:Nat):Int) from U,<- RW,IntKind.wrap_u64];omega) U2<|Vc U6<|D.int (((T % d*B9+g9 a i:Nat):Int)) U4 g_ U2<|Vk (j:=0) U12<|Vf [3,4,6,7] b U<|G.cut (fun fr X e Y=>(True)/\fr=[]/\e=[.obj k (.cells ⟨[.int .u64 (((T % d*B9+g9 a i) % d:Nat):Int)]⟩ 285 (0,0)),.arr (qU f a.length a.length) 285 1 a.length (aE (c.map cP).flatten [Value.int .u64 (((T % d*B9+g9 a i) / d:Nat):Int)] (i*1)),.obj g (.cells ⟨[qU f a.length a.length]⟩ 271 (0,0))]) ?_ (fun fr aI aK Y aL s=>?_)
   ·refine VY (.cut [0,1,2,3,4,5,6,8,9,10,12] (.alt 7 (.fin [11,13,14]) (.alt 13 (.fin [7,11,14]) .stop))) [] U U kr_ fun R p b w=>Vj af U9<|Vc U6<|Vj ag U9<|Vb (PtrTo.block (Mem.get K mup) _) U8<|Vq F.m_ U10 om_ (rfl:([d].map cP)[(0:Int).toNat]?=some (cP d)) fl_ fun aM av=>Vb av U8<|V7 (T % d*B9+g9 a i) (d) U6 om_ (.inr ⟨U,by omega⟩) U2<|Vb (PtrTo.block (Mem.get K mup) _) U8<|Vq F.m_ U10 om_ (rfl:([d].map cP)[(0:Int).toNat]?=some (cP d)) fl_ fun aN aw=>Vb aw U8<|VD (i*1) U10 w_ U2<|VL w U ⟨?_, ?_,trivial⟩
    ·first|refine V4 ag U9 ?_|refine V4 af U9 ?_
     refine VW (T % d*B9+g9 a i) (d) U6 om_ U2<|VG (j:=2) U11 (by show i*1+1<=_;rw[bV eL,I];omega)<|Vk (j:=1) U12<|V9 [] trivial (b _ _ _ U ?_);clear b p w R;exact Vp 0 l_ (fr':=[]) trivial ⟨trivial,U,U⟩
    refine VG (j:=2) U11 (by show i*1+1<=_;rw[bV eL,I];omega) ?_
    first|refine V4 ag U9 ?_|refine V4 af U9 ?_
    refine VW (T % d*B9+g9 a i) (d) U6 om_ U2<|Vk (j:=1) U12<|V9 [] trivial (b _ _ _ U ?_);clear b p w R;exact Vp 0 l_ (fr':=[]) trivial ⟨trivial,U,U⟩
   obtain⟨_,rfl,rfl⟩:=s;refine G.perm (L':=[.obj k (.cells ⟨[.int .u64 (((T % d*B9+g9 a i) % d:Nat):Int)]⟩ 285 (0,0)),.obj g (.cells ⟨[qU f a.length a.length]⟩ 271 (0,0)),.arr (qU f a.length a.length) 285 1 a.length (aE (c.map cP).flatten [Value.int .u64 (((T % d*B9+g9 a i) / d:Nat):Int)] (i*1))]) (pkL [0,1,0] U) ?_;have ai:bC (a.drop i)=g9 a i+B9*T:=by rw[fF om_,hT]
   have ax:bC (a.drop (a.length-(j+1))) % d=(T % d*B9+g9 a i) % d:=by rw[show a.length-(j+1)=i by omega,ai,W.2]
   exact Vr (L':=[.obj k (.cells ⟨[.int .u64 ((bC (a.drop (a.length-(j+1))) % d:Nat):Int)]⟩ 285 (0,0)),.obj g (.cells ⟨[qU f a.length a.length]⟩ 271 (0,0)),.arr (qU f a.length a.length) 285 1 a.length ((c.set i ((T % d*B9+g9 a i) / d)).map cP).flatten]) (by rw[ax,<- bM eL _ (by omega:i<c.length)];rfl)<|WK (R:=fun e=>∃ (c:List Nat),(c.length=a.length/\Dig9 c/\bC (c.drop (a.length-(j+1)))=bC (a.drop (a.length-(j+1))) / d)/\e=[.obj k (.cells ⟨[.int .u64 ((bC (a.drop (a.length-(j+1))) % d:Nat):Int)]⟩ 285 (0,0)),.obj g (.cells ⟨[qU f a.length a.length]⟩ 271 (0,0)),.arr (qU f a.length a.length) 285 1 a.length (c.map cP).flatten]) (Rw _) ⟨c.set i ((T % d*B9+g9 a i) / d),⟨by simp[I],L.set ah,by rw[show a.length-(j+1)=i by omega,ai,lP om_,B,W.1];omega⟩,U⟩
  obtain⟨c,⟨I,L,B⟩,rfl⟩:=s;rw[fY,TO,SE,SE,ab]at B;rw[fY,TO,SE,ab];refine G.freezeArr 3 (c.map cP) rfl rfl (by intro r hr;obtain⟨y,_,rfl⟩:=Rs.1 hr;rfl) (by rw[au,I]) fun Cq aO aj=>G.cut (fun fr X e Y=>∃ (E z:Value),(NineC X E (m / d)/\NineC X z (m % d))/\fr=[(4,[],p_ g),(5,[],z)]/\e=[.obj g (.cells ⟨[E]⟩ 271 (0,0)),.obj bD (.deferred (some [])),.obj k (.cells ⟨[.int .u64 ((m % d:Nat):Int)]⟩ 285 (0,0))]) ?_ (fun fr aP aQ Y aR s=>?_)
  ·refine VY (.cut [0,2] (.alt 1 (.fin [3,4,5,6]) (.alt 3 (.fin [1,4,5,6]) .stop))) [] U U kr_ fun R p b w=>Vj ac U9<|Vj af U9<|VL w U ⟨?_, ?_,trivial⟩
   ·refine VJ (wz _ L aj.m_) U7 fun E ay _ A=>Vy [cP (m % d)] U12 fun az aA _ Z=>VC (wz _ (l:=[m % d]) (fun x o=>by rw[RK.1 o];have:=R9 m H;omega) Z.m_) U7 fl_ (fun z aB _ J=>?_);obtain⟨A7,m7,c7,rfl⟩:=A.form;refine Vk (j:=2) U12<|Vc U6<|Vf [4,5] b U ?_;clear b p w R;rw[show bC [m % d]=m % d from(by show m % d+B9*0=m % d;omega)]at J;rw[B]at A;exact Vp 0 mup (hn_ [4,5] U) ⟨_,z,⟨A.mono mup,J.mono mup⟩,U,U⟩
   refine Vy [cP (m % d)] U12 fun az aA _ Z=>VJ (wz _ L aj.m_) U7 fun E ay _ A=>VC (wz _ (l:=[m % d]) (fun x o=>by rw[RK.1 o];have:=R9 m H;omega) Z.m_) U7 fl_ (fun z aB _ J=>?_);obtain⟨A7,m7,c7,rfl⟩:=A.form;refine Vk (j:=2) U12<|Vc U6<|Vf [4,5] b U ?_;clear b p w R;rw[show bC [m % d]=m % d from(by show m % d+B9*0=m % d;omega)]at J;rw[B]at A;exact Vp 0 mup (hn_ [4,5] U) ⟨_,z,⟨A.mono mup,J.mono mup⟩,U,U⟩
  obtain⟨E,z,⟨al,aC⟩,rfl,rfl⟩:=s;refine G.perm (L':=[.obj bD (.deferred (some [])),.obj g (.cells ⟨[E]⟩ 271 (0,0)),.obj k (.cells ⟨[.int .u64 ((m % d:Nat):Int)]⟩ 285 (0,0))]) (pkL [1,0,0] U) ?_;obtain⟨A7,m7,c7,rfl⟩:=al.form;refine Vo (Xb (Cd ag U U U U U) ?_);exact⟨U,_,_,U,al,aC⟩
 exact absurd ad dc_
theorem wt (h:Dig9 l)(a:k<=l.length):bC l / B9 ^ k=bC (l.drop k):=by
 have e:bC l=bC (l.take k)+B9 ^ k*bC (l.drop k):=by
  conv=>lhs;rw[<- Sm k l]
  rw[fJ,RE,Sp a]
 have h1:=iX (h.take k);rw[RE,Sp a]at h1;rw[e,Un _ _ (T1 dc_),TZ h1,SP]
theorem vi {b a:List Nat}(f:zg b)(c:zg a)(j:0<a.length)(m:a.length<=b.length):bC b / bC a<=bC (b.drop (a.length-1)) / g9 a (a.length-1)/\0<g9 a (a.length-1):=by
 have d:bC (a.drop (a.length-1))=g9 a (a.length-1):=by
  rw[fF om_,show a.length-1+1=a.length by omega,SA];show _+B9*0=_;omega
 have h1:=wt c.1 (k:=a.length-1) om_;have h2:=wt f.1 (k:=a.length-1) om_;have e:0<g9 a (a.length-1):=by
  rcases Sz (g9 a (a.length-1)) with h|h
  ·have h3:=ym (l:=a) (i:=a.length-1) om_;rw[h]at h3;exact absurd (by rw[TJ];exact h3) c.2
  exact h
 refine⟨?_,e⟩;rw[<- h2,<- d,<- h1,Nat.div_div_eq_div_mul];have g:0<B9 ^ (a.length-1):=T1 dc_;rw[d]at h1;refine Nat.div_le_div_left (Nat.mul_div_le _ _) ?_;rw[h1];exact TM g e
theorem CT (h:l.length=k+1):bC (l.drop k)=g9 l k:=by
 rw[fF om_,show k+1=l.length by omega,SA];show _+B9*0=_;omega
theorem KG (h:l.length=k+2):bC (l.drop k)=g9 l (k+1)*B9+g9 l k:=by
 rw[fF om_,CT (k:=k+1) om_,R8];omega
theorem AW (c:zg a)(d:zg b)(h:bC b<=bC a):b.length<=a.length:=by
 rcases RS a.length b.length with h1|h1
 ·have:=uW c.1 d h1;omega
 exact h1
theorem yQ (c:zg a)(d:zg b)(h:bC a<B9*bC b):a.length<=b.length+1:=by
 have h2:=iX d.1;refine tP c (Sq h ?_);rw[SF,R8];exact Sa _ (U0 h2)
theorem jP {f:Nat}(a:m<B9 ^ k)(b:f<B9):m*f<B9 ^ (k+1):=by
 rw[SF];exact SQ a b
theorem Qt {a:Nat}(h:x<B9*a)(b:a<B9 ^ k):x<B9 ^ (k+1):=by
 rw[SF,R8 _ B9];exact Ty h (Nat.mul_lt_mul_of_pos_left b dc_)
theorem LF (l:List Nat):(l.map cP).all (fun r=>r.all lG)=true:=by
 rw[List.all_map,RI];intro x _;rfl
theorem EQ (C:Mem)(va vb:Value)(m n:Nat)(ha:NineC C va m)(hb:NineC C vb n)(hm:m<B9 ^ 100000)(aG:B9<=n) :
  Pur cx.P 227 [va,vb] C fun u D=>∃ q r,u=.tuple #[q,r]/\NineC D q (m / n)/\NineC D r (m % n):=by
 have aH:0<n:=Sq dc_ aG;have ad:=ha;have ae:=hb;obtain⟨B,Q,bE,ah⟩:=hb;obtain⟨A0,a0,c0,rfl⟩:=ha.form;obtain⟨B0,d0,rfl,a2,bF,_⟩:=id ah;simp only[au]at ah ae a2⊢;have bG:=mx_
 have S:=B9v;have bH:2<=B.length:=by
  rcases RS B.length 2 with h|h
  ·have h2:=iX Q.1;have h3:B9 ^ B.length<=B9 ^ 1:=RM dc_ om_;rw[Nat.pow_one]at h3;omega
  exact h
 refine Wv kr_ func227 U 146 U U (fun w0=>?_);refine Vd fun R a=>?_;refine Vs U6 (fun b3=>?_);refine Vt U5 (fun e=>?_);refine C6 1 [0,3,4,5] a U ?_;clear a R;refine Va 1 U fun R a=>?_
 skip
 refine Vj af U9 ?_;refine Vl (qD _ ad.m_ ae.m_) U7 ?_;refine C6 1 [0,3,4,5,17] a U ?_;clear a R;refine G.cd (fun ai=>?_) fun ai=>?_
 ·have V:m<n:=by
   have:jW m n<0:=by simpa using ai
   exact jl.1 this
  refine Va 1 U fun R a=>?_;refine Vk (j:=0) U12 ?_;refine C6 1 [4,5] a U ?_;clear a R;refine Vo (Wz (Cd ag U U U U U) ?_ K5);refine⟨U,_,_,U, ?_, ?_⟩
  ·rw[TZ V];exact NineC.zero _
  rw[Um V];exact ad.mono mup
 have V:n<=m:=by
  have h:¬ jW m n<0:=by simpa using ai
  rw[jl]at h;omega
 refine Vd fun R a=>?_;refine Vj af U9 ?_;refine C6 2 [0,3,4,5,21] a U ?_;clear a R;refine G.cd (fun aI=>?_) fun aI=>?_
 ·exact absurd aI ap
 have bI:=lj Q.1 (B.length-1);have a3:(B.map cP)[((B.length:Int)-1).toNat]?=some (cP (g9 B (B.length-1))):=by
  rw[show((B.length:Int)-1).toNat=B.length-1 by omega];exact jv om_
 obtain⟨f,hf⟩:∃ f,B9 / (g9 B (B.length-1)+1)=f:=⟨_,rfl⟩;refine Vd fun R a=>?_;refine Vj af U9 ?_;refine Vj af U9 ?_;refine Vc U6 ?_;refine Vh _ U U6 ?_;refine Vq ah.m_ U10 om_ a3 fl_ (fun bJ a4=>?_);refine Vb a4 U8 ?_;refine D.int (((g9 B (B.length-1)+1:Nat):Int)) U4 g_ U2 ?_;refine V7 (B9) (g9 B (B.length-1)+1) U6 om_ (.inr ⟨U,by omega⟩) U2 ?_;refine C6 1 [0,3,4,5,9] a U ?_;clear a R;rw[hf];have w:0<f:=by rw[<- hf];exact Nat.div_pos om_ om_
 have o:f<B9:=by
  rw[<- hf];have h1:=(vi Q Q om_ (Ro _)).2;exact Nat.div_lt_self dc_ om_
 have y:n<B9 ^ 100000:=Sk V hm;refine Vv [0,1,3,4,2,5,6,7] [] U kr_ (fun R S a=>?_);refine Ve 2 U ?_;refine Vj af U9 ?_;refine Vc U6 ?_;refine VC (zx (k:=100000) _ ad.m_ hm o om_) U7 fl_ (fun bK _ _ a5=>?_);refine VC (zx (k:=100000) _ ae.m_ y o om_) U7 fl_ (fun bL _ a6 aJ=>?_);refine Vc U6 ?_;obtain⟨a7,bN,a8,rfl⟩:=aJ.form;refine Vk (j:=1) U12 ?_;refine Vf [0,3,4,5,9] a U ?_;clear a S R;have aK:=a5.mono a6;have aL:=aJ;refine G.freeze 0 U (fun C3 aM v=>?_);obtain⟨P,a9,aj,bO,al⟩:=(aK.mono aM).get (jP hm o);obtain⟨W,p,z,bP,Y⟩:=(aL.mono aM).get (jP y o);obtain⟨PA,pc,rfl,_⟩:=id al;obtain⟨bQ,bR,ba,_⟩:=id Y;cases ba
 simp only[au]at al Y v aK aL⊢;have am:NineC C3 (.slice a7 W.length a8) (n*f):=⟨W,p,z,Y⟩;have A:0<n*f:=TM aH w;have an:n*f<B9 ^ 100001:=dG (k:=100001) (n:=100000+1) (jP (k:=100000) y o) (Ro _);have bS:2<=W.length:=by
  have h1:B9<=bC W:=by rw[z];exact RD aG (TW _ w)
  rcases RS W.length 2 with h|h
  ·have h2:=iX p.1;have h3:B9 ^ W.length<=B9 ^ 1:=RM dc_ om_;rw[Nat.pow_one]at h3;omega
  exact h
 have bT:1<=P.length:=by
  rcases Sz P.length with h|h
  ·have:P=[]:=Sd h;subst this;have h1:m*f=0:=by rw[<- aj];rfl
   have h2:0<m*f:=TM om_ w;omega
  exact h
 have bb:=(vi p p om_ (Ro _)).2;have bU:=lj p.1 (W.length-1);refine Va 2 U fun R a=>?_;refine V5 U9 (Ro _) (by show 8*P.length<=281474976710656;omega) y_ fl_ (fun d=>?_);refine Vk (j:=1) U12 ?_;refine Vf [0,3,4,5,9] a U ?_;clear a R;refine Vd fun R a=>?_;refine Vb (PtrTo.block (Mem.get v mup) _) U8 ?_;refine Vb (PtrTo.block (Mem.get v mup) _) U8 ?_;refine Vc U6 ?_;refine Vh _ U U6 ?_;refine Vq Y.m_ U10 om_ (by rw[show((W.length:Int)-1).toNat=W.length-1 by omega];exact jv om_:(W.map cP)[((W.length:Int)-1).toNat]?=some (cP (g9 W (W.length-1)))) fl_ (fun bW bc=>?_);refine Vb bc U8 ?_;refine C6 1 [0,3,4,5,9,10] a U ?_;clear a R;refine Va 2 U fun R a=>?_;refine Vh _ U U6 ?_;refine C6 1 [0,3,4,5,9,10,11] a U ?_;clear a R;refine Vr (L':=[.obj e (.cells ⟨[qU d P.length P.length]⟩ 271 (0,0)),.arr (qU d P.length P.length) 285 1 P.length ((List.replicate P.length 0).map cP).flatten]) (by rw[<- Fp];rfl) ?_;refine G.loop (fun fr Z g E=>∃ (i:Nat)(c:List Nat)(v5:Value),(i<=P.length/\c.length=P.length/\Dig9 c/\bC (c.drop i)=bC (P.drop i) / (n*f)/\NineC Z v5 (bC (P.drop i) % (n*f))/\∀ j,j<i->g9 c j=0)/\fr=[(0,[],.slice PA P.length pc),(3,[],p_ b3),(4,[],p_ e),(5,[],v5),(9,[],.int .u64 f),(10,[],.int .u64 (g9 W (W.length-1))),(11,[],i_ ((i:Int)-1))]/\g=[.obj e (.cells ⟨[qU d P.length P.length]⟩ 271 (0,0)),.arr (qU d P.length P.length) 285 1 P.length (c.map cP).flatten]/\E=i+1) (hn_ [0,3,4,5,9,10,11] U) ⟨P.length,List.replicate P.length 0,_,⟨Ro _,RX,(fun x hx=>by rw[To hx];decide),by rw[SA,Uh ak];simp[bC],by rw[SA,show bC []=0 from U,Nat.zero_mod];exact NineC.zero _,fun j _=>CX _ j⟩,U,U,U⟩ (fun fr bX bY m _ F=>?_);obtain⟨i,c,v5,⟨hi,aa,ao,H,ab,aq⟩,rfl,rfl,rfl⟩:=F;refine U1 2 [0,3,4,5,9,10,11,78] U ?_;refine G.cd (fun ar=>?_) fun ar=>?_
 ·have aN:0<i:=by
   have:(0:Int)<=(i:Int)-1:=by simpa using ar
   omega
  obtain⟨j,rfl⟩:∃ j,i=j+1:=⟨i-1,by omega⟩;obtain⟨T,hT⟩:∃ T,bC (P.drop (j+1))=T:=⟨_,rfl⟩;rw[hT]at H ab;have aO:=R9 T A;obtain⟨I,bd,be,bZ,aP⟩:=ab.get (m:=100001) (Ty aO (dG (k:=100001) (n:=100000+1) (jP (k:=100000) y o) (Ro _)));obtain⟨RA,rc,aQ,_⟩:=id aP;rw[au]at aQ;subst aQ;obtain⟨X,hX⟩:∃ X,g9 P j+B9*(T % (n*f))=X:=⟨_,rfl⟩;have aR:=lj a9.1 j;have bf:bC (g9 P j::I)=X:=by rw[bC,be,hX]
  have J:=tF (t:=T) (x:=g9 P j) A;have bg:=mM (t:=T) A aR;rw[hX]at J bg;have ac:bC (P.drop j)=g9 P j+B9*T:=by rw[fF om_,hT]
  refine VB [(7,3)] U (fun R a=>?_);refine Ve 2 U ?_;refine Vq al.m_ U10 om_ (by rw[show((((j+1:Nat):Int)-1)).toNat=j by omega];exact jv om_:(P.map cP)[((((j+1:Nat):Int)-1)).toNat]?=some (cP (g9 P j))) fl_ (fun b0 bh=>?_);refine Vb bh U8 ?_;refine Wa [cP (g9 P j)] U12 fl_ (fun b1=>?_);refine Vc U6 ?_;refine D.append (j:=0) U11 aP.m_ (LF I) (by simp only[au,Rp,maxLen];omega) (by simp only[au,Rp];omega) fl_ (fun b2=>?_);refine D.call (gF _ _ (g9 P j::I) (n:=1+(I.map cP).length) (by rw[au];simp;omega)) U (.inr dc_) U6 (Rw _) fl_ (fun bi bj b5 _ bk=>?_);refine C6 1 [0,3,4,5,9,10,11] a U ?_;clear a R;obtain⟨rfl,hu⟩:=bk;have K:NineC bj bi X:=⟨Fm (g9 P j::I),iH (fun x hx=>(RC.1 hx).elim (fun h=>by rw[h];exact aR) (bd.1 x)),by rw[iG,bf],hu⟩;have aS:X<B9*(n*f):=by
   have h1:B9*(T % (n*f)+1)<=B9*(n*f):=SN _ aO;rw[Sw]at h1;omega
  have aT:X<B9 ^ 100002:=dG (k:=100002) (n:=100001+1) (Qt (k:=100001) aS an) (Ro _);obtain⟨b,L,av,b6,aw⟩:=K.get aT;obtain⟨XA,xc,aU,_⟩:=id aw;rw[au]at aU;subst aU;refine Va 1 U fun R a=>?_;refine Vb (PtrTo.block (Mem.get v mup) _) U8 ?_;refine Vl (qD _ K.m_ am.m_) U7 ?_;refine C6 1 [0,3,4,5,9,10,11,92] a U ?_;clear a R;refine G.cd (fun ax=>?_) fun ax=>?_
  ·have aV:X<n*f:=by
    have:jW X (n*f)<0:=by simpa using ax
    exact jl.1 this
   refine Va 1 U fun R a=>?_;refine Vh _ U U6 ?_;refine C6 1 [0,3,4,5,9,10,11] a U ?_;clear a R;rw[show((j+1:Nat):Int)-1-1=(j:Int)-1 by omega];refine Vn (m':=j+1) om_ mup (hn_ [0,3,4,5,9,10,11] U) ⟨j,c,_,⟨by omega,aa,ao,by rw[fF (l:=c) om_,aq j om_,H,ac,J.1,TZ aV];omega,by rw[ac,J.2,Um aV];exact K.mono mup,fun j' h=>aq j' om_⟩,U,U,U⟩
  have bl:n*f<=X:=by
   have h:¬ jW X (n*f)<0:=by simpa using ax
   rw[jl]at h;omega
  have bm:=AW L p (by rw[av,z];exact bl);have b7:=yQ L p (by rw[av,z];exact aS);have ay:=(vi L p om_ bm).1;obtain⟨s,az⟩:∃ s,bC (b.drop (W.length-1))=s:=⟨_,rfl⟩;rw[av,z,az]at ay;have b8:=lj L.1 (b.length-1);have b9:=lj L.1 (b.length-2);refine Va 3 U fun R a=>?_;refine Vh _ U U6 ?_;refine Vq aw.m_ U10 om_ (by rw[show((b.length:Int)-1).toNat=b.length-1 by omega];exact jv om_:(b.map cP)[((b.length:Int)-1).toNat]?=some (cP (g9 b (b.length-1)))) fl_ (fun ca bn=>?_);refine Vb bn U8 ?_;refine C6 1 [0,3,4,5,9,10,11,12] a U ?_;clear a R;refine Va 2 U fun R a=>?_;refine Vb (PtrTo.block (Mem.get v mup) _) U8 ?_;refine C6 2 [0,3,4,5,9,10,11,12,103] a U ?_;clear a R;refine G.cut (fun fr Z g E=>(s<1000000000000000000)/\fr=[(0,[],.slice PA P.length pc),(3,[],p_ b3),(4,[],p_ e),(5,[],.slice XA b.length xc),(9,[],.int .u64 f),(10,[],.int .u64 (g9 W (W.length-1))),(11,[],i_ (((j+1:Nat):Int)-1)),(12,[],.int .u64 (s:Nat))]/\g=[.obj e (.cells ⟨[qU d P.length P.length]⟩ 271 (0,0)),.arr (qU d P.length P.length) 285 1 P.length (c.map cP).flatten]) ?_ (fun fr _ cb E _ F=>?_)
  ·refine G.cd (fun aA=>?_) fun aA=>?_
   ·have bo:b.length=W.length-1+2:=by
     have:(W.length:Int)<(b.length:Int):=by simpa using aA
     omega
    have M:=KG bo;rw[az,show W.length-1+1=b.length-1 by omega,show W.length-1=b.length-2 by omega]at M;have bp:g9 b (b.length-1)*B9<=999999999*B9:=Sa _ om_;rw[show 999999999*B9=999999999000000000 from rfl]at bp;refine Va 1 U fun R a=>?_;refine D.int (((g9 b (b.length-1)*B9:Nat):Int)) U4 (by rw[show(1000000000:Int)=((B9:Nat):Int) from U,<- RW,IntKind.wrap_u64];omega) U2 ?_;refine Ve 3 U ?_;refine Vh _ U U6 ?_;refine Vq aw.m_ U10 om_ (by rw[show((b.length:Int)-2).toNat=b.length-2 by omega];exact jv om_:(b.map cP)[((b.length:Int)-2).toNat]?=some (cP (g9 b (b.length-2)))) fl_ (fun cc bq=>?_);refine Vb bq U8 ?_;refine D.int (((s:Nat):Int)) U4 (by rw[M,IntKind.wrap_u64];omega) U2 ?_;refine C6 1 [0,3,4,5,9,10,11,12] a U ?_;clear a R;refine Vp 0 mup (hn_ [0,3,4,5,9,10,11,12] U) ⟨by omega,U,U⟩
   have br:b.length=W.length-1+1:=by
    have:¬ (W.length:Int)<(b.length:Int):=by simpa using aA
    omega
   have M:=CT br;rw[az,show W.length-1=b.length-1 by omega]at M;rw[<- M];refine Vp 0 mup (hn_ [0,3,4,5,9,10,11,12] U) ⟨by omega,U,U⟩
  obtain⟨ce,rfl,rfl⟩:=F;obtain⟨N,aB⟩:∃ N,s / g9 W (W.length-1)=N:=⟨_,rfl⟩;rw[aB]at ay;have cf:N<=s:=by rw[<- aB];exact Sv _ _
  refine Va 2 U fun R a=>?_;refine V7 (s) (g9 W (W.length-1)) U6 bb (.inr ⟨U,by omega⟩) U2 ?_;rw[aB];refine D.min (((min N 999999999:Nat):Int)) U6 om_ U2 ?_;refine C6 1 [0,3,4,5,9,10,11,12] a U ?_;clear a R;refine Vd fun R a=>?_;refine Vb (PtrTo.block (Mem.get v mup) _) U8 ?_;refine Vc U6 ?_;refine VC (zx (k:=100001) _ am.m_ an om_ om_) U7 fl_ (fun bs _ _ bt=>?_);refine C6 1 [0,3,4,5,9,10,11,12,13] a U ?_;clear a R;refine G.loop (fun fr Z g E=>∃ (dd:Nat)(aC:Value),(X / (n*f)<=dd/\dd<B9/\NineC Z aC (n*f*dd))/\fr=[(0,[],.slice PA P.length pc),(3,[],p_ b3),(4,[],p_ e),(5,[],.slice XA b.length xc),(9,[],.int .u64 f),(10,[],.int .u64 (g9 W (W.length-1))),(11,[],i_ (((j+1:Nat):Int)-1)),(12,[],.int .u64 (dd:Nat)),(13,[],aC)]/\g=[.obj e (.cells ⟨[qU d P.length P.length]⟩ 271 (0,0)),.arr (qU d P.length P.length) 285 1 P.length (c.map cP).flatten]/\E=dd+1) (hn_ [0,3,4,5,9,10,11,12,13] U) ⟨min N 999999999,bs,⟨by have h:=Nat.le_min.2 ⟨ay,(by omega:X / (n*f)<=999999999)⟩;exact h,by omega,bt.mono mup⟩,U,U,U⟩ (fun fr cg ch m _ F=>?_);obtain⟨dd,aC,⟨bu,aW,aD⟩,rfl,rfl,rfl⟩:=F;refine Va 2 U fun R a=>?_;refine Vl (qD _ aD.m_ K.m_) U7 ?_;refine C6 1 [0,3,4,5,9,10,11,12,13,123] a U ?_;clear a R;refine G.cd (fun aF=>?_) fun aF=>?_
  ·have O:X<n*f*dd:=by
    have:0<jW (n*f*dd) X:=by simpa using aF
    exact GS.1 this
   have bv:1<=dd:=by
    rcases Sz dd with h|h
    ·rw[h]at O;omega
    exact h
   refine Va 1 U fun R a=>?_;refine Vb (PtrTo.block (Mem.get v mup) _) U8 ?_;refine VC (uS (k:=100002) _ aD.m_ am.m_ (dG (k:=100002) (n:=100001+1) (jP (k:=100001) an aW) (Ro _)) (TW _ bv) om_) U7 fl_ (fun bw _ _ aX=>?_);refine C6 1 [0,3,4,5,9,10,11,12,13] a U ?_;clear a R;refine Va 1 U fun R a=>?_;refine D.int (((dd-1:Nat):Int)) U4 g_ U2 ?_;refine C6 1 [0,3,4,5,9,10,11,12,13] a U ?_;clear a R;rw[show n*f*dd-n*f=n*f*(dd-1) from by rw[Nat.mul_sub,SL]]at aX;refine Vn (m':=dd-1+1) om_ mup (hn_ [0,3,4,5,9,10,11,12,13] U) ⟨dd-1,bw,⟨by have h:=(Tn A).2 (by rw[R8];exact O);omega,by omega,aX.mono mup⟩,U,U,U⟩
  have O:n*f*dd<=X:=by
   have h:¬ 0<jW (n*f*dd) X:=by simpa using aF
   rw[GS]at h;omega
  have aY:dd=X / (n*f):=Nat.le_antisymm ((Nat.le_div_iff_mul_le A).2 (by rw[R8];exact O)) bu;have bx:X-n*f*dd=X % (n*f):=by rw[aY];have:=Us X (n*f);omega
  refine Vv [0,1,2,3,4,5,6,7,8] [] U kr_ (fun R S a=>?_);refine Vj ag U9 ?_;refine Ve 4 U ?_;refine VC (uS (k:=100002) _ K.m_ aD.m_ aT O om_) U7 fl_ (fun bz _ _ aZ=>?_);refine VD (j*1) U10 (fun _=>⟨by omega,by omega,(by rw[show(((j+1:Nat):Int)-1).toNat=j by omega])⟩) U2 ?_;refine VG (j:=1) U11 (by show j*1+1<=_;rw[bV eL,aa];omega) ?_;refine Vc U6 ?_;refine Vf [0,3,4,5,9,10,11] a U ?_;clear a S R;refine Va 1 U fun R a=>?_;refine Vh _ U U6 ?_;refine C6 1 [0,3,4,5,9,10,11] a U ?_;clear a R;rw[show((j+1:Nat):Int)-1-1=(j:Int)-1 by omega];refine G.perm (L':=[.obj e (.cells ⟨[qU d P.length P.length]⟩ 271 (0,0)),.arr (qU d P.length P.length) 285 1 P.length (aE (c.map cP).flatten (cP dd) (j*1))]) (List.Perm.swap _ _ _) ?_;refine Vr (L':=[.obj e (.cells ⟨[qU d P.length P.length]⟩ 271 (0,0)),.arr (qU d P.length P.length) 285 1 P.length ((c.set j dd).map cP).flatten]) (by rw[<- bM eL _ (by omega:j<c.length)]) ?_;rw[bx]at aZ;refine Vn (m':=j+1) om_ mup (hn_ [0,3,4,5,9,10,11] U) ⟨j,c.set j dd,bz,⟨by omega,by simp[aa],ao.set aW,by rw[lP om_,H,ac,J.1,aY];omega,by rw[ac,J.2];exact aZ.mono mup,fun j' h=>by rw[qZ om_];exact aq j' om_⟩,U,U,U⟩
 have aN:i=0:=by
  have:¬ (0:Int)<=(i:Int)-1:=by simpa using ar
  omega
 subst aN;rw[SE,SE,aj,Nat.mul_div_mul_right _ _ w]at H;rw[SE,aj,Nat.mul_mod_mul_right]at ab;refine Va 2 U fun R a=>?_;refine Vy [cP f] U12 (fun ci _ _ bA=>?_);refine VC (tE _ _ _ (m % n*f) f ab.m_ (by
  have h1:=jP (k:=100000) (Ty (R9 m aH) y) o;exact dG (k:=200000) (n:=100000+1) h1 dc_) bA.m_ w o) U7 fl_ (fun cj _ _ bB=>?_)
 obtain⟨q2,r2,rfl,a1,ck⟩:=bB;rw[Nat.mul_div_cancel _ w]at a1;refine C6 4 [4,5] a U ?_;clear a R;refine G.perm (L':=[.arr (qU d P.length P.length) 285 1 P.length (c.map cP).flatten,.obj e (.cells ⟨[qU d P.length P.length]⟩ 271 (0,0))]) (List.Perm.swap _ _ _) ?_;refine VB [(1,3)] U (fun R a=>?_);refine Vj af U9 ?_;refine D.call (gF _ _ c aa) U (.inr dc_) U6 (Rw _) fl_ (fun cl _ cm _ bD=>?_);refine Vc U6 ?_;obtain⟨rfl,hu⟩:=bD;obtain⟨Au,cu,rfl,_⟩:=id hu;refine Vk (j:=0) U12 ?_;refine C6 1 [4,5] a U ?_;clear a R;refine Vo (Wz (Cd ag U U U U U) ?_ K5);exact⟨U,_,_,U,⟨Fm c,iH ao,by rw[iG,H],hu⟩,a1.mono mup⟩
theorem yA (C:Mem)(a b:Value)(m n:Nat)(g:NineC C a m)(h:NineC C b n)(i:m<B9 ^ 100000)(f:0<n) :
  Pur cx.P 227 [a,b] C fun u D=>∃ q r,u=.tuple #[q,r]/\NineC D q (m / n)/\NineC D r (m % n):=by
 rcases RS n B9 with c|c
 ·obtain⟨l,h1,h2,h3,h4⟩:=h.get (m:=1) (by rw[Nat.pow_one];exact c);have j:l≠[]:=fun e=>by rw[e]at h2;rw[<- h2]at f;exact absurd f dc_
  obtain⟨d,rfl⟩:∃ d,l=[d]:=by
   cases l with
  |nil=>exact absurd rfl j
  |cons d l=>cases l with
   |nil=>exact⟨d,rfl⟩
   |cons e l=>simp at h3
  have o:d=n:=by rw[<- h2];show d=d+B9*0;omega
  subst o;exact tE C a b m d g (dG (k:=200000) (n:=100000) i dc_) h4 f c
 exact EQ C a b m n g h i c
theorem KS (C:Mem)(s:Str)(c:UInt8):Gives cx.P 250 [ae s,ae [c]] C (.bool (ck c s).2):=by
 exact Vi func250 8 U3 fun w0=>U1 1 [0,1] U<|Va 2 U fun R a=>Vl (Ai _ s c) U7<|C6 1 [4] a U<|Vg U2<|⟨U,U⟩
theorem FI (C:Mem)(s:Str)(c:UInt8):Gives cx.P 277 [ae s,ae [c]] C (ae (ck c s).1):=by
 refine Vi func277 13 U3 fun w0=>U1 1 [0,1] U<|Va 2 U fun R d=>Vl (Ai _ s c) U7<|Vf [0,1,7] d U<|G.cd (fun a=>?_) fun a=>?_
 ·have h:s.head?=some c:=RT fun h=>by unfold ck at a;rw[aF h]at a;cases a
  have e:1<=s.length:=by cases s with
  |nil=>cases h
  |cons b s=>simp
  refine Va 3 U fun R d=>V0 1 s.length U9 (fun _=>⟨.inr ⟨_,U⟩,.inl ⟨U,U⟩,.inl ⟨U,U⟩,by omega,Ro _,Ro _⟩) U2<|C6 1 [4] d U<|Vg U2 ?_;unfold ck;rw[aM h];refine⟨?_,U⟩;rw[Rz,List.drop_one];rfl
 have h:¬ s.head?=some c:=fun h=>by unfold ck at a;rw[aM h]at a;cases a
 refine U1 2 [4] U<|Vg U2 ?_;unfold ck;rw[aF h];exact⟨U,U⟩
theorem BI (C:Mem)(s:Str)(c:UInt8):Gives cx.P 225 [ae s,ae [c]] C (ae (ck c s).1):=by
 exact Vi func225 8 U3 fun w0=>U1 1 [0,1] U<|Va 2 U fun R a=>Vl (FI _ s c) U7<|C6 1 [4] a U<|Vg U2<|⟨U,U⟩
def eH (z:Int):Int:=if z<0 then -1 else if z=0 then 0 else 1
theorem my (C:Mem)(z:Int):Gives cx.P 186 [ae (txt z)] C (i_ (eH z)):=by
 refine Vi func186 9 U3 fun w0=>U1 1 [0] U ?_
 skip
 refine U1 3 [0,3] U<|G.cd (fun h3=>?_) fun h3=>?_
 ·have b:z=0:=by
   have h:=kG z;rw[h]at h3;exact QL h3
  exact U1 1 [2] U<|Vg U2<|⟨by rw[b];rfl,U⟩
 have b:z≠0:=by
  have h:=kG z;rw[h]at h3;exact Rt h3
 refine Va 1 U fun R d=>Vl (KS _ (txt z) 45) U7<|C6 1 [6] d U<|G.cd (fun a=>?_) fun a=>?_
 ·have c:z<0:=by
   rw[dK]at a;exact QL a
  exact U1 1 [2] U<|Vg U2<|⟨by rw[eH,aM c],U⟩
 have c:¬ z<0:=by
  rw[dK]at a;exact Rt a
 exact U1 1 [2] U<|Vg U2<|⟨by rw[eH,aF c,aF b],U⟩
theorem tf (C:Mem)(a:Tabs C)(z:Int)(b:-9223372036854775808<=z)(c:z<=9223372036854775807):Gives cx.P 185 [i_ z] C (ae (txt z)):=by
 exact Vi func185 5 U3 fun w0=>U1 1 [0] U<|Va 1 U fun R d=>Vl (fT _ a.m_ z b c) U7<|C6 1 [2] d U<|Vg U2<|⟨U,U⟩
theorem iY (z:Int):(txt z).length<=(bk z.natAbs).length+1:=by unfold txt;split <;> simp
theorem vc (C:Mem)(z:Int)(e:(bk z.natAbs).length<=1000000):Gives cx.P 133 [ae (txt z)] C (ae (txt (-z))):=by
 have f:=iY z;refine Vi func133 14 U3 fun w0=>U1 1 [0] U<|Va 1 U fun R a=>Vl (my _ z) U7<|Vf [0,4] a U<|U1 2 [0,4,5] U<|G.cd (fun h5=>?_) fun h5=>?_
 ·have d:0<z:=by
   have h:eH z=1:=by simpa using h5
   unfold eH at h;split at h
   ·cases h
   split at h
   ·cases h
   omega
  refine Va 1 U fun R a=>VX U6 (fun _=>(by simp only[RH,R5];omega)) U2<|C6 1 [2] a U<|Vg U2<|⟨?_,U⟩;unfold txt;rw[aF om_,aM om_,Ul];rfl
 have d:¬ 0<z:=fun h=>by
  have h2:eH z=1:=by unfold eH;rw[aF om_,aF om_]
  rw[h2]at h5;cases h5
 refine U1 2 [0,9] U<|G.cd (fun b=>?_) fun b=>?_
 ·have c:z<0:=by
   have h:eH z=-1:=by simpa using b
   unfold eH at h;split at h
   ·assumption
   split at h <;> cases h
  refine Va 1 U fun R a=>V0 1 (txt z).length U9 (fun _=>⟨.inr ⟨_,U⟩,.inl ⟨U,U⟩,.inl ⟨U,U⟩,(by unfold txt;rw[aM c];simp),Ro _,Ro _⟩) U2<|C6 1 [2] a U<|Vg U2<|⟨?_,U⟩;rw[Rz];unfold txt;rw[aM c,aF om_,Ul];rfl
 have c:¬ z<0:=fun h=>by
  have h2:eH z=-1:=by unfold eH;rw[aM h]
  rw[h2]at b;cases b
 refine U1 2 [2] U<|Vg U2<|⟨?_,U⟩;rw[show z=0 by omega];rfl
theorem Iw:∀ {s t:Str},(∀ c∈s,dT c=true)->(∀ c∈t,dT c=true)->s.length=t.length->Lib.compareBytes s t=jW (bP s) (bP t)
|[],[],_,_,_=>rfl
|[],_::_,_,_,h=>by simp at h
|_::_,[],_,_,h=>by simp at h
|c::s,d::t,hs,g,k=>by
  have e:s.length=t.length:=by simpa using k
  have i:∀ x∈s,dT x=true:=fun x f=>hs x (by simp[f]);have j:∀ x∈t,dT x=true:=fun x f=>g x (by simp[f]);have l:=Iw i j e;have h1:=dt i;have h2:=dt j;have m:=hs c ak;have n:=g d ak;simp only[dT,Ry]at m n;rw[dL,dL,e];rw[e]at h1;simp only[Lib.compareBytes];obtain⟨p,o⟩:∃ p,10 ^ t.length=p:=⟨_,rfl⟩;rw[o]at h1 h2⊢;by_cases a:c<d
  ·rw[aM a];have r:c.toNat<d.toNat:=a;have h3:(c.toNat-48+1)*p<=(d.toNat-48)*p:=Sa _ om_;rw[S2]at h3;unfold jW;rw[aM om_]
  rw[aF a];by_cases b:d<c
  ·rw[aM b];have u:d.toNat<c.toNat:=b;have h3:(d.toNat-48+1)*p<=(c.toNat-48)*p:=Sa _ om_;rw[S2]at h3;unfold jW;rw[aF om_,aM om_]
  rw[aF b,l];have q:c.toNat=d.toNat:=by
   have h3:¬ c.toNat<d.toNat:=a;have h4:¬ d.toNat<c.toNat:=b;omega
  rw[q];unfold jW;split <;> rename_i h5
  ·rw[aM om_]
  split <;> rename_i v
  ·rw[aF om_,aM om_]
  rw[aF om_,aF om_]
theorem rq {a b:Nat}(h:(bk a).length<(bk b).length):a<b:=by
 obtain⟨h1,h2⟩:=bl a;obtain⟨h3,h4⟩:=bl b;have c:=Sc.2 h1.2.1;have h5:=dt h1.1;have d:=pe h3 om_;have e:10 ^ (bk a).length<=10 ^ ((bk b).length-1):=RM dc_ om_;omega
theorem OM {a b:Nat}(h:(bk a).length=(bk b).length):Lib.compareBytes (bk a) (bk b)=jW a b:=by
 obtain⟨h1,h2⟩:=bl a;obtain⟨h3,h4⟩:=bl b;rw[Iw h1.1 h3.1 h,h2,h4]
def wd (z w:Int):Int:=if z<w then -1 else if w<z then 1 else 0
theorem eC (z:Int):(z<0/\eH z=-1)∨(z=0/\eH z=0)∨(0<z/\eH z=1):=by
 unfold eH;split
 ·exact .inl ⟨by assumption,U⟩
 split
 ·exact .inr (.inl ⟨by assumption,U⟩)
 exact .inr (.inr ⟨by omega,U⟩)
theorem AQ (h:eH z=eH w):wd z w=eH z*jW z.natAbs w.natAbs:=by
 have a:=eC w;rw[<- h]at a;unfold wd jW;rcases eC z with⟨h1,h2⟩|⟨h1,h2⟩|⟨h1,h2⟩ <;> rw[h2]at a⊢
 ·have h3:w<0:=by omega
  split <;> split <;> (try split) <;> omega
 ·have h3:w=0:=by omega
  subst h1 h3;simp
 have h3:0<w:=by omega
 split <;> split <;> (try split) <;> omega
theorem JO (z:Int):IntKind.i64.wrap (-(eH z))=-(eH z):=by
 rcases eC z with⟨h1,h2⟩|⟨h1,h2⟩|⟨h1,h2⟩ <;> rw[h2] <;> rfl
theorem FU (C:Mem)(a b:Str):Gives cx.P 226 [ae a,ae b] C (i_ (Lib.compareBytes a b)):=zB Tryz.scmp a b C kr_
theorem qV (C:Mem)(z w:Int)(_m:(bk z.natAbs).length<=1000000)(_n:(bk w.natAbs).length<=1000000):Gives cx.P 161 [ae (txt z),ae (txt w)] C (i_ (wd z w)):=by
 have ez:(ck 45 (txt z)).1=bk z.natAbs:=by rw[dK]
 have j:(ck 45 (txt w)).1=bk w.natAbs:=by rw[dK]
 refine Vi func161 41 U3 fun w0=>U1 1 [0,1] U<|Va 1 U fun R b=>Vl (my _ z) U7<|Vc U6<|Vl (my _ w) U7<|C6 2 [0,1,5,6] b U<|U1 3 [0,1,5,6,15] U<|G.cd (fun c=>?_) fun c=>?_
 ·have k:eH z≠eH w:=by simpa using c
  refine U1 3 [18] U<|G.cd (fun d=>?_) fun d=>?_
  ·have a:eH z<eH w:=by simpa using d
   refine U1 1 [4] U<|Vg U2<|⟨?_,U⟩;rw[wd,aM (by unfold eH at a;split at a <;> split at a <;> (try split at a) <;> omega)]
  have a:¬ eH z<eH w:=by simpa using d
  refine U1 1 [4] U<|Vg U2<|⟨?_,U⟩;have h:w<z:=by
   have h2:eH w<eH z:=by omega
   unfold eH at h2;split at h2 <;> split at h2 <;> (try split at h2) <;> omega
  rw[wd,aF om_,aM h]
 have f:eH z=eH w:=by simpa using c
 refine Va 1 U fun R b=>Vl (BI _ (txt z) 45) U7<|Vc U6<|Vl (BI _ (txt w) 45) U7 ?_;rw[ez,j];refine C6 2 [5,7,8] b U<|U1 5 [5,7,8,27] U<|G.cd (fun g=>?_) fun g=>?_
 ·have k:(bk z.natAbs).length≠(bk w.natAbs).length:=fun e=>by
   have h:(((bk z.natAbs).length:Nat):Int)≠(((bk w.natAbs).length:Nat):Int):=by simpa using g
   exact h (by rw[e])
  refine U1 5 [5,32] U<|G.cd (fun i=>?_) fun i=>?_
  ·have a:z.natAbs<w.natAbs:=rq (by
    have h:(((bk z.natAbs).length:Nat):Int)<(((bk w.natAbs).length:Nat):Int):=by simpa using i
    omega)
   refine U1 3 [4] U<|Vg U2<|⟨?_,U⟩;rw[Int.zero_sub,JO,AQ f,show jW z.natAbs w.natAbs=-1 from aM a];congr 1;omega
  have a:w.natAbs<z.natAbs:=rq (by
   have h:¬ (((bk z.natAbs).length:Nat):Int)<(((bk w.natAbs).length:Nat):Int):=by simpa using i
   omega)
  refine U1 2 [4] U<|Vg U2<|⟨?_,U⟩;rw[AQ f,show jW z.natAbs w.natAbs=1 from by unfold jW;rw[aF om_,aM a]];congr 1;omega
 have l:(bk z.natAbs).length=(bk w.natAbs).length:=by
  have h:(((bk z.natAbs).length:Nat):Int)=(((bk w.natAbs).length:Nat):Int):=by simpa using g
  omega
 refine Va 3 U fun R b=>Vl (FU _ (bk z.natAbs) (bk w.natAbs)) U7 ?_;rw[OM l];refine VI ((wd z w)) U4 (by rw[AQ f]) (by unfold wd;split <;> (try split) <;> omega) (by unfold wd;split <;> (try split) <;> omega) U2 ?_
 exact C6 1 [4] b U<|Vg U2<|⟨U,U⟩
def oH (b:Bool):Int:=if b then 0 else 2
theorem yh (C:Mem)(s:Str):Gives cx.P 160 [ae s] C (i_ (oH (bR s))):=by
 obtain⟨t,neg,p⟩:∃ t b,ck 45 s=(t,b):=⟨_,_,rfl⟩;have g:bR s=(t.all dT && !(t == []) && !(t.head? == some 48 && (neg || decide (1<t.length))) && decide (t.length<=200)):=by unfold bR jA;rw[p]
 refine Vi func160 47 U3 fun w0=>U1 1 [0] U<|Va 1 U fun R a=>Vm (by have h:=Ir C s 45;rw[p]at h;exact h) U7 fl_<|C6 5 [3,4] a U<|Va 6 U fun R a=>VH U8<|Ve 2 U<|VN (b:=t.headD 0) U8 (fun r=>⟨by omega,(by
  cases t with
 |nil=>exact Bool.noConfusion (show true=false from r.1)
 |cons b t=>rfl)⟩) U2 ?_
 refine Ve 7 U<|VH U8<|Vz U8<|VH U8<|Vf [3,30] a U<|G.cd (fun d=>?_) fun d=>?_
 ·have j:bR s=false:=by
   rw[g];cases t with
  |nil=>simp
  |cons b t =>
    simp at d;rcases d with h|⟨h,h2⟩
    ·simp;intro _ _;omega
    have e:b=48:=Ur.1 (by show b.toNat=48;omega);subst e;have u:(neg || decide (1<((48:UInt8)::t).length))=true:=by
     rcases h2 with h2|h2
     ·rw[RJ ap];simp
     rw[h2];rfl
    rw[u];simp
  exact U1 1 [2] U<|Vg U2<|⟨by rw[j];rfl,U⟩
 have v:t.length<=200:=by
  simp at d;omega
 refine U1 3 [3,32,33] U<|G.loop (fun fr E w y=>∃ (i:Nat),(i<=t.length/\∀ c∈t.take i,dT c=true)/\fr=[(3,[],ae t),(32,[],i_ t.length),(33,[],i_ i)]/\w=[]/\y=t.length-i) (hn_ [3,32,33] U) ⟨0,⟨Rv _,by simp⟩,U,U,U⟩ (fun fr F H m _ z=>?_);obtain⟨i,⟨I,k⟩,rfl,rfl,rfl⟩:=z;refine U1 1 [3,32,33,34] U<|G.cd (fun l=>?_) fun l=>?_
 ·have n:i<t.length:=by simpa using l
  obtain⟨c,f⟩:∃ c,t[i]?=some c:=⟨t[i],ai n⟩;refine U1 2 [3,5,32,33] U<|Va 2 U fun R a=>VN U8 (fun _=>⟨by omega,f⟩) U2<|Ve 4 U<|VN U8 (fun _=>⟨by omega,f⟩) U2<|Vc U6<|VH U8<|Vf [3,32,33,45] a U<|G.cd (fun o=>?_) fun o=>?_
  ·have j:bR s=false:=by
    have h1:t.all dT=false:=by
     rw[TU];refine⟨c,aU f, ?_⟩;simp at o;unfold dT;simp;omega
    rw[g,h1];rfl
   exact U1 1 [2] U<|Vg U2<|⟨by rw[j];rfl,U⟩
  have A:dT c=true:=by
   simp at o;unfold dT;simp;omega
  refine Vd fun R a=>Vh _ U U6<|C6 1 [3,32,33] a U<|Vn (m':=t.length-(i+1)) om_ mup (hn_ [3,32,33] U) ⟨i+1,⟨by omega,fun x q=>by
   rw[RR,f]at q;rcases RF.1 q with h|h
   ·exact k x h
   simp at h;subst h;exact A⟩,rfl,rfl,rfl⟩
 have n:t.length<=i:=by
  have:¬ i<t.length:=by simpa using l
  omega
 rw[RN n]at k;have B:t.all dT=true:=RI.2 k;have D:bR s=true:=by
  rw[g,B,RJ v];cases t with
 |nil=>simp at d
 |cons b t =>
   simp at d;simp;by_cases e:b=48
   ·subst e;have h5:=d.2;simp at h5;exact .inr ⟨h5.2,Sd om_⟩
   exact .inl e
 exact U1 1 [2] U<|Vg U2<|⟨by rw[D];rfl,U⟩
end Go.Proofs.YtfjcldheldflbaaGreatDoor
