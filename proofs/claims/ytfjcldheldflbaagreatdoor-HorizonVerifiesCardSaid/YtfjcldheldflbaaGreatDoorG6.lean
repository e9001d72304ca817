import Derived.Test.YtfjcldheldflbaaGreatDoorG5
set_option maxHeartbeats 4000000
namespace Go.Proofs.YtfjcldheldflbaaGreatDoor
open Go.Proofs.Tryz
open Go Go.Jog
set_option maxRecDepth 100000
variable {Q:Nat}{a b:List Nat}{i j k:Nat}{l:List Nat}{m n:Nat}{o p:List Int}{q:List Nat}{s:Str}{t:Nat}{w:Int}{x:Nat}{z:Int}
def gI (p:List Int)(i:Nat):Int:=p.getD i 0
theorem IQ (h:k<p.length):(p.map oc)[k]?=some (oc (gI p k))/\p[k]?=some (gI p k):=by
 have e:p[k]?=some (gI p k):=by
  unfold gI;rw[al,aj h];rfl
 exact⟨by rw[SI,e];rfl,e⟩
theorem tQ (h:p.length<=k):gI p k=0:=by
 unfold gI;rw[al,SR h];rfl
theorem NW (p:List Int)(k:Nat):jl (p.take (k+1))=jl (p.take k)+(10000:Int) ^ k*gI p k:=by
 rcases Th k p.length with h|h
 .exact Gs (IQ h).2
 rw[tQ h,Td h,Td om_];simp
theorem Ho (o:Int):(o-o % 10000).tdiv 10000=(o-o % 10000) / 10000:=Int.tdiv_eq_ediv_of_dvd (Int.dvd_of_emod_eq_zero om_)
theorem Ec (C:Mem)(v:Value)(p:List Int)(g:Sl C 1 v (p.map oc))(H:0<=jl p)(I:∀x∈p, -1000000000000<=x/\x<=1000000000000)(O:p.length<=100000):Pur cx.P 235 [v] C λu D=>PieC D u (jl p).toNat:=by
 obtain⟨k,c0,rfl,_⟩:=id g;simp only[ar]at g⊢;refine Wy func235 43 U3 λw0=>U0 1 [0] U<|U0 1 [0,3] U<|U0 1 [0,3,4] U<|U0 1 [0,3,4,5] U<|G.nilArr 3 1<|G.loop (λfr B b c=>∃(i:Nat)(o:Int)(out:List Nat)(w:Value),(out.length=i/\DigP out/\-1000000000000<=o/\o<=1000000000000/\jl (p.take i)=(bx out:Nat)+(10000:Int) ^ i*o/\(p.length<=i->(i:Int)+o<=1000000100000))/\fr=[(0,[],.slice k p.length c0),(3,[],w),(4,[],i_ o),(5,[],i_ i)]/\b=[.arr w 3 1 i (out.map aX).flatten]/\c=(p.length-i)*4611686018427387904+o.natAbs) (hn_ [0,3,4,5] U) ⟨0,0,[],_,⟨U,(λx J=>(by cases J)),by omega,by omega,by simp[jl,bx],λh=>by omega⟩,U,U,U⟩ (λfr Q S m _ d=>?_);obtain⟨i,o,out,w,⟨e,l,T,W,n,E⟩,rfl,rfl,rfl⟩:=d;have q:p.length<=i->0<=o:=λh=>by
  refine K6 e l (V:=jl p) H ?_;rw[<- n,Td h]
 have X:(i:Int)<=1000000100000:=by
  rcases Th i p.length with h|h
  .omega
  have:=q h;have:=E h;omega
 refine U1 7 U λR a=>WX U8<|Ww [0,3,4,5,14] a U<|G.cd (λr=>?_) λr=>?_
 .have s:i<p.length∨o≠0:=by
   simp at r;omega
  have Y:-1000000000000<=gI p i/\gI p i<=1000000000000:=by
   rcases Th i p.length with h|h
   .exact I _ (aK (IQ h).2)
   rw[tQ h];omega
  refine U0 4 [0,3,4,5,20] U<|G.cut (λfr B b c=>(True)/\fr=[(0,[],.slice k p.length c0),(3,[],w),(4,[],i_ (o+gI p i)),(5,[],i_ i)]/\b=[.arr w 3 1 i (out.map aX).flatten]) ?_ (λfr _ Z c _ d=>?_)
  .refine G.cd (λt=>?_) λt=>?_
   .have f:i<p.length:=by simpa using t
    refine U1 3 U λR a=>WG g.m_ U10 om_ (IQ f).1 fl_ λaa K=>Ws K U8<|Wz _ U U6<|C6 1 [0,3,4,5] a U<|WJ 0 l_ (hn_ [0,3,4,5] U) ⟨trivial,U,U⟩
   have f:p.length<=i:=by
    have:¬ i<p.length:=by simpa using t
    omega
   rw[show o=o+gI p i by rw[tQ f,Int.add_zero]];refine WJ 0 l_ (hn_ [0,3,4,5] U) ⟨trivial,by rw[tQ f];simp,U⟩
  obtain⟨_,rfl,rfl⟩:=d;refine U1 1 U λR a=>YQ (Int.tmod (o+gI p i) 10000) U U U U U U om_ U U U<|C6 1 [0,3,4,5,6] a U ?_;have y:=KN (o+gI p i);have ab:-10000<=Int.tmod (o+gI p i) 10000/\Int.tmod (o+gI p i) 10000<10000:=by
   have:=Wd (o+gI p i) (show(10000:Int)≠0 by decide);have:=Int.emod_lt_of_pos (o+gI p i) (show(0:Int)<10000 by decide);split at y <;> omega
  refine U0 2 [0,3,4,5,6,30] U<|G.cut (λfr B b c=>(True)/\fr=[(0,[],.slice k p.length c0),(3,[],w),(4,[],i_ (o+gI p i)),(5,[],i_ i),(6,[],i_ (((o+gI p i) % 10000).toNat:Nat))]/\b=[.arr w 3 1 i (out.map aX).flatten]) ?_ (λfr _ ac c _ d=>?_)
  .refine G.cd (λz=>?_) λz=>?_
   .have A:Int.tmod (o+gI p i) 10000<0:=by simpa using z
    rw[aL A]at y;refine U1 1 U λR a=>WW (((((o+gI p i) % 10000).toNat:Nat):Int)) U4 om_ om_ om_ U2<|C6 1 [0,3,4,5,6] a U<|WJ 0 l_ (hn_ [0,3,4,5,6] U) ⟨trivial,U,U⟩
   have A:¬ Int.tmod (o+gI p i) 10000<0:=by simpa using z
   rw[aF A]at y;rw[show Int.tmod (o+gI p i) 10000=((((o+gI p i) % 10000).toNat:Nat):Int) by omega];refine WJ 0 l_ (hn_ [0,3,4,5,6] U) ⟨trivial,U,U⟩
  obtain⟨_,rfl,rfl⟩:=d;refine U1 2 U λR a=>WP [aX (((o+gI p i) % 10000).toNat)] U12 λad _ _ L=>D.append (j:=0) U11 L U ay (by show(i+1)*8<=_;omega) fl_ λF=>C6 1 [0,3,4,5,6] a U<|U1 2 U λR a=>WW ((o+gI p i-(o+gI p i) % 10000)) U4 om_ om_ om_ U2<|Xy ((o+gI p i-(o+gI p i) % 10000) / 10000) U6 om_ (Ho _) f_ U2<|C6 1 [0,3,4,5] a U<|U1 1 U λR a=>Wz _ U U6<|C6 1 [0,3,4,5] a U ?_;have hm:(p.length-(i+1))*4611686018427387904+((o+gI p i-(o+gI p i) % 10000) / 10000).natAbs<(p.length-i)*4611686018427387904+o.natAbs:=by
   rcases Th i p.length with h2|h2
   .omega
   have h3:=q h2;rw[tQ h2];omega
  refine WK (L':=[.arr F 3 1 (i+1) ((out++[((o+gI p i) % 10000).toNat]).map aX).flatten]) (by simp[aX])<|WF (m':=(p.length-(i+1))*4611686018427387904+((o+gI p i-(o+gI p i) % 10000) / 10000).natAbs) om_ mup (hn_ [0,3,4,5] U) ⟨i+1,(o+gI p i-(o+gI p i) % 10000) / 10000,out++[((o+gI p i) % 10000).toNat],F,⟨by simp[e],l.snoc (by show((o+gI p i) % 10000).toNat<10000;omega),by omega,by omega,by
   refine Jt e ?_;rw[NW,n,V0];omega,λh=>by
   rcases Th i p.length with h2|h2
   .omega
   have h3:=q h2;have h4:=E h2;rw[tQ h2] at *;omega⟩,rfl,rfl,rfl⟩
 have s:p.length<=i/\o=0:=by
  simp at r;omega
 refine WQ [(1,3)] U λR a=>Wt U6<|D.call (vW _ _ out e) U (.inr dc_) U6 (SQ _) fl_ (λae _ af _ M=>?_);obtain⟨rfl,N⟩:=M;refine C6 1 [2] a U<|Wx U2<|⟨U,yW out,na l, ?_,N⟩;rw[Td s.1,s.2]at n;rw[iR];omega
theorem Cc:∀(l:List Int)(i:Nat)(x:Int),i<l.length->jl (l.set i x)=jl l+(10000:Int) ^ i*(x-gI l i)
|[],i,x,h=>by simp at h
|a::l,0,x,_=>by
  show x+10000*jl l=a+10000*jl l+1*(x-a);omega
|a::l,i+1,x,h=>by
  have b:=Cc l i x (by simpa using h);show a+10000*jl (l.set i x)=a+10000*jl l+(10000:Int) ^ (i+1)*(x-gI l i);rw[b,V0,<- Int.mul_assoc,Int.pow_succ,Int.mul_comm ((10000:Int) ^ i) 10000];omega
theorem Gr (l:List Int):jl (l++[0])=jl l:=by rw[wT];omega
structure Joins (p q:List Nat)(k:Int)(i:Nat)(o:List Int):Prop where
 len:o.length=max p.length i
 val:jl o=(bx p:Nat)+k*(bx (q.take i):Nat)
 rest:∀j,i<=j->gI o j=(gP p j:Nat)
 lim:∀x∈o, -100000000<=x/\x<=100000000
theorem Rs (p:List Nat)(j:Nat):gI (p.map λx:Nat=>(x:Int)) j=(gP p j:Nat):=by
 unfold gI gP;rw[al,al,SI];cases p[j]? <;> rfl
theorem AQ (p q:List Nat)(k:Int)(a:DigP p):Joins p q k 0 (p.map λx:Nat=>(x:Int)):=by
 refine⟨by simp,by rw[oY];simp[bx],λj _=>Rs p j,λx b=>?_⟩;obtain⟨y,hy,rfl⟩:=SL.1 b;have:y<10000:=a y hy;omega
theorem Joins.zero {p:List Nat}{k:Int}(h:Joins p q k i o)(c:o.length<=i):jl (o++[0])=(bx p:Nat)+k*(bx (q.take i):Nat)/\(∀j,i<=j->gI (o++[0]) j=(gP p j:Nat))/\(∀x∈o++[0], -100000000<=x/\x<=100000000):=by
 refine⟨by rw[Gr,h.val],λj a=>?_,λx b=>?_⟩
 .have h1:=h.rest j a;have h2:gI o j=0:=by unfold gI;rw[al,SR om_];rfl
  rw[<- h1,h2];unfold gI;rw[al,Tj om_];cases j-o.length <;> rfl
 rcases SZ.1 b with h1|h1
 .exact h.lim x h1
 simp at h1;subst h1;omega
theorem IP {x:Int}(h:i≠j):gI (o.set i x) j=gI o j:=by
 unfold gI;rw[al,al,VC h]
theorem Fk {p:List Nat}{k:Int}{y:Nat}(d:DigP p)(f:DigP q)(a:-9999<=k/\k<=9999)(b:q[i]?=some y)(g:o.length=max p.length (i+1))
  (h:jl o=(bx p:Nat)+k*(bx (q.take i):Nat)) (c:∀j,i<=j->gI o j=(gP p j:Nat)) (l:∀x∈o, -100000000<=x/\x<=100000000) :
  Joins p q k (i+1) (o.set i (gI o i+k*(y:Nat))):=by
 have n:y<10000:=f y (aK b);have r:gP p i<10000:=IN d i;have s:-99980001<=k*(y:Int)/\k*(y:Int)<=99980001:=by
  have h0:(0:Int)<=y:=by omega
  have h1:k*(y:Int)<=9999*(y:Int):=Vd a.2 h0;have h2:(-9999:Int)*(y:Int)<=k*(y:Int):=Vd a.1 h0;omega
 refine⟨by rw[TB];exact g, ?_,λj t=>?_,λx m=>?_⟩
 .rw[Cc o i _ om_,h,gT b];have e:((bx (q.take i)+BP ^ i*y:Nat):Int)=(bx (q.take i):Nat)+(10000:Int) ^ i*(y:Int):=by
   rw[Vw,Tc,Int.natCast_pow];rfl
  rw[e,V0,show gI o i+k*(y:Int)-gI o i=k*(y:Int) by omega,Int.mul_left_comm];omega
 .rw[IP om_];exact c j om_
 rcases T5 m with h1|h1
 .exact l x h1
 subst h1;rw[c i (SH _)];omega
theorem DK (h:k<p.length):p[k]?=some (gI p k):=by
 unfold gI;rw[al,aj h];rfl
theorem kC (h:BS l)(a:bx l<BP ^ m):l.length<=m:=by
 apply Ti;intro b;have h1:=wj h om_;have h2:BP ^ m<=BP ^ (l.length-1):=Tb dc_ om_;omega
theorem vP (x:Int):(oc x).length=1:=rfl
theorem eC (x:Nat):(aX x).length=1:=rfl
theorem Ju (C:Mem)(v:Value)(p:List Int)(b:p.length=n)(c:0<=jl p)(d:∀x∈p, -1000000000000<=x/\x<=1000000000000)(e:p.length<=100000):Jog.Fn cx.P 235 [v] C [.arr v 3 1 n (p.map oc).flatten] λu a f=>f=[]/\PieC a u (jl p).toNat :=
 Jog.Fn.give (p.map oc) kr_ (by intro r hr;obtain⟨y,_,rfl⟩:=SL.1 hr;rfl) (by rw[ar,b]) (λa _ hs=>Ec a v p hs c d e)
theorem jC (C:Mem)(J K:Value)(p q:List Nat)(k:Int)(X:Sl C 1 J (p.map aX))(f:Sl C 1 K (q.map aX))(L:DigP p)(M:DigP q)(g:-9999<=k/\k<=9999)(Y:0<=(bx p:Int)+k*(bx q:Int))(ao:p.length<=50000)(ap:q.length<=50000) :
  Pur cx.P 175 [J,K,i_ k,i_ 0] C λu D=>PieC D u ((bx p:Int)+k*(bx q:Int)).toNat:=by
 obtain⟨N,c0,rfl,_⟩:=id f;simp only[ar]at f⊢;refine Wy func175 45 U3 λw0=>U0 1 [0,1,2,3] U<|Wu λR b=>Xu [] U12 fl_ λaq=>Wt U6<|D.append (j:=0) U11 X (by rw[S3];intro r hr;obtain⟨y,_,rfl⟩:=SL.1 hr;rfl) (by rw[ar];simp only[Tp,maxLen];omega) (by rw[ar];show(0+p.length)*8<=_;omega) fl_ λZ=>C6 1 [1,2,3,9] b U<|U0 1 [1,2,3,9,10] U<|WK (L':=[.arr Z 3 1 (p.map λx:Nat=>(x:Int)).length (((p.map λx:Nat=>(x:Int)).map oc).flatten)]) (by rw[TH];simp;rfl)<|G.loop (λfr C' d n=>∃(i:Nat)(o:List Int)(w:Value),(i<=q.length/\Joins p q k i o)/\fr=[(1,[],.slice N q.length c0),(2,[],i_ k),(3,[],i_ 0),(9,[],w),(10,[],i_ i)]/\d=[.arr w 3 1 o.length (o.map oc).flatten]/\n=q.length-i) (hn_ [1,2,3,9,10] U) ⟨0,_,_,⟨SM _,AQ p q k L⟩,U,U,U⟩ (λfr au av m _ z=>?_);obtain⟨i,o,w,⟨hi,c⟩,rfl,rfl,rfl⟩:=z;refine U0 4 [1,2,3,9,10,17] U<|G.cd (λA=>?_) λA=>?_
 .have B:i<q.length:=by simpa using A
  have aw:=c.len;refine G.loop (λfr C' d n=>∃(a:List Int)(E:Value),((a=o∨(a=o++[0]/\o.length<=i)))/\fr=[(1,[],.slice N q.length c0),(2,[],i_ k),(3,[],i_ 0),(9,[],E),(10,[],i_ i)]/\d=[.arr E 3 1 a.length (a.map oc).flatten]/\n=i+1-a.length) (hn_ [1,2,3,9,10] U) ⟨o,w,.inl U,U,U,U⟩ (λfr ax az m _ z=>?_);obtain⟨a,E,F,rfl,rfl,rfl⟩:=z;refine YV 0 U (λAw O he=>?_);subst he;have aA:a.length<=50002:=by
   have h1:a.length<=o.length+1:=by
    have h2:=F.imp (λe=>congrArg List.length e) (λe=>congrArg List.length e.1);rw[SP,SN]at h2;omega
   omega
  refine U1 4 U λR b=>WW (((i:Nat):Int)) U4 om_ om_ om_ U2<|C6 1 [1,2,3,9,10,25] b U<|G.cd (λH=>?_) λH=>?_
  .have Q:a.length<=i:=by
    have:(a.length:Int)<=i:=by simpa using H
    omega
   have aa:a=o:=by
    refine F.elim id λh=>?_;have:=h.1 ▸ Q;rw[SP,SN]at this;omega
   subst aa;refine U1 1 U λR b=>WP [oc 0] U12 λaB _ _ ab=>D.append (j:=0) U11 ab U ay (by show(a.length+1)*8<=_;omega) fl_ λS=>C6 1 [1,2,3,9,10] b U<|WK (L':=[.arr S 3 1 (a++[0]).length ((a++[0]).map oc).flatten]) (by simp[oc]) ?_;have aC:i+1-(a++[0]).length<i+1-a.length:=by rw[SP,SN];omega
   refine WF (m':=i+1-(a++[0]).length) om_ mup (hn_ [1,2,3,9,10] U) ⟨a++[0],S,.inr ⟨U,Q⟩,U,U,U⟩
  have I:i<a.length:=by
   have:¬ (a.length:Int)<=i:=by simpa using H
   omega
  have ac:a.length=max p.length (i+1)/\jl a=(bx p:Nat)+k*(bx (q.take i):Nat)/\(∀j,i<=j->gI a j=(gP p j:Nat))/\(∀x∈a, -100000000<=x/\x<=100000000):=by
   refine F.elim (λh=>?_) λh=>?_
   .subst h;exact⟨by omega,c.val,c.rest,c.lim⟩
   let⟨h1,h2⟩:=h;subst h1;have h3:=c.zero h2;exact⟨by rw[SP,SN];omega,h3⟩
  let⟨ad,ae,af,T⟩:=ac;let⟨ag,ai⟩:=jf (l:=q) (k:=i) B;have aD:gP q i<10000:=IN M i;have aE:-99980001<=k*((gP q i:Nat):Int)/\k*((gP q i:Nat):Int)<=99980001:=by
   have h0:(0:Int)<=((gP q i:Nat):Int):=by omega
   have h1:k*((gP q i:Nat):Int)<=9999*((gP q i:Nat):Int):=Vd g.2 h0;have h2:(-9999:Int)*((gP q i:Nat):Int)<=k*((gP q i:Nat):Int):=Vd g.1 h0;omega
  have aF:=T _ (aK (DK I));refine Yw 0 (m:=a.length-1) (v:=.slice Aw a.length O) (t:=3) (s:=1) (xs:=(a.map oc).flatten) (by rw[show a.length-1+1=a.length by omega];rfl) (λg0 cc aj=>?_);injection aj with ak aG al;subst ak al;refine WM [0,1,2,3,4,5,6,7,8,9,10,11,12,13,14] [] U kr_ λR hB b=>Wv 3 U<|WW (((i:Nat):Int)) U4 om_ om_ om_ U2<|WV (i*1) U10 w_ U2<|Xa ah U6 (λ_=>(by rw[da vP (DK I)];rfl)) U2<|Wv 3 U<|WG f.m_ U10 om_ ag fl_ λaH am=>Ws am U8<|Wz _ U U6<|Wz _ U U6<|WV (i*1) U10 w_ U2<|WZ (j:=0) U11 (by show i*1+1<=_;rw[bK vP];omega)<|Ww [1,2,3,9,10] b U<|U1 1 U λR b=>Wz _ U U6<|C6 1 [1,2,3,9,10] b U<|WK (L':=[.arr (s_ g0 a.length O) 3 1 (a.set i (gI a i+k*((gP q i:Nat):Int))).length ((a.set i (gI a i+k*((gP q i:Nat):Int))).map oc).flatten]) (by rw[<- bE vP _ I,TB];rfl)<|WF (m':=q.length-(i+1)) om_ mup (hn_ [1,2,3,9,10] U) ⟨i+1,_,_,⟨by omega,Fk L M g ai ad ae af T⟩,U,U,U⟩
 have B:i=q.length:=by
  have:¬ i<q.length:=by simpa using A
  omega
 have V:jl o=(bx p:Int)+k*(bx q:Int):=by rw[c.val,B,SU]
 refine WQ [(1,3)] U λR b=>Wt U6<|D.call (Ju _ _ o U (by rw[V];exact Y) (λx hx=>by have:=c.lim x hx;omega) (by have:=c.len;omega)) U (.inr dc_) U6 (SQ _) fl_ (λaI _ aJ _ an=>?_);obtain⟨rfl,W⟩:=an;refine C6 1 [8] b U<|Wx U2 ?_;rw[V]at W;exact⟨U,W⟩
theorem MJ (n:Nat):fK ([i_ 0]:List Value) n=((List.replicate n 0).map aX).flatten:=by
 rw[dJ,Vr];rfl
theorem wS (h:j<l.length):bx (l.drop j)=gP l j+BP*bx (l.drop (j+1)):=by
 rw[Tg h,(R0.1 (jf h).2).2];rfl
theorem uD (h:j<l.length):bx ((l.set j x).drop j)=x+BP*bx (l.drop (j+1)):=by
 rw[wS (by rw[TB];exact h),List.drop_set_of_lt om_];congr 1;unfold gP;rw[al,Vq h];rfl
theorem Mb (h:DigP l)(a:x<BP):DigP (l.set j x):=λy hy=>by
 rcases T5 hy with h1|h1
 .exact h y h1
 rw[h1];exact a
theorem Dl (C:Mem)(O Q:Value)(p q:List Nat)(v:Sl C 1 O (p.map aX))(g:Sl C 1 Q (q.map aX))(ai:DigP p)(w:BS q)(i:0<bx q)(aG:p.length<=10000)(aH:q.length<=10000) :
  Pur cx.P 230 [O,Q] C λu D=>∃u1 S,u=.tuple #[u1,S]/\PieC D u1 (bx p / bx q)/\PieC D S (bx p % bx q):=by
 obtain⟨T,c0,rfl,_⟩:=id v;obtain⟨V,W,rfl,_⟩:=id g;simp only[ar]at v g⊢;refine Wy func230 58 U3 λw0=>U0 2 [0,1] U<|U1 2 U λR b=>Xq U9 (SH _) (by show 8*p.length<=281474976710656;omega) y_ fl_ λd=>C6 1 [0,1,6] b U<|U0 1 [0,1,6,7] U<|U1 2 U λR b=>Wz _ U U6<|C6 1 [0,1,6,7,8] b U<|WK (L':=[.arr (qW d p.length p.length) 3 1 p.length ((List.replicate p.length 0).map aX).flatten]) (by rw[<- MJ];rfl)<|G.loop (λfr X e z=>∃(k:Nat)(o l:List Nat)(A:Value),(k<=p.length/\o.length=p.length/\DigP o/\bx (o.drop k)=bx (p.drop k) / bx q/\Sl X 1 A (l.map aX)/\BS l/\bx l=bx (p.drop k) % bx q)/\fr=[(0,[],.slice T p.length c0),(1,[],.slice V q.length W),(6,[],qW d p.length p.length),(7,[],A),(8,[],i_ ((k:Int)-1))]/\e=[.arr (qW d p.length p.length) 3 1 p.length (o.map aX).flatten]/\z=k+1) (hn_ [0,1,6,7,8] U) ⟨p.length,List.replicate p.length 0,[],.slice none 0 0,⟨SH _,Tf,(λx c=>by rw[Uj c];decide),by rw[TZ,VI am];simp[bx],Sl.nil _ _,⟨λx c=>(by cases c),by simp⟩,by rw[TZ];simp[bx]⟩,U,U,U⟩ (λfr aI aJ m _ B=>?_);obtain⟨k,o,l,A,⟨hk,Y,Z,aa,hs,E,F⟩,rfl,rfl,rfl⟩:=B;refine U0 2 [0,1,6,7,8,19] U<|G.cd (λH=>?_) λH=>?_
 .have ab:0<k:=by
   have:(0:Int)<=(k:Int)-1:=by simpa using H
   omega
  obtain⟨j,rfl⟩:∃j,k=j+1:=⟨k-1,by omega⟩;rw[show((j+1:Nat):Int)-1=(j:Int) by omega];let⟨aj,aK⟩:=jf (l:=p) (k:=j) om_;have c:gP p j<BP:=IN ai j;have aL:gP p j<10000:=c;have aM:l.length<=q.length:=kC E (by rw[F];exact UP (Ts _ i) (nF w.1));have ak:DigP (gP p j::l):=λy hy=>by
   rcases SY.1 hy with h|h
   .rw[h];exact c
   exact E.1 y h
  refine WQ [(7,3)] U λR b=>Wv 2 U<|WG v.m_ U10 om_ aj fl_ λaN al=>Ws al U8<|Xu [aX (gP p j)] U12 fl_ λaO=>Wt U6<|D.append (j:=0) U11 hs.m_ (by rw[S3];intro r hr;obtain⟨y,_,rfl⟩:=SL.1 hr;rfl) (by rw[ar];simp only[SN,maxLen];omega) (by rw[ar];show(1+l.length)*8<=_;omega) fl_ λaP=>D.call (vW _ _ (gP p j::l) (n:=1+(l.map aX).length) (by rw[ar];simp;omega)) U (.inr dc_) U6 (SQ _) fl_ (λac an aQ _ ao=>?_);obtain⟨rfl,I⟩:=ao;refine C6 1 [0,1,6,7,8] b U ?_;let⟨r,ad,J,ae,aR⟩:∃r,BS r/\bx r=gP p j+BP*(bx (p.drop (j+1)) % bx q)/\Sl an 1 ac (r.map aX)/\r.length<=20000:=⟨yW (gP p j::l),na ak,by rw[iR];show gP p j+BP*bx l=_;rw[F],I,by unfold yW;rw[S2,S5];omega⟩;have K:=I5 (t:=bx (p.drop (j+1))) (x:=gP p j) i;rw[<- wS om_,<- J]at K;have ap:bx r / bx q<BP:=by rw[J];exact yT i c
  have aS:bx r / bx q<10000:=ap;refine U0 2 [0,1,6,7,8,9,10] U<|G.loop (λfr X e z=>∃(low a:Nat),(low<=bx r / bx q/\bx r / bx q<=a/\a<=9999)/\fr=[(0,[],.slice T p.length c0),(1,[],.slice V q.length W),(6,[],qW d p.length p.length),(7,[],ac),(8,[],i_ j),(9,[],i_ low),(10,[],i_ a)]/\e=[.arr (qW d p.length p.length) 3 1 p.length (o.map aX).flatten]/\z=a-low) (hn_ [0,1,6,7,8,9,10] U) ⟨0,9999,⟨SM _,by omega,SH _⟩,U,U,U⟩ (λfr aT aU m _ B=>?_);obtain⟨low,a,⟨aq,au,av⟩,rfl,rfl,rfl⟩:=B;refine U0 3 [0,1,6,7,8,9,10,32] U<|G.cd (λL=>?_) λL=>?_
  .have s:low<a:=by simpa using L
   let⟨aw,ax⟩:=Pp i aq au s;refine U1 2 U λR b=>Wz _ U U6<|Wz _ U U6<|Xy ((((low+a+1) / 2:Nat):Int)) U6 om_ (by rw[VA om_];omega) f_ U2<|C6 1 [0,1,6,7,8,9,10,11] b U<|U1 3 U λR b=>WT (jC _ _ _ [] q ((((low+a+1) / 2:Nat):Int)) (Sl.nil _ _) g.m_ (λx c=>(by cases c)) w.1 om_ (by rw[<- Tc];omega) am om_) U7 fl_ (λaV _ _ ay=>?_);let⟨l2,az,aA,aB⟩:=ay;have af:bx l2=bx q*((low+a+1) / 2):=by
    have h0:((bx ([]:List Nat):Nat):Int)=0:=rfl;rw[aA,h0,Int.zero_add,<- Tc,UD,Tt]
   refine WD (Dh _ _ _ r l2 ae.m_ aB.m_ ad az) U7<|Ww [0,1,6,7,8,9,10,11,42] b U<|G.cd (λM=>?_) λM=>?_
   .have N:bx r<bx q*((low+a+1) / 2):=by
     rw[<- af];simpa using M
    have f:=aw N;refine U1 1 U λR b=>Wz _ U U6<|C6 1 [0,1,6,7,8,9,10] b U ?_;rw[show((((low+a+1) / 2:Nat):Int))-1=(((low+a+1) / 2-1:Nat):Int) by omega];refine WF (m':=(low+a+1) / 2-1-low) om_ mup (hn_ [0,1,6,7,8,9,10] U) ⟨low,(low+a+1) / 2-1,⟨f.1,f.2,by omega⟩,U,U,U⟩
   have N:¬ bx r<bx q*((low+a+1) / 2):=by
    rw[<- af];simpa using M
   have f:=ax N;refine U0 2 [0,1,6,7,8,9,10] U<|WF (m':=a-(low+a+1) / 2) om_ mup (hn_ [0,1,6,7,8,9,10] U) ⟨(low+a+1) / 2,a,⟨f.1,f.2,av⟩,U,U,U⟩
  have s:low=bx r / bx q:=by
   have:¬ low<a:=by simpa using L
   omega
  have ag:((bx r:Nat):Int) + -(low:Int)*((bx q:Nat):Int)=((bx r % bx q:Nat):Int):=by
   have h1:=Vt (bx r) (bx q);rw[<- s]at h1;have h2:((bx q*low+bx r % bx q:Nat):Int)=(bx r:Nat):=by rw[h1]
   rw[Vw,Tc]at h2;rw[Int.neg_mul,Int.mul_comm (low:Int)];omega
  refine U1 3 U λR b=>WV (j*1) U10 w_ U2<|WZ (j:=0) U11 (by show j*1+1<=_;rw[bK eC];omega)<|Ww [0,1,6,7,8,9] b U<|U1 4 U λR b=>?_;rw[show IntKind.i64.wrap (0-(low:Int))=-(low:Int) by rw[IntKind.wrap_i64];omega];refine WT (jC _ _ _ r q (-(low:Int)) ae.m_ g.m_ ad.1 w.1 om_ (by rw[ag];omega) om_ om_) U7 fl_ (λaW _ _ aC=>?_);let⟨l3,aD,ah,aE⟩:=aC;rw[ag,UD]at ah;refine C6 1 [0,1,6,7,8] b U<|U1 1 U λR b=>Wz _ U U6<|C6 1 [0,1,6,7,8] b U<|WK (L':=[.arr (qW d p.length p.length) 3 1 p.length ((o.set j low).map aX).flatten]) (by rw[<- bE eC _ (by omega:j<o.length)];rfl)<|WF (m':=j+1) om_ mup (hn_ [0,1,6,7,8] U) ⟨j,o.set j low,l3,_,⟨by omega,by rw[TB];exact Y,Mb Z (by show low<BP;omega),by rw[uD om_,aa,K.1,s];omega,aE.mono mup,aD,by rw[ah,K.2,J]⟩,U,U,U⟩
 have ab:k=0:=by
  have:¬ (0:Int)<=(k:Int)-1:=by simpa using H
  omega
 subst ab;refine WQ [(1,3)] U λR b=>Wt U6<|D.call (vW _ _ o Y) U (.inr dc_) U6 (SQ _) fl_ (λaY _ aZ _ aF=>?_);obtain⟨rfl,I⟩:=aF;refine C6 3 [4,5] b U<|WE (zD U3 ?_);exact⟨U,_,_,U,⟨yW o,na Z,by rw[iR,<- TU (l:=o),aa,TU],I⟩,⟨l,E,by rw[F,TU],hs.mono mup⟩⟩
theorem dO (z:Int):cD 45 (txt z)=(bi z.natAbs,decide (z<0)):=by
 unfold txt;split
 .rename_i h;rw[S4 h];rfl
 rename_i h;rw[Te h];unfold cD;rw[aF];intro h0;have h1:=(bB z.natAbs).1.1 45 (List.mem_of_mem_head? h0);revert h1;decide
theorem Cj (z:Int):txt z=[48] ↔ z=0:=by
 constructor
 .intro h;have h1:(cD 45 (txt z)).1=[48]:=by rw[h];rfl
  rw[dO]at h1;have h2:=(bB z.natAbs).2;have h3:bi z.natAbs=[48]:=h1;rw[h3]at h2;have h4:bT [48]=0:=rfl;omega
 rintro rfl;unfold txt;rw[aF om_,show bi (0:Int).natAbs=bi 0 from rfl,bi];rfl
theorem kO (z:Int):((⟨(txt z).toArray⟩:ByteArray).data.toList == (⟨#[48]⟩:ByteArray).data.toList)=decide (z=0):=by
 show(txt z == [48])=_;rw[Rx,Tx];exact Cj z
theorem dh (n:Nat):txt (n:Int)=bi n:=by
 unfold txt;rw[aF om_];rfl
theorem dK (C:Mem)(z:Int):Gives cx.P 172 [ag (txt z)] C (.tuple #[.bool (decide (z<0)),ag (bi z.natAbs)]):=by
 have h:=split_fn C (txt z)
 rwa [dO]at h
theorem Jf {c:UInt8}(h:s[i]?=some c):bT (s.take (i+1))=10*bT (s.take i)+(c.toNat-48):=by
 rw[Jg h];omega
theorem yV (a:∀c∈s,dZ c=true)(d:s.length<=17)(i:Nat):bT (s.take i)<100000000000000000:=by
 have h1:=dG (s:=s.take i) (λc b=>a c (TP b));have h2:10 ^ (s.take i).length<=10 ^ 17:=Tb dc_ (by rw[S2];omega);omega
theorem uJ (C:Mem)(z:Int)(b:(bi z.natAbs).length<=17):Gives cx.P 177 [ag (txt z)] C (.tuple #[i_ z,.bool true]):=by
 let⟨s,k⟩:∃s,bi z.natAbs=s:=⟨_,rfl⟩;have hs:=(bB z.natAbs).1.1;have d:=(bB z.natAbs).2;rw[k]at b hs d;refine Wy func177 45 U3 λw0=>U0 2 [0] U<|U1 1 U λR a=>WC (by have h:=dK C z;rw[k]at h;exact h) U7 fl_<|C6 5 [4,5] a U<|U0 3 [4,5,16] U<|G.cd (λl=>?_) λl=>?_
 .exfalso;have:(s.length:Int) > 19:=by simpa using l
  omega
 refine U0 1 [4,5,6] U<|U0 1 [4,5,6,7] U<|G.loop (λfr w p q=>∃(i:Nat),(i<=s.length)/\fr=[(4,[],.bool (decide (z<0))),(5,[],ag s),(6,[],i_ (-((bT (s.take i):Nat):Int))),(7,[],i_ i)]/\p=[]/\q=s.length-i) (hn_ [4,5,6,7] U) ⟨0,SM _,U,U,U⟩ (λfr x y m _ r=>?_);obtain⟨i,A,rfl,rfl,rfl⟩:=r;refine U0 4 [4,5,6,7,20] U<|G.cd (λe=>?_) λe=>?_
 .have f:i<s.length:=by simpa using e
  let⟨c,g⟩:∃c,s[i]?=some c:=⟨s[i],aj f⟩;have t:=hs c (aK g);have B:48<=c.toNat/\c.toNat<=57:=by simpa [dZ] using t
  have D:=yV hs b i;have u:(-9223372036854775808+(((c.toNat:Nat):Int)-48)).tdiv 10=-((9223372036854775808-(((c.toNat:Nat):Int)-48)) / 10):=by
   rw[show(-9223372036854775808+(((c.toNat:Nat):Int)-48))=-(9223372036854775808-(((c.toNat:Nat):Int)-48)) by omega,Int.neg_tdiv,VA om_]
  refine U1 2 U λR a=>W8 U8 (λ_=>⟨by omega,g⟩) U2<|W7 (c:=((c.toNat:Nat):Int)) U8 f_ fl_<|Wz _ U U6<|C6 1 [4,5,6,7,8] a U<|U1 2 U λR a=>Wz _ U U6<|Xy (-((9223372036854775808-(((c.toNat:Nat):Int)-48)) / 10)) U6 om_ u f_ U2<|C6 1 [4,5,6,7,8,32] a U<|G.cd (λn=>?_) λn=>?_
  .exfalso;simp only[SS]at n;omega
  refine U1 1 U λR a=>Wz _ U U6<|Wt U6<|Wz _ U U6<|C6 1 [4,5,6,7] a U<|U1 1 U λR a=>Wz _ U U6<|C6 1 [4,5,6,7] a U ?_;rw[show 10 * -((bT (s.take i):Nat):Int)-(((c.toNat:Nat):Int)-48)=-((bT (s.take (i+1)):Nat):Int) by rw[Jf g];omega];refine WF (m':=s.length-(i+1)) om_ mup (hn_ [4,5,6,7] U) ⟨i+1,om_,U,U,U⟩
 have f:i=s.length:=by
  have:¬ i<s.length:=by simpa using e
  omega
 rw[f,SU,d];refine U0 2 [6,37] U<|G.cd (λj=>?_) λj=>?_
 .have v:z<0:=by simpa using j
  refine U0 3 [2,3] U<|WE (zD U3 ?_);refine⟨?_,U⟩;rw[show -((z.natAbs:Nat):Int)=z by omega]
 have v:¬ z<0:=by simpa using j
 have E:z.natAbs<100000000000000000:=by
  have:=yV hs b s.length
  rwa [SU,d]at this
 refine U0 3 [6,40] U<|G.cd (λo=>?_) λo=>?_
 .exfalso;simp at o;omega
 refine U0 4 [2,3] U<|WE (zD U3 ?_);refine⟨?_,U⟩;rw[show IntKind.i64.wrap (0 - -((z.natAbs:Nat):Int))=z by rw[IntKind.wrap_i64];omega]
theorem pH (C:Mem)(z:Int):Gives cx.P 171 [ag (txt z)] C (.tuple #[i_ (if (bi z.natAbs).length<=17 then z else 0),.bool (decide ((bi z.natAbs).length<=17))]):=by
 refine Wy func171 18 U3 λw0=>U0 2 [0] U<|U1 1 U λR b=>WD (dK C z) U7<|C6 5 [0,5] b U<|U0 3 [0,13] U<|G.cd (λc=>?_) λc=>?_
 .have a:¬ (bi z.natAbs).length<=17:=by
   have:((bi z.natAbs).length:Int) > 17:=by simpa using c
   omega
  refine U0 2 [2,3] U<|WE (zD U3 ?_);rw[aF a,Te a];exact⟨U,U⟩
 have a:(bi z.natAbs).length<=17:=by
  have:¬ ((bi z.natAbs).length:Int) > 17:=by simpa using c
  omega
 refine U1 1 U λR b=>WD (uJ _ z a) U7<|C6 4 [2,3] b U<|WE (zD U3 ?_);rw[aL a,S4 a];exact⟨U,U⟩
theorem hU (C:Mem)(a:Tabs C)(z:Int)(b:-9223372036854775808<=z)(c:z<=9223372036854775807):Gives cx.P 106 [i_ z] C (ag (txt z)):=by
 exact Wy func106 5 U3 λw0=>U0 1 [0] U<|U1 1 U λR d=>WD (ga _ a z b c) U7<|C6 1 [2] d U<|Wx U2<|⟨U,U⟩
theorem qA (C:Mem)(z:Int):Gives cx.P 165 [ag (txt z)] C (i_ (if z<0 then -1 else if z=0 then 0 else 1)):=by
 refine Wy func165 13 U3 λw0=>U0 1 [0] U<|U1 1 U λR e=>WD (dK C z) U7<|C6 5 [0,3] e U<|U0 1 [0,10] U<|G.cd (λb=>?_) λb=>?_
 .have c:z<0:=by simpa using b
  refine U0 1 [2] U<|Wx U2 ?_;rw[aL c];exact⟨U,U⟩
 have c:¬ z<0:=by simpa using b
 rw[aF c];refine U0 2 [12] U<|G.cd (λa=>?_) λa=>?_
 .rw[kO]at a;have d:z=0:=by simpa using a
  refine U0 1 [2] U<|Wx U2 ?_;rw[aL d];exact⟨U,U⟩
 rw[kO]at a;have d:¬ z=0:=by simpa using a
 refine U0 1 [2] U<|Wx U2 ?_;rw[aF d];exact⟨U,U⟩
theorem nT (C:Mem)(z:Int)(d:(bi z.natAbs).length<=1000000):Gives cx.P 166 [ag (txt z)] C (ag (txt (-z))):=by
 refine Wy func166 18 U3 λw0=>U0 1 [0] U<|U1 1 U λR a=>WD (dK C z) U7<|C6 5 [0,3,4] a U<|U1 4 U λR a=>WX U8<|Ww [4,14] a U<|G.cd (λb=>?_) λb=>?_
 .rw[kO]at b;have c:z<=0:=by simp at b;omega
  refine U0 2 [2] U<|Wx U2<|⟨?_,U⟩;rw[show txt (-z)=bi z.natAbs by rw[show -z=((z.natAbs:Nat):Int) by omega,dh]]
 rw[kO]at b;have c:0<z:=by simp at b;omega
 refine U1 1 U λR a=>Xn U6 (λ_=>(by simp only[S5,Tp];omega)) U2<|C6 1 [2] a U<|Wx U2<|⟨?_,U⟩;rw[show txt (-z)=45::bi z.natAbs by unfold txt;rw[aL om_];congr 2;omega];rfl
theorem uo (C:Mem)(z:Int):Gives cx.P 229 [ag (txt z)] C (ag (bi z.natAbs)):=by
 exact Wy func229 11 U3 λw0=>U0 1 [0] U<|U1 1 U λR a=>WD (dK C z) U7<|C6 5 [4] a U<|U0 2 [2] U<|Wx U2<|⟨U,U⟩
theorem Qd:BP ^ 200=10 ^ 800:=by decide +kernel
theorem eG (h:n<BP ^ 200):(bi n).length<=800:=dV (by rw[<- Qd];exact h) om_
theorem PieC.take {D:Mem}{u:Value}(h:PieC D u n)(a:n<BP ^ 201):∃l,BS l/\bx l=n/\l.length<=201/\Sl D 1 u (l.map aX):=by
 let⟨l,h1,h2,h3⟩:=h;exact⟨l,h1,h2,kC h1 (by rw[h2];exact a),h3⟩
theorem gt (C:Mem)(n:Nat)(h:n<BP ^ 200):Pur cx.P 173 [ag (bi n)] C λu D=>∃l,BS l/\bx l=n/\l.length<=200/\Sl D 1 u (l.map aX) :=
 (N1 C (bi n) (bB n).1.1 (by have:=eG h;omega)).mono λu D _ _ ⟨h0,l,h1,h2,h3⟩=>⟨h0,l,h1,by rw[h2,(bB n).2],kC h1 (by rw[h2,(bB n).2];exact h),h3⟩
theorem Qc:BP ^ 200+BP ^ 200<BP ^ 201:=by decide +kernel
theorem pG (h:(bi z.natAbs).length<=17):z.natAbs<100000000000000000:=by
 have h1:=dG (bB z.natAbs).1.1;rw[(bB z.natAbs).2]at h1;have h2:10 ^ (bi z.natAbs).length<=10 ^ 17:=Tb dc_ h;omega
theorem G2 (h:decide (z<0)=decide (w<0)):sgZ (decide (z<0)) (z.natAbs+w.natAbs)=z+w:=by
 rw[Tx]at h;unfold sgZ;by_cases a:z<0
 .have:=h.1 a;rw[S4 a,aL rfl];omega
 have:¬ w<0:=λh1=>a (h.2 h1);rw[Te a,aF am];omega
theorem Od (h:decide (z<0)≠decide (w<0))(b:z.natAbs<w.natAbs):sgZ (decide (w<0)) (w.natAbs-z.natAbs)=z+w:=by
 rw[ne_eq,Tx]at h;unfold sgZ;by_cases a:w<0
 .have:¬ z<0:=λh1=>h ⟨λ_=>a,λ_=>h1⟩;rw[S4 a,aL rfl];omega
 have:z<0:=Ti λh1=>h ⟨λh2=>absurd h2 h1,λh2=>absurd h2 a⟩;rw[Te a,aF am];omega
theorem G3 (h:decide (z<0)≠decide (w<0))(b:¬ z.natAbs<w.natAbs):sgZ (decide (z<0)) (z.natAbs-w.natAbs)=z+w:=by
 rw[ne_eq,Tx]at h;unfold sgZ;by_cases a:z<0
 .have:¬ w<0:=λh1=>h ⟨λ_=>h1,λ_=>a⟩;rw[S4 a,aL rfl];omega
 have:w<0:=Ti λh1=>h ⟨λh2=>absurd h2 a,λh2=>absurd h2 h1⟩;rw[Te a,aF am];omega
theorem um (C:Mem)(g:Tabs C)(z w:Int)(v:z.natAbs<BP ^ 200)(x:w.natAbs<BP ^ 200):Gives cx.P 110 [ag (txt z),ag (txt w)] C (ag (txt (z+w))):=by
 have B:=Qc;refine Wy func110 70 U3 λw0=>U0 1 [0,1] U<|U1 1 U λR a=>WD (pH C z) U7<|C6 5 [0,1,5,6] a U<|U1 1 U λR a=>WD (pH _ w) U7<|C6 5 [0,1,5,6,7,8] a U<|U1 3 U λR a=>WR U8<|Ww [0,1,5,7,28] a U<|G.cd (λq=>?_) λq=>?_
 .have h:(bi z.natAbs).length<=17/\(bi w.natAbs).length<=17:=by simpa using q
  have D:=pG h.1;have E:=pG h.2;rw[aL h.1,aL h.2];exact U1 2 U λR a=>Wz _ U U6<|WC (hU _ g (z+w) om_ om_) U7 fl_<|C6 1 [4] a U<|Wx U2<|⟨U,U⟩
 refine U1 1 U λR a=>WD (dK _ z) U7<|C6 5 [1,9,10] a U<|U1 1 U λR a=>WD (dK _ w) U7<|C6 5 [9,10,11,12] a U<|U1 1 U λR a=>WY (gt _ z.natAbs v) U7 (λF _ _ y=>?_);let⟨lp,i,H,I,j⟩:=y;refine Wt U6<|WY (gt _ w.natAbs x) U7 (λJ _ _ A=>?_);let⟨b,k,K,L,l⟩:=A;refine C6 2 [9,11,13,14] a U<|U0 4 [9,11,13,14,47] U<|G.cd (λn=>?_) λn=>?_
 .have m:decide (z<0)=decide (w<0):=by simpa using n
  refine U1 3 U λR a=>WT (jC _ _ _ lp b 1 j.m_ l.m_ i.1 k.1 om_ om_ om_ om_) U7 fl_ (λM _ _ r=>?_);rw[show((bx lp:Int)+1*(bx b:Int)).toNat=z.natAbs+w.natAbs by omega]at r;let⟨c,d,e,s,f⟩:=PieC.take r om_;refine WC (nW _ g.m_ (decide (z<0)) _ c f.m_ d.1 om_) U7 fl_<|C6 1 [4] a U<|Wx U2<|⟨?_,U⟩;rw[e,G2 m]
 have m:decide (z<0)≠decide (w<0):=by simpa using n
 refine U1 2 U λR a=>WD (Dh _ _ _ lp b j.m_ l.m_ i k) U7<|C6 1 [9,11,13,14,56] a U<|G.cd (λo=>?_) λo=>?_
 .have p:z.natAbs<w.natAbs:=by
   have:bx lp<bx b:=by simpa using o
   omega
  refine U1 3 U λR a=>WT (jC _ _ _ b lp (-1) l.m_ j.m_ k.1 i.1 om_ om_ om_ om_) U7 fl_ (λN _ _ t=>?_);rw[show((bx b:Int) + -1*(bx lp:Int)).toNat=w.natAbs-z.natAbs by omega]at t;let⟨c,d,e,s,f⟩:=PieC.take t om_;refine WC (nW _ g.m_ (decide (w<0)) _ c f.m_ d.1 om_) U7 fl_<|C6 1 [4] a U<|Wx U2<|⟨?_,U⟩;rw[e,Od m p]
 have p:¬ z.natAbs<w.natAbs:=by
  have:¬ bx lp<bx b:=by simpa using o
  omega
 refine U1 3 U λR a=>WT (jC _ _ _ lp b (-1) j.m_ l.m_ i.1 k.1 om_ om_ om_ om_) U7 fl_ (λO _ _ u=>?_);rw[show((bx lp:Int) + -1*(bx b:Int)).toNat=z.natAbs-w.natAbs by omega]at u;let⟨c,d,e,s,f⟩:=PieC.take u om_;refine WC (nW _ g.m_ (decide (z<0)) _ c f.m_ d.1 om_) U7 fl_<|C6 1 [4] a U<|Wx U2<|⟨?_,U⟩;rw[e,G3 m p]
theorem EF (C:Mem)(b:Tabs C)(z w:Int)(c:z.natAbs<BP ^ 200)(a:w.natAbs<BP ^ 200):Gives cx.P 237 [ag (txt z),ag (txt w)] C (ag (txt (z-w))):=by
 exact Wy func237 9 U3 λw0=>U0 1 [0,1] U<|U1 2 U λR d=>WC (nT _ w (by have:=eG a;omega)) U7 fl_<|WC (um _ b z (-w) c (by rw[VL];exact a)) U7 fl_<|C6 1 [4] d U<|Wx U2<|⟨U,U⟩
theorem sM (C:Mem)(a:Tabs C)(z w:Int)(b:z.natAbs<BP ^ 200)(c:w.natAbs<BP ^ 200):Gives cx.P 180 [ag (txt z),ag (txt w)] C (i_ (if z-w<0 then -1 else if z-w=0 then 0 else 1)):=by
 exact Wy func180 9 U3 λw0=>U0 1 [0,1] U<|U1 2 U λR d=>WD (EF _ a z w b c) U7<|WD (qA _ (z-w)) U7<|C6 1 [4] d U<|Wx U2<|⟨U,U⟩
theorem qq (C:Mem)(n:Nat):Gives cx.P 172 [ag (bi n)] C (.tuple #[.bool false,ag (bi n)]):=by
 have h:=dK C (n:Int);rw[dh,Te om_]at h;exact h
theorem rY (C:Mem)(n:Nat):Gives cx.P 171 [ag (bi n)] C (.tuple #[i_ (if (bi n).length<=17 then (n:Int) else 0),.bool (decide ((bi n).length<=17))]):=by
 have h:=pH C (n:Int);rw[dh]at h;exact h
theorem rZ (h:(bi n).length<=17):n<100000000000000000:=pG (z:=(n:Int)) h
theorem HQ (C:Mem)(a:Tabs C)(n:Nat)(h:n<=9223372036854775807):Gives cx.P 106 [i_ n] C (ag (bi n)):=by
 have h:=hU C a (n:Int) om_ om_
 rwa [dh]at h
theorem vn (C:Mem)(a:Tabs C)(v:Value)(l:List Nat)(b:Sl C 1 v (l.map aX))(c:DigP l)(d:l.length<=100000):Gives cx.P 174 [.bool false,v] C (ag (bi (bx l))):=by
 have h:=nW C a false v l b c d;rw[show sgZ false (bx l)=((bx l:Nat):Int) from rfl,dh]at h;exact h
theorem Sd {q:Nat}(h:q<=9223372036854775807):IntKind.i64.wrap ((q:Nat):Int)=(q:Nat):=by rw[IntKind.wrap_i64];omega
theorem mT (C:Mem)(d:Tabs C)(a b:Nat)(l:a<BP ^ 200)(m:b<BP ^ 200)(e:0<b):Gives cx.P 168 [ag (bi a),ag (bi b)] C (.tuple #[ag (bi (a / b)),ag (bi (a % b))]):=by
 have D:=Qc;refine Wy func168 93 U3 λw0=>U0 2 [0,1] U<|U1 1 U λR c=>WD (rY C a) U7<|C6 5 [0,1,6,7] c U<|U1 1 U λR c=>WD (rY _ b) U7<|C6 5 [0,1,6,7,8,9] c U<|U1 3 U λR c=>WR U8<|Ww [0,1,6,8,31] c U<|G.cd (λf=>?_) λf=>?_
 .have hs:(bi a).length<=17/\(bi b).length<=17:=by simpa using f
  have h1:=rZ hs.1;have h2:=rZ hs.2;rw[aL hs.1,aL hs.2];have h0:=TS a b;refine WM [0,1,2,3,4,5,6,7] [] U kr_ λR E c=>Wv 2 U<|Xy (((a / b:Nat):Int)) U6 om_ (by rw[VA om_];rfl) (Sd om_) U2<|Wv 2 U<|Xz U6 om_ om_ U2<|C6 2 [6,8,10,11] c U<|U0 2 [6,8,10,11,39] U<|G.cd (λg=>?_) λg=>?_
  .exfalso;have h3:=Wd (a:Int) (show(b:Int)≠0 by omega);simp only[SS]at g;omega
  rw[<- Int.natCast_emod];have h3:=TS a b;have h4:=Ts a e;refine U1 1 U λR c=>WC (HQ _ d (a / b) om_) U7 fl_<|Wt U6<|WC (HQ _ d (a % b) om_) U7 fl_<|C6 2 [4,5] c U<|WE (zD U3 ?_);exact⟨U,U⟩
 refine U1 1 U λR c=>WD (qq _ a) U7<|C6 5 [1,12,13] c U<|U1 1 U λR c=>WD (qq _ b) U7<|C6 5 [12,13,14,15] c U<|U1 1 U λR c=>WY (gt _ a l) U7 (λF _ _ n=>?_);let⟨lp,o,p,H,q⟩:=n;refine Wt U6<|WY (gt _ b m) U7 (λI _ _ r=>?_);let⟨s,t,u,J,v⟩:=r;refine WT (Dl _ _ _ lp s q.m_ v.m_ o.1 t om_ om_ om_) U7 fl_ (λK _ _ w=>?_);obtain⟨u1,L,rfl,h,i⟩:=w;rw[p,u]at h i;let⟨l1,x,y,M,z⟩:=PieC.take h (by have:=TS a b;omega);let⟨l2,A,B,N,j⟩:=PieC.take i (by have:=Ts a e;omega);obtain⟨A2,c2,rfl,_⟩:=id j;refine C6 5 [12,14,15,16,17] c U<|U1 5 U λR c=>WR U8<|Ww [12,14,15,16,17,78] c U<|G.cd (λk=>?_) λk=>?_
 .exfalso;simp at k
 refine U1 4 U λR c=>WC (vn _ d.m_ _ l1 z.m_ x.1 om_) U7 fl_<|Wt U6<|WC (vn _ d.m_ _ l2 j.m_ A.1 om_) U7 fl_<|C6 2 [4,5] c U<|WE (zD U3 ?_);rw[y,B];exact⟨U,U⟩
theorem Nw (n:Nat):((⟨(bi n).toArray⟩:ByteArray).data.toList == (⟨#[48]⟩:ByteArray).data.toList)=decide (n=0):=by
 have h:=kO (n:Int);rw[dh]at h;rw[h,Tx];omega
theorem tP (C:Mem)(h:Tabs C)(z w:Int)(i:z.natAbs<BP ^ 200)(j:w.natAbs<BP ^ 200):Gives cx.P 167 [ag (txt z),ag (txt w)] C (ag (bi (Nat.gcd z.natAbs w.natAbs))):=by
 refine Wy func167 22 U3 λw0=>U0 1 [0,1] U<|U1 1 U λR e=>WD (uo _ z) U7<|Wt U6<|WD (uo _ w) U7<|C6 2 [0,1] e U<|G.loop (λfr p k l=>∃(a b:Nat),(a<BP ^ 200/\b<BP ^ 200/\Nat.gcd a b=Nat.gcd z.natAbs w.natAbs)/\fr=[(0,[],ag (bi a)),(1,[],ag (bi b))]/\k=[]/\l=b+1) (hn_ [0,1] U) ⟨z.natAbs,w.natAbs,⟨i,j,U⟩,U,U,U⟩ (λfr q r m _ n=>?_);obtain⟨a,b,⟨o,f,g⟩,rfl,rfl,rfl⟩:=n;refine U0 2 [0,1,12] U<|G.cd (λc=>?_) λc=>?_
 .have d:0<b:=by
   rw[Nw]at c;have:b≠0:=by simpa using c
   omega
  have s:=Ts a d;refine U1 2 U λR e=>WD (mT _ h.m_ a b o f d) U7<|C6 5 [1,6] e U<|U0 4 [0,1] U<|WF (m':=a % b+1) om_ mup (hn_ [0,1] U) ⟨b,a % b,⟨f,by omega,by rw[<- g,Ru a b d]⟩,U,U,U⟩
 have d:b=0:=by
  rw[Nw]at c;simpa using c
 refine U0 2 [4] U<|Wx U2<|⟨?_,U⟩;rw[<- g,d,Vs]
def gn (s:Str):Int:=sgZ (cD 45 s).2 (bT (cD 45 s).1)
theorem zo {t:Str}(h:wK t):t.head?=some 48 ↔ bT t=0:=by
 constructor
 .intro h0;have h1:=h.2.2 h0;cases t with
 |nil=>cases h0
 |cons b t =>
   have a:b=48:=by simpa using h0
   have ht:t=[]:=by cases t with
   |nil=>rfl
   |cons c t=>simp at h1
   subst a ht;rfl
 intro h0;have:=rX h (bB 0).1 (by rw[h0,(bB 0).2]);rw[this,bi];rfl
theorem zm :jL s=true ↔ wK (cD 45 s).1/\((cD 45 s).2=true->0<bT (cD 45 s).1):=by
 let⟨t,neg,d⟩:∃t b,cD 45 s=(t,b):=⟨_,_,rfl⟩;unfold jL;rw[d];simp only[S1,Vg,UB,ne_eq,S3,Bool.and_eq_false_imp,Uo,Up,Tk];constructor
 .rintro ⟨⟨h1,h2⟩,h3⟩;have a:wK t:=⟨h1,h2,λh=>by
   have:=(h3 h).2;have:0<t.length:=Tw.2 h2;omega⟩
  refine⟨a,λc=>?_⟩;rcases TY (bT t) with h|h
  .have:=(h3 ((zo a).2 h)).1;rw[c]at this;cases this
  exact h
 rintro ⟨a,h⟩;refine⟨⟨a.1,a.2.1⟩,λh0=>?_⟩;have h1:=(zo a).1 h0;have h2:=a.2.2 h0;refine⟨?_,by omega⟩;cases c:neg with
|false=>rfl
|true=>have:=h c;omega
theorem I4 (s:Str):s=if (cD 45 s).2 then 45::(cD 45 s).1 else (cD 45 s).1:=by
 unfold cD;split
 .rename_i h;cases s with
 |nil=>cases h
 |cons b s =>
   have a:b=45:=by simpa using h
   subst a;rfl
 rfl
theorem zl (h:jL s=true):s=txt (gn s):=by
 let⟨h1,h2⟩:=zm.1 h;unfold gn;rw[Ck _ _ h2,<- pF h1];exact I4 s
def mg (zn:Int):Option Str->Bool
|none=>true
|some b=>decide (1<gn b) && !(zn == 0) && (Nat.gcd zn.natAbs (gn b).natAbs == 1)
def aS (s:Str):Bool:=bU (ji 47 s).1 && bU ((ji 47 s).2.getD [49]) && mg (gn (ji 47 s).1) (ji 47 s).2
theorem nO :bU s=true ↔ okD (cD 45 s).1=true/\((cD 45 s).2=true->0<bT (cD 45 s).1):=by
 unfold bU;rw[S1,zm,vf,SS];constructor
 .rintro ⟨⟨h1,h2⟩,h3⟩;exact⟨⟨h1,h3⟩,h2⟩
 rintro ⟨⟨h1,h3⟩,h2⟩;exact⟨⟨h1,h2⟩,h3⟩
theorem DZ (s:Str):(gn s).natAbs=bT (cD 45 s).1:=by
 unfold gn sgZ;split <;> omega
theorem xV (h:s.length<=n):(ji 47 s).1.length<=n/\((ji 47 s).2.getD [49]).length<=n+1:=by
 rcases ik 47 s with⟨h1,_⟩|⟨a,post,h1,h2,_⟩
 .rw[h1];exact⟨h,by simp⟩
 have e:=congrArg List.length h2;rw[SP,S5]at e;rw[h1];simp only[T6];omega
theorem xK (h:bU s=true):s=txt (gn s)/\(gn s).natAbs<BP ^ 200:=by
 have h1:=nO.1 h;refine⟨zl (by unfold bU at h;exact(VN.1 h).1), ?_⟩;rw[DZ];have h2:=vf.1 h1.1;have h3:=dG h2.1.1;have h4:∀M,(cD 45 s).1.length<=M->10 ^ (cD 45 s).1.length<=10 ^ M:=λM h=>Tb dc_ h;rw[Qd];exact TL h3 (h4 800 om_)
theorem one_val:([49]:Str)=txt 1:=by
 unfold txt;rw[aF om_,show bi (1:Int).natAbs=bi 1 from rfl,bi];rfl
theorem Q9:(1:Int).natAbs<BP ^ 200:=by decide +kernel
theorem rR (n:Nat):((⟨(bi n).toArray⟩:ByteArray).data.toList == (⟨#[49]⟩:ByteArray).data.toList)=(n == 1):=by
 show(bi n == [49])=_;rw[Rx,Wj,SS,Uo];constructor
 .intro h;have h2:=(bB n).2;rw[h]at h2;exact h2.symm
 rintro rfl;rw[bi];rfl
theorem xM (C:Mem)(o:Tabs C)(s:Str)(u:s.length<=999998):Gives cx.P 112 [ag s] C (.bool (aS s)):=by
 have p:=xV u;let⟨c,d,i⟩:∃a b,ji 47 s=(a,b):=⟨_,_,rfl⟩;have e:aS s=(bU c && bU (d.getD [49]) && mg (gn c) d):=by
  unfold aS;rw[i]
 rw[i]at p;simp only at p;refine Wy func112 34 U3 λw0=>U0 1 [0] U<|U1 1 U λR f=>WC (by have h:=yj C s om_;rw[i]at h;exact h) U7 fl_<|C6 5 [0,3,4] f U<|U1 1 U λR f=>WC (xQ _ c om_) U7 fl_<|Wv 3 U<|WN (λ_=>(xQ _ (d.getD [49]) om_)) U9<|Wt U6<|WX U8<|Ww [0,3,4,17] f U<|G.cd (λk=>?_) λk=>?_
 .have v:aS s=false:=by
   rw[e];cases h1:bU c with
  |false=>rfl
  |true =>
    rw[h1]at k;have h2:bU (d.getD [49])=false:=by simpa using k
    rw[h2];rfl
  exact U0 1 [2] U<|Wx U2<|⟨by rw[v],U⟩
 have hr:bU c=true/\bU (d.getD [49])=true:=by simpa using k
 rw[hr.1,hr.2]at e;let⟨q,r⟩:=xK hr.1;refine U1 1 U λR f=>WD (mM _ s 47) U7<|C6 1 [3,4,20] f U<|G.cd (λl=>?_) λl=>?_
 .have h0:¬ 0<=Lib.indexByte s 47:=by
   have:Lib.indexByte s 47<0:=by simpa using l
   omega
  have m:d=none:=by
   have h:=rT h0;rw[i]at h;exact(V3 h).2
  rw[m]at e;exact U0 1 [2] U<|Wx U2<|⟨by rw[e];rfl,U⟩
 have h0:0<=Lib.indexByte s 47:=by
  have:¬ Lib.indexByte s 47<0:=by simpa using l
  omega
 let⟨b,m⟩:∃b,d=some b:=by
  let⟨E,post,h1,_⟩:=vX h0;rw[i]at h1;exact⟨post,(V3 h1).2⟩
 subst m;let⟨w,x⟩:=xK hr.2;have t:b=txt (gn b):=w;have n:(gn b).natAbs<BP ^ 200:=x;let⟨j,y⟩:∃z,gn c=z:=⟨_,rfl⟩;let⟨g,A⟩:∃z,gn b=z:=⟨_,rfl⟩;unfold mg at e;simp only[y,A]at e q r t n;rw[show ag c=ag (txt j) from congrArg ag q,show ag ((some b).getD [49])=ag (txt g) from congrArg ag t];refine U1 1 U λR f=>WC (by have h:=sM _ o.m_ g 1 n Q9;rw[<- one_val]at h;exact h) U7 fl_<|Wv 4 U<|WR U8<|Wv 3 U<|W5 (λ_=>(tP _ o.m_ j g r n)) U9<|Wt U6<|WR U8<|C6 1 [2] f U<|Wx U2<|⟨?_,U⟩;have B:decide (0<if g-1<0 then (-1:Int) else if g-1=0 then 0 else 1)=decide (1<g):=by
  rw[Tx];split
  .omega
  split <;> omega
 have D:(j == 0)=decide (j=0):=by by_cases h:j=0 <;> simp[h]
 rw[e,B,kO,rR,D];rfl
theorem HH (C:Mem)(s:Str)(d:∀c∈s,dZ c=true)(e:s≠[])(f:s.length<=18):Gives cx.P 251 [ag s,i_ 10,i_ 64] C (.tuple #[.int .u64 (bT s),.nilIface]):=by
 refine Wy func251 26 U3 λw0=>U0 2 [0,1,2] U<|U1 3 U λR a=>WC (HG Tryz.parseU s d e f _ kr_) U7 fl_<|C6 5 [0,1,2,8,9] a U<|U1 1 U λR a=>Yl false U U U U U (.inr ⟨U,U⟩) kr_ U U<|Ww [0,1,2,8,9,18] a U<|G.cd (λb=>?_) λb=>?_
 .cases b
 refine U0 3 [6,7] U<|WE (zD U3 ?_);exact⟨U,U⟩
theorem EL (C:Mem)(i:Nat)(h:i<100):Gives cx.P 313 [i_ i] C (ag (bi i)):=by
 have h1:=Gives.ofCalls (f:=313) (args:=[i_ i]) (P:=cx.P) kr_ (λw=>Any.internal_strconv_small Tryz.small10 i h w) C;rw[dW]at h1;exact h1
theorem Dw (u:Nat):Lib.nDigits u=(bi u).length:=by rw[<- dW,Lib.decDigits_length]
theorem Fu (C:Mem)(l:Tabs C)(u:Nat)(s:u<9223372036854775808):Gives cx.P 298 [.int .u64 u,i_ 10] C (ag (bi u)):=by
 refine Wy func298 32 U3 λw0=>U0 1 [0,1] U<|U0 2 [0,1,10] U<|G.cd (λg=>?_) λg=>?_
 .refine U0 2 [0,12] U<|G.cd (λe=>?_) λe=>?_
  .have h:u<100:=by
    have:(u:Int)<100:=by simpa using e
    omega
   exact U1 1 U λR a=>W7 (c:=(u:Int)) U8 f_ fl_<|WD (EL _ u h) U7<|C6 1 [4] a U<|Wx U2<|⟨U,U⟩
  have h:100<=u:=by
   have:¬ (u:Int)<100:=by simpa using e
   omega
  have t:Lib.nDigits u<=19:=by
   rw[Dw];exact dV om_ om_
  refine Wu λR a=>WI U5 λi=>Ww [0,5] a U<|U1 1 U λR a=>WC (yr Tryz.nDig u om_ om_ _ l.pow.m_ kr_) U7 fl_<|C6 1 [0,5,6] a U<|WQ [(3,3)] U λR a=>Wt U6<|XN 0 (Lib.nDigits u) 24 U12 (λ_=>⟨.inl ⟨U,U⟩,.inr ⟨_,U⟩,.inl ⟨U,U⟩,by omega,by omega,by decide⟩) U2<|Wt U6<|D.call (AW Tryz.fmt10 i 24 u 393 (List.replicate 24 (Value.int .u8 0)) om_ (λj d=>(by rw[T4,aL om_])) om_ _ kr_) U (.inr dc_) U6 (SQ _) fl_ λw _ z _ m=>Ww [5,6] a U ?_;obtain⟨_,rfl,cs,rfl,A,n⟩:=m;refine G.freeze 0 U (λo _ p=>?_);have q:(bi u).length=Lib.nDigits u:=(Dw u).symm;have k:Sl o 1 (s_ i ((bi u).map λb=>[Value.int .u8 b.toNat]).length 24) ((bi u).map λb=>[Value.int .u8 b.toNat]) :=
   Sl.ofBlock p (by intro r hr;obtain⟨y,_,rfl⟩:=SL.1 hr;rfl) (λj v d=>by
    rw[gJ,SI]at d;cases f:(bi u)[j]? with
   |none=>rw[f]at d;cases d
   |some x=>rw[f]at d;cases d;simpa using n j x f) ap (by simp[maxLen])
  rw[ar,q]at k;exact U1 1 U λR a=>XN 0 (Lib.nDigits u) 24 U12 (λ_=>⟨.inl ⟨U,U⟩,.inr ⟨_,U⟩,.inl ⟨U,U⟩,by omega,by omega,by decide⟩) U2<|XP k.m_ U11 fl_<|C6 1 [4] a U<|Wx U2<|⟨U,U⟩
 exact absurd g dc_
theorem Fv (C:Mem)(a:Tabs C)(u:Nat)(b:u<9223372036854775808):Gives cx.P 255 [.int .u64 u,i_ 10] C (ag (bi u)):=by
 exact Wy func255 8 U3 λw0=>U0 1 [0,1] U<|U1 2 U λR c=>WD (Fu _ a.m_ u b) U7<|C6 1 [4] c U<|Wx U2<|⟨U,U⟩
theorem kc (C:Mem)(z:Int)(m:Nat)(d:m<=18):Gives cx.P 188 [ag (txt z),i_ m] C (.tuple #[i_ (if (txt z).length<=m then z else 0),.bool (decide ((txt z).length<=m))]):=by
 refine Wy func188 20 U3 λw0=>U0 2 [0,1] U<|U0 4 [0,11] U<|G.cd (λb=>?_) λb=>?_
 .have a:¬ (txt z).length<=m:=by
   have:(m:Int)<((txt z).length:Int):=by simpa using b
   omega
  refine U0 2 [4,5] U<|WE (zD U3 ?_);exact⟨by rw[aF a,Te a],U⟩
 have a:(txt z).length<=m:=by
  have:¬ (m:Int)<((txt z).length:Int):=by simpa using b
  omega
 refine U1 1 U λR c=>WC (BF Tryz.atoi z om_ _ kr_) U7 fl_<|C6 5 [6,7] c U<|WM [0,1,2,3,4] [] U kr_ λR e c=>Wv 2 U<|Yl true U U U U U (.inl ⟨U,U⟩) kr_ U U<|C6 2 [4,5] c U<|WE (zD U3 ?_);exact⟨by rw[aL a,S4 a],U⟩
abbrev zaa:=λd=>Ent.obj d (.cells ⟨[.bool false,.slice none 0 0]⟩ 273 (0,0))
theorem jy (C:Mem)(z:Int)(v:(bi z.natAbs).length<=1000000):Pur cx.P 189 [ag (txt z)] C λu D=>∃p,u=.agg ⟨[.bool (decide (z<0)),p]⟩/\NineC D p z.natAbs:=by
 let⟨S,i⟩:∃S,bi z.natAbs=S:=⟨_,rfl⟩;have b:=(bB z.natAbs).1;have k:=(bB z.natAbs).2;rw[i]at v b k;refine Wy func189 44 U3 λw0=>Wu λR a=>WI U5 λd=>Ww [0,2] a U<|U1 1 U λR a=>WD (Jl _ (txt z) 45) U7 ?_;rw[dO,i];refine C6 5 [2,3,4] a U<|U1 2 U λR a=>Xs (S.length) (9) U6 om_ (.inl ⟨U,by omega⟩) U2<|WW (((S.length / 9+1:Nat):Int)) U4 om_ om_ om_ U2<|Xq U9 (SM _) (by show 8*(S.length / 9+1)<=281474976710656;omega) y_ fl_ λM=>C6 1 [2,3,4,5] a U ?_;rw[show(ag S:Value)=ag (S.take S.length) by rw[SU]];refine G.loop (λfr N l y=>∃(q j:Nat)(out:List Nat)(w:Value),(q<=S.length/\(q=0∨q+9*j=S.length)/\out.length=j/\j<=S.length/\(q=0∨j<S.length)/\Dig9 out/\bC out=bT (S.drop q))/\fr=[(2,[],p_ d),(3,[],ag (S.take q)),(4,[],.bool (decide (z<0))),(5,[],w)]/\l=[.arr w 285 1 j (out.map cY).flatten,zaa d]/\y=q+1) (hn_ [2,3,4,5] U) ⟨S.length,0,[],_,⟨SH _,by omega,U,SM _,by have:=Tw.2 b.2.1;omega,(λx A=>(by cases A)),by rw[TZ];rfl⟩,U,U,U⟩ (λfr O Q m _ B=>?_);obtain⟨q,j,out,w,⟨T,V,e,W,X,o,f⟩,rfl,rfl,rfl⟩:=B;refine U0 3 [2,3,4,5,21] U<|G.cd (λg=>?_) λg=>?_
 .have E:(⟨(S.take q).toArray⟩:ByteArray).data.toList.length=q:=by
   show(S.take q).length=q;rw[S2];omega
  have F:(S.take q).length=q:=E;have r:0<q:=by
   have h:(0:Int)<(((⟨(S.take q).toArray⟩:ByteArray).data.toList.length:Nat):Int):=by simpa using g
   omega
  have H:(ij S (q-9) q).length<=9/\0<(ij S (q-9) q).length:=by
   unfold ij;rw[UI,S2];omega
  have I:∀c∈ij S (q-9) q,dZ c=true:=λc J=>b.1 c (TP (Vb J));refine U1 2 U λR a=>WW (((q:Int)-9)) U4 om_ om_ om_ U2<|D.max (((q-9:Nat):Int)) U6 om_ U2<|C6 1 [2,3,4,5,6] a U<|U1 2 U λR a=>Xk (q-9) (S.take q).length U9 (λ_=>⟨.inr ⟨_,U⟩,.inl ⟨U,U⟩,.inl ⟨U,U⟩,by omega,SH _,SH _⟩) U2 ?_;rw[show(((S.take q).take (S.take q).length).drop (q-9))=ij S (q-9) q from by rw[SU];rfl];refine WC (HH _ (ij S (q-9) q) I (Tw.1 H.2) om_) U7 fl_<|C6 5 [2,3,4,5,6,7] a U<|WM [0,1,4,5,6,2,3,7,8] [] U kr_ λR Y a=>Wv 4 U<|Xk 0 (q-9) U9 (λ_=>⟨.inl ⟨U,U⟩,.inr ⟨_,U⟩,.inl ⟨U,U⟩,by omega,by omega,SH _⟩) U2<|WP [cY (bT (ij S (q-9) q))] U12 λZ _ _ K=>D.append (j:=0) U11 K U ay (by show(j+1)*8<=_;omega) fl_ λs=>C6 2 [2,3,4,5] a U ?_;rw[show((S.take q).take (q-9)).drop 0=S.take (q-9) from by rw[TU,VD,TJ om_]];refine WK (L':=[.arr s 285 1 (j+1) ((out++[bT (ij S (q-9) q)]).map cY).flatten,zaa d]) (by simp[cY])<|WF (m':=q-9+1) om_ mup (hn_ [2,3,4,5] U) ⟨q-9,j+1,out++[bT (ij S (q-9) q)],s,⟨by omega,by omega,by simp[e],by omega,by omega,o.snoc (Me b.1 om_),ED om_ e om_ f⟩,U,U,U⟩
 have r:q=0:=by
  have F:(S.take q).length=q:=by rw[S2];omega
  have h:¬ (0:Int)<(((S.take q).length:Nat):Int):=by simpa using g
  omega
 subst r;rw[TU,k]at f;refine WQ [(2,3)] U λR a=>Wv 2 U<|D.call (gU _ _ out (n:=j) e) U (.inr dc_) U6 (SQ _) fl_ (λaa _ ab _ L=>?_);obtain⟨rfl,t⟩:=L;obtain⟨Au,cu,rfl,_⟩:=id t;refine WL [.bool (decide (z<0)),_] U8<|WB (j:=0) U12<|Ww [2] a U<|WE (Xi ah U4 ?_);exact⟨U,_,U,Gd out,iT o,by rw[iS,f],t⟩
theorem FG (k:Nat)(s:Str):bT (List.replicate k 48++s)=bT s:=by
 induction k with
|zero=>rfl
|succ k a=>rw[TN,UA,dP,a];simp
theorem OY (h:x<1000000000):nC 9 x=List.replicate (9-(bi x).length) 48++bi x:=by
 let⟨h1,h2,h3⟩:=li 9 x h;let⟨h4,h5⟩:=bB x;have b:(bi x).length<=9:=dV om_ om_;refine Bj h2 (λc a=>?_) (by rw[h1];simp;omega) (by rw[h3,FG,h5]);rcases SZ.1 a with a|a
 .rw[Uj a];rfl
 exact h4.1 c a
def MB (l:List Nat)(j:Nat)(s:Str):Prop:=(j=0/\s=[])∨(0<j/\wK s/\bT s=bC (l.drop (l.length-j))/\0<bT s)
theorem Fj (b:zH l)(d:j<l.length)(h:MB l j s):MB l (j+1) (s++if j=0 then bi (g9 l (l.length-1-j)) else nC 9 (g9 l (l.length-1-j))):=by
 have a:l[l.length-1-j]?=some (g9 l (l.length-1-j)):=yH om_;refine .inr ⟨by omega, ?_⟩;rw[show l.length-(j+1)=l.length-1-j by omega];rcases h with⟨rfl,rfl⟩|⟨h0,h1,h2,h3⟩
 .rw[aL rfl,UM];let⟨h4,h5⟩:=bB (g9 l (l.length-1-0));have c:bC (l.drop (l.length-1-0))=g9 l (l.length-1-0):=by
   rw[Tg om_,show l.length-1-0+1=l.length by omega,TZ];rw[aj om_]at a;rw[Ue a];show _+B9*0=_;omega
  refine⟨h4,by rw[h5,c], ?_⟩;rw[h5];rcases TY (g9 l (l.length-1-0)) with h|h
  .rw[h]at a;exact absurd (by rw[UY];exact a) b.2
  exact h
 rw[aF om_];rw[show l.length-j=l.length-1-j+1 by omega]at h2;exact Ft b.1 a h1 h2 h3
abbrev zab:=λb a c=>Ent.obj b (.cells ⟨[.pointer a,c]⟩ 344 (0,0))
abbrev zac:=λw d s=>Ent.arr w 5 1 (d++s).length (u8s (d++s))
theorem kB (C:Mem)(W:Tabs C)(m:Bool)(v:Value)(n:Nat)(X:NineC C v n)(Y:n<B9 ^ 100000):Gives cx.P 191 [.agg ⟨[.bool m,v]⟩] C (ag (txt (sgZ m n))):=by
 let⟨ls,J,K,ak,hs⟩:=X.get Y;obtain⟨A,c,rfl,_⟩:=id hs;simp only[ar]at hs⊢;refine XQ kr_ func191 U 34 U U λw0=>Wu λR a=>WH U6 λL=>C6 1 [1] a U<|G.freeze 0 U λ_ _ o=>U1 1 U λR a=>Ws (PtrTo.block (Mem.get o mup) _) U8<|C6 2 [1,10] a U<|G.cd (λy=>?_) λy=>?_
 .have M:ls=[]:=by
   have:(ls.length:Int)=0:=by simpa using y
   exact Ty om_
  refine U0 1 [2] U<|WE (XU (M2 U U) ?_ LW);subst M;refine⟨?_,U⟩;rw[<- K,(Cj (sgZ m (bC []))).2 (by cases m <;> rfl)];rfl
 have M:0<ls.length:=by
  have:¬ (ls.length:Int)=0:=by simpa using y
  omega
 let⟨d,g⟩:∃d:Str,(if m then [45] else [])=d:=⟨_,rfl⟩;have al:d.length<=1:=by rw[<- g];split <;> simp
 refine Wu λR a=>WI U5 λb=>Ww [1,3] a U<|G.nilArr 5 1<|G.perm (L':=[.obj b (.cells ⟨[.pointer none,.slice none 0 0]⟩ 344 (0,0)),.arr (.slice none 0 0) 5 1 0 []]) (List.Perm.swap _ _ _)<|U1 1 U λR a=>Ws (PtrTo.block (Mem.get o mup) _) U8<|Ww [1,3,12] a U<|G.cut (λfr Z e z=>∃(q:Option Addr)(w:Value),(q=none∨q=some ⟨b,0,none⟩)/\fr=[(1,[],p_ L),(3,[],p_ b)]/\e=[zab b q w,.arr w 5 1 d.length (u8s d)]) ?_ (λfr _ an z _ f=>?_)
 .refine G.cd (λB=>?_) λB=>?_
  .rw[aL B]at g;subst g;refine WQ [(0,3)] U λR a=>D.call (wM _ b none (.slice none 0 0) [] 45 (.inl U) am) U (.inr dc_) U6 (SQ _) fl_ λao _ aq _ aa=>Ww [1,3] a U ?_;obtain⟨w1,rfl⟩:=aa;refine WJ 0 mup (hn_ [1,3] U) ⟨some ⟨b,0,none⟩,w1,.inr U,U,U⟩
  rw[aF (by rw[B];decide)]at g;subst g;refine WJ 0 mup (hn_ [1,3] U) ⟨none,.slice none 0 0,.inl U,U,U⟩
 obtain⟨q ,w,hq,rfl,rfl⟩:=f;refine U1 1 U λR a=>Ws (PtrTo.block (Mem.get o mup) _) U8<|WY (Eh _ A ls.length c) U7 λau _ _ ab=>Ww [1,3,16] a U ?_;obtain⟨bb,rfl,ac⟩:=ab;refine WK (L':=[zab b q w,.arr w 5 1 (d++[]).length (u8s (d++[]))]) (by rw[S8])<|G.rangeFunc U U U kr_ (ul _ bb _ _ ls ac hs.m_ om_) (λj e=>∃(q:Option Addr)(w:Value)(s:Str),((q=none∨q=some ⟨b,0,none⟩)/\MB ls j s/\s.length<=9*j)/\e=[zab b q w,zac w d s]) ⟨q,w,[],⟨hq,.inl ⟨U,U⟩,by simp⟩,U⟩ U (λ_ _=>rfl) (λu v=>[(1,[],p_ L),(3,[],p_ b),(4,[],u),(5,[],v)]) (λl u v W1 e=>?_) (λl j u v e W1 f E=>?_) (λbD e f=>?_)
 .exact U0 1 [1,3,4,18] U<|U0 1 [1,3,4,5] U<|Yv ⟨U,U,U,U,trivial⟩
 .obtain⟨q,w,s,⟨F,p,N⟩,rfl⟩:=f;have O:j<ls.length:=by have:=(R0.1 E).1;rwa [gi]at this
  rw[wo O]at E;cases E
  have Q:=Fj J O p;let⟨x,H⟩:∃x,g9 ls (ls.length-1-j)=x:=⟨_,rfl⟩;have i:x<B9:=by rw[<- H];exact lB J.1 _
  rw[show ls.getD (ls.length-1-j) 0=x from H];rw[H]at Q;have av:(bi x).length<=9:=dV (by rw[B9v]at i;omega) om_;have ad:=OY (x:=x) (by rw[B9v]at i;exact i);have aw:(nC 9 x).length=9:=(li 9 x (by rw[B9v]at i;omega)).1;refine U1 1 U λR a=>WC (Fv _ W.m_ x (by rw[B9v]at i;omega)) U7 fl_<|C6 1 [1,3,4,6] a U<|U1 2 U λR a=>Ws (PtrTo.block (Mem.get o mup) _) U8<|Wt U6<|Wz _ U U6<|C6 1 [3,6,26] a U<|G.cut (λfr Z e z=>∃(k:Option Addr)(r:Value)(t:Str),((k=none∨k=some ⟨b,0,none⟩)/\t++bi x=d++(s++if j=0 then bi x else nC 9 x)/\t.length<=9*j+10)/\fr=[(3,[],p_ b),(6,[],ag (bi x))]/\e=[zab b k r,.arr r 5 1 t.length (u8s t)]) ?_ (λfr _ ax z _ f=>?_)
  .refine G.cd (λI=>?_) λI=>?_
   .have S:0<j:=by
     have:((ls.length-1-j:Nat):Int)<(ls.length:Int)-1:=by simpa using I
     omega
    refine WQ [(3,3)] U λR a=>Wv 2 U<|Xk (bi x).length 9 U9 (λ_=>⟨.inr ⟨_,U⟩,.inl ⟨U,U⟩,.inl ⟨U,U⟩,by omega,SH _,SH _⟩) U2 ?_;rw[show((([48,48,48,48,48,48,48,48,48]:Str).take 9).drop (bi x).length)=List.replicate (9-(bi x).length) 48 from by rw[show(([48,48,48,48,48,48,48,48,48]:Str).take 9)=List.replicate 9 48 from rfl,List.drop_replicate]];refine D.call (kN _ b q w (d++s) (List.replicate (9-(bi x).length) 48) F ap) U (.inr dc_) U6 (SQ _) fl_ λay _ az _ ae=>Ww [3,6] a U ?_;obtain⟨w1,rfl⟩:=ae;refine WJ 0 mup (hn_ [3,6] U) ⟨some ⟨b,0,none⟩,w1,_,⟨.inr U,by rw[aF om_,ad];simp[],by simp;omega⟩,U,U⟩
   have S:j=0:=by
    have:¬ ((ls.length-1-j:Nat):Int)<(ls.length:Int)-1:=by simpa using I
    omega
   refine WJ 0 mup (hn_ [3,6] U) ⟨q,w,d++s,⟨F,by rw[aL S,Tn],by simp;omega⟩,U,U⟩
  obtain⟨k ,r ,t,⟨af,ah,aA⟩,rfl,rfl⟩:=f;refine WQ [(1,3)] U λR a=>Wt U6<|D.call (kN _ b k r t (bi x) af om_) U (.inr dc_) U6 (SQ _) fl_ λaB _ aC _ ai=>Xp [] trivial (a _ _ _ U ?_);obtain⟨w4,rfl⟩:=ai;rw[ah];exact X7 (R:=λe=>∃(q:Option Addr)(w:Value)(s:Str),((q=none∨q=some ⟨b,0,none⟩)/\MB ls (j+1) s/\s.length<=9*(j+1))/\e=[zab b q w,zac w d s]) (SQ _) ⟨some ⟨b,0,none⟩,w4,_,⟨.inr U,Q,by rw[SP];split <;> omega⟩,U⟩
 obtain⟨q,w,s,⟨F,p,N⟩,rfl⟩:=f;rw[gi]at p;let⟨aD,T,V,aE⟩:0<ls.length/\wK s/\bT s=bC (ls.drop (ls.length-ls.length))/\0<bT s:=p.elim (λh=>by omega) id;rw[VG,TU,K]at V;refine G.perm (L':=[zab b q w,zac w d s,.obj bD (.deferred (some []))]) (pkL [1,1,0] U)<|WQ [(0,3)] U λR a=>D.call (FN _ b q w (d++s) (λh=>T.2.1 (VZ.1 h).2) (by simp;rw[gi]at N;omega)) U (.inr dc_) U6 (SQ _) fl_ λaG _ aH _ aj=>C6 1 [2] a U ?_;obtain⟨rfl,rfl⟩:=aj;refine WE (Yt (M2 U U) ?_);refine⟨?_,U⟩;have es:s=bi n:=by rw[<- V];exact pF T
 rw[Ck m n (λ_=>by omega),es,<- g];cases m <;> rfl
theorem ub (a:0<Q):(x+B9*t) / Q=B9*(t / Q)+(x+B9*(t % Q)) / Q/\(x+B9*t) % Q=(x+B9*(t % Q)) % Q:=by
 have h:x+B9*t=(x+B9*(t % Q))+Q*(B9*(t / Q)):=by
  have h1:=VR t Q;have h2:B9*t=B9*(t % Q)+B9*(Q*(t / Q)):=by rw[<- TT,h1]
  rw[h2,Wp];omega
 rw[h,VM _ _ a,Nat.add_mul_mod_self_left];exact⟨by omega,U⟩
theorem mU (a:0<Q)(b:x<B9):(x+B9*(t % Q)) / Q<B9:=by
 rw[UF a];have h1:=Ts t a;have h2:B9*(t % Q+1)<=B9*Q:=Ua _ h1;rw[TT]at h2;omega
theorem fH (h:j<l.length):bC (l.drop j)=g9 l j+B9*bC (l.drop (j+1)):=by
 rw[Tg h,bC,AV (aj h)]
theorem lU (h:j<l.length):bC ((l.set j x).drop j)=x+B9*bC (l.drop (j+1)):=by
 rw[Tg (by simpa using h),bC,List.getElem_set_self,List.drop_set_of_lt om_]
theorem ua (C:Mem)(va M:Value)(m d:Nat)(ha:NineC C va m)(hm:m<B9 ^ 200000)(F:Sl C 1 M ([d].map cY))(H:0<d)(hd:d<B9) :
  Pur cx.P 227 [va,M] C λu D=>∃q r,u=.tuple #[q,r]/\NineC D q (m / d)/\NineC D r (m % d):=by
 have aa:NineC C M d:=⟨[d],⟨λx o=>(by rw[S6.1 o];exact hd),by simp;omega⟩,by show d+B9*0=d;omega,F⟩;have N:=ha;let⟨a,al,ab,aE,O⟩:=ha.get hm;obtain⟨A0,c0,rfl,_⟩:=id O;obtain⟨B0,d0,rfl,aF⟩:=id F;simp only[ar,SN]at F aa O N⊢;have p:=B9v;refine XQ kr_ func227 U 146 U U λw0=>Wu λR b=>WH U6 λb3=>WI U5 λg=>C6 1 [0,3,4,5] b U<|G.freeze 1 U λ_ _ K=>U1 1 U λR b=>Ws (PtrTo.block (Mem.get K mup) _) U8<|WD (qZ _ N.m_ aa.m_) U7<|C6 1 [0,3,4,5,17] b U<|G.cd (λQ=>?_) λQ=>?_
 .have S:m<d:=by
   have:kg m d<0:=by simpa using Q
   exact jx.1 this
  refine U1 1 U λR b=>WB (j:=0) U12<|C6 1 [4,5] b U<|WE (XU (CV ah U U U U U) ?_ LW);refine⟨U,_,_,U, ?_, ?_⟩
  .rw[UN S];exact NineC.zero _
  rw[Vn S];exact N.mono mup
 have S:d<=m:=by
  have h:¬ kg m d<0:=by simpa using Q
  rw[jx]at h;omega
 let⟨n,hn⟩:∃n,a.length=n:=⟨_,rfl⟩;refine Wu λR b=>Ws (PtrTo.block (Mem.get K mup) _) U8<|C6 2 [0,3,4,5,21] b U<|G.cd (λac=>?_) λac=>?_
 .refine U1 2 U λR b=>Xq U9 (SH _) (by show 8*a.length<=281474976710656;omega) y_ fl_ λf=>WB (j:=1) U12<|Ww [0,3,4] b U<|Wu λR b=>WI U5 λk=>WB (j:=0) U12<|Ww [0,3,4,6] b U<|U1 1 U λR b=>WY (Eh _ A0 a.length c0) U7 λaG _ _ an=>Ww [3,4,6,26] b U ?_;obtain⟨bb,rfl,ao⟩:=an;refine WK (L':=[.obj k (.cells ⟨[.int .u64 ((bC (a.drop (a.length-0)) % d:Nat):Int)]⟩ 285 (0,0)),.obj g (.cells ⟨[qU f a.length a.length]⟩ 271 (0,0)),.arr (qU f a.length a.length) 285 1 a.length ((List.replicate a.length 0).map cY).flatten]) (by rw[<- Gf,VK,TZ,show bC []=0 from U,Nat.zero_mod];rfl)<|G.rangeFunc U U U kr_ (ul _ bb _ _ a ao O.m_ om_) (λj e=>∃(c:List Nat),(c.length=a.length/\Dig9 c/\bC (c.drop (a.length-j))=bC (a.drop (a.length-j)) / d)/\e=[.obj k (.cells ⟨[.int .u64 ((bC (a.drop (a.length-j)) % d:Nat):Int)]⟩ 285 (0,0)),.obj g (.cells ⟨[qU f a.length a.length]⟩ 271 (0,0)),.arr (qU f a.length a.length) 285 1 a.length (c.map cY).flatten]) ⟨List.replicate a.length 0,⟨Tf,(λx o=>by rw[Uj o];decide),by rw[VK,TZ,VI am];simp[bC]⟩,U⟩ U (λ_ _=>rfl) (λu v=>[(3,[],p_ b3),(4,[],p_ g),(6,[],p_ k),(7,[],u),(8,[],v)]) (λl u v W1 e=>?_) (λl j u v e W1 s V=>?_) (λbD e s=>?_)
  .exact U0 1 [3,4,6,7,28] U<|U0 1 [3,4,6,7,8] U<|Yv ⟨U,U,U,U,U,trivial⟩
  .obtain⟨c,⟨I,L,B⟩,rfl⟩:=s;have ap:j<a.length:=by have:=(R0.1 V).1;rwa [gi]at this
   rw[wo ap]at V;cases V
   let⟨i,hi⟩:∃i,a.length-1-j=i:=⟨_,rfl⟩;have ad:a.length-j=i+1:=by omega
   let⟨T,hT⟩:∃T,bC (a.drop (i+1))=T:=⟨_,rfl⟩;have aq:=lB al.1 i;have aH:=Ts T H;have hX:T % d*B9+g9 a i<18446744073709551616:=by
    have:=To B9 (show T % d<=999999999 by omega);rw[p]at this⊢;omega
   rw[hi,ad,hT,show a.getD i 0=g9 a i from rfl];rw[ad,hT]at B;have au:T % d*B9+g9 a i=g9 a i+B9*(T % d):=by rw[Tt,UT]
   have W:=ub (t:=T) (x:=g9 a i) H;have ag:=mU (t:=T) H aq;rw[<- au]at W ag;refine Wu λR b=>WA ah U9<|D.int (((T % d*B9:Nat):Int)) U4 (by rw[show(1000000000:Int)=((B9:Nat):Int) from U,<- Tc,IntKind.wrap_u64];omega) U2<|Wt U6<|D.int (((T % d*B9+g9 a i:Nat):Int)) U4 g_ U2<|WB (j:=0) U12<|Ww [3,4,6,7] b U<|G.cut (λfr X e Y=>(True)/\fr=[]/\e=[.obj k (.cells ⟨[.int .u64 (((T % d*B9+g9 a i) % d:Nat):Int)]⟩ 285 (0,0)),.arr (qU f a.length a.length) 285 1 a.length (aC (c.map cY).flatten [Value.int .u64 (((T % d*B9+g9 a i) / d:Nat):Int)] (i*1)),.obj g (.cells ⟨[qU f a.length a.length]⟩ 271 (0,0))]) ?_ (λfr aI aJ Y aK s=>?_)
   .refine Xt (.cut [0,1,2,3,4,5,6,8,9,10,12] (.alt 7 (.fin [11,13,14]) (.alt 13 (.fin [7,11,14]) .stop))) [] U U kr_ λR p b w=>WA af U9<|Wt U6<|WA ah U9<|Ws (PtrTo.block (Mem.get K mup) _) U8<|WG F.m_ U10 om_ (rfl:([d].map cY)[(0:Int).toNat]?=some (cY d)) fl_ λaL av=>Ws av U8<|Xs (T % d*B9+g9 a i) (d) U6 om_ (.inr ⟨U,by omega⟩) U2<|Ws (PtrTo.block (Mem.get K mup) _) U8<|WG F.m_ U10 om_ (rfl:([d].map cY)[(0:Int).toNat]?=some (cY d)) fl_ λaM aw=>Ws aw U8<|WV (i*1) U10 w_ U2<|Xh w U ⟨?_, ?_,trivial⟩
    .first|refine Xo ah U9 ?_|refine Xo af U9 ?_
     refine Xg (T % d*B9+g9 a i) (d) U6 om_ U2<|WZ (j:=2) U11 (by show i*1+1<=_;rw[bK eO,I];omega)<|WB (j:=1) U12<|Xp [] trivial (b _ _ _ U ?_);clear b p w R;exact WJ 0 l_ (fr':=[]) trivial ⟨trivial,U,U⟩
    refine WZ (j:=2) U11 (by show i*1+1<=_;rw[bK eO,I];omega) ?_
    first|refine Xo ah U9 ?_|refine Xo af U9 ?_
    refine Xg (T % d*B9+g9 a i) (d) U6 om_ U2<|WB (j:=1) U12<|Xp [] trivial (b _ _ _ U ?_);clear b p w R;exact WJ 0 l_ (fr':=[]) trivial ⟨trivial,U,U⟩
   obtain⟨_,rfl,rfl⟩:=s;refine G.perm (L':=[.obj k (.cells ⟨[.int .u64 (((T % d*B9+g9 a i) % d:Nat):Int)]⟩ 285 (0,0)),.obj g (.cells ⟨[qU f a.length a.length]⟩ 271 (0,0)),.arr (qU f a.length a.length) 285 1 a.length (aC (c.map cY).flatten [Value.int .u64 (((T % d*B9+g9 a i) / d:Nat):Int)] (i*1))]) (pkL [0,1,0] U) ?_;have ai:bC (a.drop i)=g9 a i+B9*T:=by rw[fH om_,hT]
   have ax:bC (a.drop (a.length-(j+1))) % d=(T % d*B9+g9 a i) % d:=by rw[show a.length-(j+1)=i by omega,ai,W.2]
   exact WK (L':=[.obj k (.cells ⟨[.int .u64 ((bC (a.drop (a.length-(j+1))) % d:Nat):Int)]⟩ 285 (0,0)),.obj g (.cells ⟨[qU f a.length a.length]⟩ 271 (0,0)),.arr (qU f a.length a.length) 285 1 a.length ((c.set i ((T % d*B9+g9 a i) / d)).map cY).flatten]) (by rw[ax,<- bE eO _ (by omega:i<c.length)];rfl)<|X7 (R:=λe=>∃(c:List Nat),(c.length=a.length/\Dig9 c/\bC (c.drop (a.length-(j+1)))=bC (a.drop (a.length-(j+1))) / d)/\e=[.obj k (.cells ⟨[.int .u64 ((bC (a.drop (a.length-(j+1))) % d:Nat):Int)]⟩ 285 (0,0)),.obj g (.cells ⟨[qU f a.length a.length]⟩ 271 (0,0)),.arr (qU f a.length a.length) 285 1 a.length (c.map cY).flatten]) (SQ _) ⟨c.set i ((T % d*B9+g9 a i) / d),⟨by simp[I],L.set ag,by rw[show a.length-(j+1)=i by omega,ai,lU om_,B,W.1];omega⟩,U⟩
  obtain⟨c,⟨I,L,B⟩,rfl⟩:=s;rw[gi,VG,TU,TU,ab]at B;rw[gi,VG,TU,ab];refine G.freezeArr 3 (c.map cY) rfl rfl (by intro r hr;obtain⟨y,_,rfl⟩:=SL.1 hr;rfl) (by rw[ar,I]) λCq aN aj=>G.cut (λfr X e Y=>∃(E z:Value),(NineC X E (m / d)/\NineC X z (m % d))/\fr=[(4,[],p_ g),(5,[],z)]/\e=[.obj g (.cells ⟨[E]⟩ 271 (0,0)),.obj bD (.deferred (some [])),.obj k (.cells ⟨[.int .u64 ((m % d:Nat):Int)]⟩ 285 (0,0))]) ?_ (λfr aO aP Y aQ s=>?_)
  .refine Xt (.cut [0,2] (.alt 1 (.fin [3,4,5,6]) (.alt 3 (.fin [1,4,5,6]) .stop))) [] U U kr_ λR p b w=>WA ae U9<|WA af U9<|Xh w U ⟨?_, ?_,trivial⟩
   .refine WY (xa _ L aj.m_) U7 λE ay _ A=>WP [cY (m % d)] U12 λaz aA _ Z=>WT (xa _ (l:=[m % d]) (λx o=>by rw[S6.1 o];have:=Ts m H;omega) Z.m_) U7 fl_ (λz aB _ J=>?_);obtain⟨A7,m7,c7,rfl⟩:=A.form;refine WB (j:=2) U12<|Wt U6<|Ww [4,5] b U ?_;clear b p w R;rw[show bC [m % d]=m % d from(by show m % d+B9*0=m % d;omega)]at J;rw[B]at A;exact WJ 0 mup (hn_ [4,5] U) ⟨_,z,⟨A.mono mup,J.mono mup⟩,U,U⟩
   refine WP [cY (m % d)] U12 λaz aA _ Z=>WY (xa _ L aj.m_) U7 λE ay _ A=>WT (xa _ (l:=[m % d]) (λx o=>by rw[S6.1 o];have:=Ts m H;omega) Z.m_) U7 fl_ (λz aB _ J=>?_);obtain⟨A7,m7,c7,rfl⟩:=A.form;refine WB (j:=2) U12<|Wt U6<|Ww [4,5] b U ?_;clear b p w R;rw[show bC [m % d]=m % d from(by show m % d+B9*0=m % d;omega)]at J;rw[B]at A;exact WJ 0 mup (hn_ [4,5] U) ⟨_,z,⟨A.mono mup,J.mono mup⟩,U,U⟩
  obtain⟨E,z,⟨ak,aD⟩,rfl,rfl⟩:=s;refine G.perm (L':=[.obj bD (.deferred (some [])),.obj g (.cells ⟨[E]⟩ 271 (0,0)),.obj k (.cells ⟨[.int .u64 ((m % d:Nat):Int)]⟩ 285 (0,0))]) (pkL [1,0,0] U) ?_;obtain⟨A7,m7,c7,rfl⟩:=ak.form;refine WE (Yt (CV ah U U U U U) ?_);exact⟨U,_,_,U,ak,aD⟩
 exact absurd ac dc_
theorem wU (h:Dig9 l)(a:k<=l.length):bC l / B9 ^ k=bC (l.drop k):=by
 have e:bC l=bC (l.take k)+B9 ^ k*bC (l.drop k):=by
  conv=>lhs;rw[<- TE k l]
  rw[fL,S2,TJ a]
 have h1:=jo (h.take k);rw[S2,TJ a]at h1;rw[e,VM _ _ (Vp dc_),UN h1,TX]
theorem vE {b a:List Nat}(f:zH b)(c:zH a)(j:0<a.length)(m:a.length<=b.length):bC b / bC a<=bC (b.drop (a.length-1)) / g9 a (a.length-1)/\0<g9 a (a.length-1):=by
 have d:bC (a.drop (a.length-1))=g9 a (a.length-1):=by
  rw[fH om_,show a.length-1+1=a.length by omega,TZ];show _+B9*0=_;omega
 have h1:=wU c.1 (k:=a.length-1) om_;have h2:=wU f.1 (k:=a.length-1) om_;have e:0<g9 a (a.length-1):=by
  rcases TY (g9 a (a.length-1)) with h|h
  .have h3:=yH (l:=a) (i:=a.length-1) om_;rw[h]at h3;exact absurd (by rw[UY];exact h3) c.2
  exact h
 refine⟨?_,e⟩;rw[<- h2,<- d,<- h1,Nat.div_div_eq_div_mul];have g:0<B9 ^ (a.length-1):=Vp dc_;rw[d]at h1;refine Nat.div_le_div_left (Nat.mul_div_le _ _) ?_;rw[h1];exact Va g e
theorem DF (h:l.length=k+1):bC (l.drop k)=g9 l k:=by
 rw[fH om_,show k+1=l.length by omega,TZ];show _+B9*0=_;omega
theorem Lw (h:l.length=k+2):bC (l.drop k)=g9 l (k+1)*B9+g9 l k:=by
 rw[fH om_,DF (k:=k+1) om_,Tt];omega
theorem Bz (c:zH a)(d:zH b)(h:bC b<=bC a):b.length<=a.length:=by
 rcases Th a.length b.length with h1|h1
 .have:=vw c.1 d h1;omega
 exact h1
theorem zp (c:zH a)(d:zH b)(h:bC a<B9*bC b):a.length<=b.length+1:=by
 have h2:=jo d.1;refine uj c (TL h ?_);rw[T3,Tt];exact To _ (VU h2)
theorem jW {f:Nat}(a:m<B9 ^ k)(b:f<B9):m*f<B9 ^ (k+1):=by
 rw[T3];exact Ub a b
theorem RJ {a:Nat}(h:x<B9*a)(b:a<B9 ^ k):x<B9 ^ (k+1):=by
 rw[T3,Tt _ B9];exact UP h (Nat.mul_lt_mul_of_pos_left b dc_)
theorem Mz (l:List Nat):(l.map cY).all (λr=>r.all kS)=true:=by
 rw[List.all_map,S3];intro x _;rfl
theorem FE (C:Mem)(va vb:Value)(m n:Nat)(ha:NineC C va m)(hb:NineC C vb n)(hm:m<B9 ^ 100000)(aG:B9<=n) :
  Pur cx.P 227 [va,vb] C λu D=>∃q r,u=.tuple #[q,r]/\NineC D q (m / n)/\NineC D r (m % n):=by
 have aH:0<n:=TL dc_ aG;have ad:=ha;have ae:=hb;let⟨B,Q,bF,ag⟩:=hb;obtain⟨A0,a0,c0,rfl⟩:=ha.form;obtain⟨B0,d0,rfl,a2,bG,_⟩:=id ag;simp only[ar]at ag ae a2⊢;have bH:=mx_
 have S:=B9v;have bI:2<=B.length:=by
  rcases Th B.length 2 with h|h
  .have h2:=jo Q.1;have h3:B9 ^ B.length<=B9 ^ 1:=Tb dc_ om_;rw[Nat.pow_one]at h3;omega
  exact h
 refine XQ kr_ func227 U 146 U U λw0=>Wu λR a=>WH U6 λb3=>WI U5 λe=>C6 1 [0,3,4,5] a U<|U1 1 U λR a=>?_
 skip
 refine WA af U9<|WD (qZ _ ad.m_ ae.m_) U7<|C6 1 [0,3,4,5,17] a U<|G.cd (λai=>?_) λai=>?_
 .have V:m<n:=by
   have:kg m n<0:=by simpa using ai
   exact jx.1 this
  refine U1 1 U λR a=>WB (j:=0) U12<|C6 1 [4,5] a U<|WE (XU (CV ah U U U U U) ?_ LW);refine⟨U,_,_,U, ?_, ?_⟩
  .rw[UN V];exact NineC.zero _
  rw[Vn V];exact ad.mono mup
 have V:n<=m:=by
  have h:¬ kg m n<0:=by simpa using ai
  rw[jx]at h;omega
 refine Wu λR a=>WA af U9<|C6 2 [0,3,4,5,21] a U<|G.cd (λaI=>?_) λaI=>?_
 .exact absurd aI ap
 have bJ:=lB Q.1 (B.length-1);have a3:(B.map cY)[((B.length:Int)-1).toNat]?=some (cY (g9 B (B.length-1))):=by
  rw[show((B.length:Int)-1).toNat=B.length-1 by omega];exact jF om_
 let⟨f,hf⟩:∃f,B9 / (g9 B (B.length-1)+1)=f:=⟨_,rfl⟩;refine Wu λR a=>WA af U9<|WA af U9<|Wt U6<|Wz _ U U6<|WG ag.m_ U10 om_ a3 fl_ λbL a4=>Ws a4 U8<|D.int (((g9 B (B.length-1)+1:Nat):Int)) U4 g_ U2<|Xs (B9) (g9 B (B.length-1)+1) U6 om_ (.inr ⟨U,by omega⟩) U2<|C6 1 [0,3,4,5,9] a U ?_;clear a R;rw[hf];have w:0<f:=by rw[<- hf];exact Nat.div_pos om_ om_
 have o:f<B9:=by
  rw[<- hf];have h1:=(vE Q Q om_ (SH _)).2;exact Nat.div_lt_self dc_ om_
 have y:n<B9 ^ 100000:=TD V hm;refine WM [0,1,3,4,2,5,6,7] [] U kr_ λR S a=>Wv 2 U<|WA af U9<|Wt U6<|WT (zY (k:=100000) _ ad.m_ hm o om_) U7 fl_ λbM _ _ a5=>WT (zY (k:=100000) _ ae.m_ y o om_) U7 fl_ λbN _ a6 aJ=>Wt U6 ?_;obtain⟨a7,bO,a8,rfl⟩:=aJ.form;refine WB (j:=1) U12<|Ww [0,3,4,5,9] a U ?_;clear a S R;have aK:=a5.mono a6;have aL:=aJ;refine G.freeze 0 U (λC3 aM v=>?_);let⟨P,a9,aj,bP,ak⟩:=(aK.mono aM).get (jW hm o);let⟨W,p,z,bQ,Y⟩:=(aL.mono aM).get (jW y o);obtain⟨PA,pc,rfl,_⟩:=id ak;let⟨bR,bS,ba,_⟩:=id Y;cases ba
 simp only[ar]at ak Y v aK aL⊢;have al:NineC C3 (.slice a7 W.length a8) (n*f):=⟨W,p,z,Y⟩;have A:0<n*f:=Va aH w;have an:n*f<B9 ^ 100001:=dM (k:=100001) (n:=100000+1) (jW (k:=100000) y o) (SH _);have bT:2<=W.length:=by
  have h1:B9<=bC W:=by rw[z];exact SV aG (Vk _ w)
  rcases Th W.length 2 with h|h
  .have h2:=jo p.1;have h3:B9 ^ W.length<=B9 ^ 1:=Tb dc_ om_;rw[Nat.pow_one]at h3;omega
  exact h
 have bU:1<=P.length:=by
  rcases TY P.length with h|h
  .have:P=[]:=Ty h;subst this;have h1:m*f=0:=by rw[<- aj];rfl
   have h2:0<m*f:=Va om_ w;omega
  exact h
 have bb:=(vE p p om_ (SH _)).2;have bV:=lB p.1 (W.length-1);refine U1 2 U λR a=>Xq U9 (SH _) (by show 8*P.length<=281474976710656;omega) y_ fl_ λd=>WB (j:=1) U12<|Ww [0,3,4,5,9] a U<|Wu λR a=>Ws (PtrTo.block (Mem.get v mup) _) U8<|Ws (PtrTo.block (Mem.get v mup) _) U8<|Wt U6<|Wz _ U U6<|WG Y.m_ U10 om_ (by rw[show((W.length:Int)-1).toNat=W.length-1 by omega];exact jF om_:(W.map cY)[((W.length:Int)-1).toNat]?=some (cY (g9 W (W.length-1)))) fl_ λbW bc=>Ws bc U8<|C6 1 [0,3,4,5,9,10] a U<|U1 2 U λR a=>Wz _ U U6<|C6 1 [0,3,4,5,9,10,11] a U<|WK (L':=[.obj e (.cells ⟨[qU d P.length P.length]⟩ 271 (0,0)),.arr (qU d P.length P.length) 285 1 P.length ((List.replicate P.length 0).map cY).flatten]) (by rw[<- Gf];rfl)<|G.loop (λfr Z g E=>∃(i:Nat)(c:List Nat)(v5:Value),(i<=P.length/\c.length=P.length/\Dig9 c/\bC (c.drop i)=bC (P.drop i) / (n*f)/\NineC Z v5 (bC (P.drop i) % (n*f))/\∀j,j<i->g9 c j=0)/\fr=[(0,[],.slice PA P.length pc),(3,[],p_ b3),(4,[],p_ e),(5,[],v5),(9,[],.int .u64 f),(10,[],.int .u64 (g9 W (W.length-1))),(11,[],i_ ((i:Int)-1))]/\g=[.obj e (.cells ⟨[qU d P.length P.length]⟩ 271 (0,0)),.arr (qU d P.length P.length) 285 1 P.length (c.map cY).flatten]/\E=i+1) (hn_ [0,3,4,5,9,10,11] U) ⟨P.length,List.replicate P.length 0,_,⟨SH _,Tf,(λx hx=>by rw[Uj hx];decide),by rw[TZ,VI am];simp[bC],by rw[TZ,show bC []=0 from U,Nat.zero_mod];exact NineC.zero _,λj _=>DL _ j⟩,U,U,U⟩ (λfr bX bY m _ F=>?_);obtain⟨i,c,v5,⟨hi,aa,ao,H,ab,aq⟩,rfl,rfl,rfl⟩:=F;refine U0 2 [0,3,4,5,9,10,11,78] U<|G.cd (λau=>?_) λau=>?_
 .have aN:0<i:=by
   have:(0:Int)<=(i:Int)-1:=by simpa using au
   omega
  obtain⟨j,rfl⟩:∃j,i=j+1:=⟨i-1,by omega⟩;let⟨T,hT⟩:∃T,bC (P.drop (j+1))=T:=⟨_,rfl⟩;rw[hT]at H ab;have aO:=Ts T A;let⟨I,bd,be,bZ,aP⟩:=ab.get (m:=100001) (UP aO (dM (k:=100001) (n:=100000+1) (jW (k:=100000) y o) (SH _)));let⟨RA,rc,aQ,_⟩:=id aP;rw[ar]at aQ;subst aQ;let⟨X,hX⟩:∃X,g9 P j+B9*(T % (n*f))=X:=⟨_,rfl⟩;have aR:=lB a9.1 j;have bf:bC (g9 P j::I)=X:=by rw[bC,be,hX]
  have J:=ub (t:=T) (x:=g9 P j) A;have bg:=mU (t:=T) A aR;rw[hX]at J bg;have ac:bC (P.drop j)=g9 P j+B9*T:=by rw[fH om_,hT]
  refine WQ [(7,3)] U λR a=>Wv 2 U<|WG ak.m_ U10 om_ (by rw[show((((j+1:Nat):Int)-1)).toNat=j by omega];exact jF om_:(P.map cY)[((((j+1:Nat):Int)-1)).toNat]?=some (cY (g9 P j))) fl_ λb0 bh=>Ws bh U8<|Xu [cY (g9 P j)] U12 fl_ λb1=>Wt U6<|D.append (j:=0) U11 aP.m_ (Mz I) (by simp only[ar,SN,maxLen];omega) (by simp only[ar,SN];omega) fl_ λb2=>D.call (gU _ _ (g9 P j::I) (n:=1+(I.map cY).length) (by rw[ar];simp;omega)) U (.inr dc_) U6 (SQ _) fl_ λbi bj b5 _ bk=>C6 1 [0,3,4,5,9,10,11] a U ?_;clear a R;obtain⟨rfl,hu⟩:=bk;have K:NineC bj bi X:=⟨Gd (g9 P j::I),iT (λx hx=>(SY.1 hx).elim (λh=>by rw[h];exact aR) (bd.1 x)),by rw[iS,bf],hu⟩;have aS:X<B9*(n*f):=by
   have h1:B9*(T % (n*f)+1)<=B9*(n*f):=Ua _ aO;rw[TT]at h1;omega
  have aT:X<B9 ^ 100002:=dM (k:=100002) (n:=100001+1) (RJ (k:=100001) aS an) (SH _);let⟨b,L,av,b6,aw⟩:=K.get aT;let⟨XA,xc,aU,_⟩:=id aw;rw[ar]at aU;subst aU;refine U1 1 U λR a=>Ws (PtrTo.block (Mem.get v mup) _) U8<|WD (qZ _ K.m_ al.m_) U7<|C6 1 [0,3,4,5,9,10,11,92] a U<|G.cd (λax=>?_) λax=>?_
  .have aV:X<n*f:=by
    have:kg X (n*f)<0:=by simpa using ax
    exact jx.1 this
   refine U1 1 U λR a=>Wz _ U U6<|C6 1 [0,3,4,5,9,10,11] a U ?_;clear a R;rw[show((j+1:Nat):Int)-1-1=(j:Int)-1 by omega];refine WF (m':=j+1) om_ mup (hn_ [0,3,4,5,9,10,11] U) ⟨j,c,_,⟨by omega,aa,ao,by rw[fH (l:=c) om_,aq j om_,H,ac,J.1,UN aV];omega,by rw[ac,J.2,Vn aV];exact K.mono mup,λj' h=>aq j' om_⟩,U,U,U⟩
  have bl:n*f<=X:=by
   have h:¬ kg X (n*f)<0:=by simpa using ax
   rw[jx]at h;omega
  have bm:=Bz L p (by rw[av,z];exact bl);have b7:=zp L p (by rw[av,z];exact aS);have ay:=(vE L p om_ bm).1;let⟨s,az⟩:∃s,bC (b.drop (W.length-1))=s:=⟨_,rfl⟩;rw[av,z,az]at ay;have b8:=lB L.1 (b.length-1);have b9:=lB L.1 (b.length-2);refine U1 3 U λR a=>Wz _ U U6<|WG aw.m_ U10 om_ (by rw[show((b.length:Int)-1).toNat=b.length-1 by omega];exact jF om_:(b.map cY)[((b.length:Int)-1).toNat]?=some (cY (g9 b (b.length-1)))) fl_ λca bn=>Ws bn U8<|C6 1 [0,3,4,5,9,10,11,12] a U<|U1 2 U λR a=>Ws (PtrTo.block (Mem.get v mup) _) U8<|C6 2 [0,3,4,5,9,10,11,12,103] a U<|G.cut (λfr Z g E=>(s<1000000000000000000)/\fr=[(0,[],.slice PA P.length pc),(3,[],p_ b3),(4,[],p_ e),(5,[],.slice XA b.length xc),(9,[],.int .u64 f),(10,[],.int .u64 (g9 W (W.length-1))),(11,[],i_ (((j+1:Nat):Int)-1)),(12,[],.int .u64 (s:Nat))]/\g=[.obj e (.cells ⟨[qU d P.length P.length]⟩ 271 (0,0)),.arr (qU d P.length P.length) 285 1 P.length (c.map cY).flatten]) ?_ (λfr _ cb E _ F=>?_)
  .refine G.cd (λaA=>?_) λaA=>?_
   .have bo:b.length=W.length-1+2:=by
     have:(W.length:Int)<(b.length:Int):=by simpa using aA
     omega
    have M:=Lw bo;rw[az,show W.length-1+1=b.length-1 by omega,show W.length-1=b.length-2 by omega]at M;have bp:g9 b (b.length-1)*B9<=999999999*B9:=To _ om_;rw[show 999999999*B9=999999999000000000 from rfl]at bp;refine U1 1 U λR a=>D.int (((g9 b (b.length-1)*B9:Nat):Int)) U4 (by rw[show(1000000000:Int)=((B9:Nat):Int) from U,<- Tc,IntKind.wrap_u64];omega) U2<|Wv 3 U<|Wz _ U U6<|WG aw.m_ U10 om_ (by rw[show((b.length:Int)-2).toNat=b.length-2 by omega];exact jF om_:(b.map cY)[((b.length:Int)-2).toNat]?=some (cY (g9 b (b.length-2)))) fl_ λcc bq=>Ws bq U8<|D.int (((s:Nat):Int)) U4 (by rw[M,IntKind.wrap_u64];omega) U2<|C6 1 [0,3,4,5,9,10,11,12] a U ?_;clear a R;refine WJ 0 mup (hn_ [0,3,4,5,9,10,11,12] U) ⟨by omega,U,U⟩
   have br:b.length=W.length-1+1:=by
    have:¬ (W.length:Int)<(b.length:Int):=by simpa using aA
    omega
   have M:=DF br;rw[az,show W.length-1=b.length-1 by omega]at M;rw[<- M];refine WJ 0 mup (hn_ [0,3,4,5,9,10,11,12] U) ⟨by omega,U,U⟩
  obtain⟨ce,rfl,rfl⟩:=F;let⟨N,aB⟩:∃N,s / g9 W (W.length-1)=N:=⟨_,rfl⟩;rw[aB]at ay;have cf:N<=s:=by rw[<- aB];exact TS _ _
  refine U1 2 U λR a=>Xs (s) (g9 W (W.length-1)) U6 bb (.inr ⟨U,by omega⟩) U2 ?_;rw[aB];refine D.min (((min N 999999999:Nat):Int)) U6 om_ U2<|C6 1 [0,3,4,5,9,10,11,12] a U<|Wu λR a=>Ws (PtrTo.block (Mem.get v mup) _) U8<|Wt U6<|WT (zY (k:=100001) _ al.m_ an om_ om_) U7 fl_ λbs _ _ bt=>C6 1 [0,3,4,5,9,10,11,12,13] a U<|G.loop (λfr Z g E=>∃(dd:Nat)(aD:Value),(X / (n*f)<=dd/\dd<B9/\NineC Z aD (n*f*dd))/\fr=[(0,[],.slice PA P.length pc),(3,[],p_ b3),(4,[],p_ e),(5,[],.slice XA b.length xc),(9,[],.int .u64 f),(10,[],.int .u64 (g9 W (W.length-1))),(11,[],i_ (((j+1:Nat):Int)-1)),(12,[],.int .u64 (dd:Nat)),(13,[],aD)]/\g=[.obj e (.cells ⟨[qU d P.length P.length]⟩ 271 (0,0)),.arr (qU d P.length P.length) 285 1 P.length (c.map cY).flatten]/\E=dd+1) (hn_ [0,3,4,5,9,10,11,12,13] U) ⟨min N 999999999,bs,⟨by have h:=Nat.le_min.2 ⟨ay,(by omega:X / (n*f)<=999999999)⟩;exact h,by omega,bt.mono mup⟩,U,U,U⟩ (λfr cg ch m _ F=>?_);obtain⟨dd,aD,⟨bu,aW,aE⟩,rfl,rfl,rfl⟩:=F;refine U1 2 U λR a=>WD (qZ _ aE.m_ K.m_) U7<|C6 1 [0,3,4,5,9,10,11,12,13,123] a U<|G.cd (λaF=>?_) λaF=>?_
  .have O:X<n*f*dd:=by
    have:0<kg (n*f*dd) X:=by simpa using aF
    exact HK.1 this
   have bv:1<=dd:=by
    rcases TY dd with h|h
    .rw[h]at O;omega
    exact h
   refine U1 1 U λR a=>Ws (PtrTo.block (Mem.get v mup) _) U8<|WT (vm (k:=100002) _ aE.m_ al.m_ (dM (k:=100002) (n:=100001+1) (jW (k:=100001) an aW) (SH _)) (Vk _ bv) om_) U7 fl_ λbw _ _ aX=>C6 1 [0,3,4,5,9,10,11,12,13] a U<|U1 1 U λR a=>D.int (((dd-1:Nat):Int)) U4 g_ U2<|C6 1 [0,3,4,5,9,10,11,12,13] a U ?_;clear a R;rw[show n*f*dd-n*f=n*f*(dd-1) from by rw[Nat.mul_sub,T0]]at aX;refine WF (m':=dd-1+1) om_ mup (hn_ [0,3,4,5,9,10,11,12,13] U) ⟨dd-1,bw,⟨by have h:=(UF A).2 (by rw[Tt];exact O);omega,by omega,aX.mono mup⟩,U,U,U⟩
  have O:n*f*dd<=X:=by
   have h:¬ 0<kg (n*f*dd) X:=by simpa using aF
   rw[HK]at h;omega
  have aY:dd=X / (n*f):=Nat.le_antisymm ((Nat.le_div_iff_mul_le A).2 (by rw[Tt];exact O)) bu;have bx:X-n*f*dd=X % (n*f):=by rw[aY];have:=VR X (n*f);omega
  refine WM [0,1,2,3,4,5,6,7,8] [] U kr_ λR S a=>WA ah U9<|Wv 4 U<|WT (vm (k:=100002) _ K.m_ aE.m_ aT O om_) U7 fl_ λbz _ _ aZ=>WV (j*1) U10 (λ_=>⟨by omega,by omega,(by rw[show(((j+1:Nat):Int)-1).toNat=j by omega])⟩) U2<|WZ (j:=1) U11 (by show j*1+1<=_;rw[bK eO,aa];omega)<|Wt U6<|Ww [0,3,4,5,9,10,11] a U<|U1 1 U λR a=>Wz _ U U6<|C6 1 [0,3,4,5,9,10,11] a U ?_;clear a R;rw[show((j+1:Nat):Int)-1-1=(j:Int)-1 by omega];refine G.perm (L':=[.obj e (.cells ⟨[qU d P.length P.length]⟩ 271 (0,0)),.arr (qU d P.length P.length) 285 1 P.length (aC (c.map cY).flatten (cY dd) (j*1))]) (List.Perm.swap _ _ _)<|WK (L':=[.obj e (.cells ⟨[qU d P.length P.length]⟩ 271 (0,0)),.arr (qU d P.length P.length) 285 1 P.length ((c.set j dd).map cY).flatten]) (by rw[<- bE eO _ (by omega:j<c.length)]) ?_;rw[bx]at aZ;refine WF (m':=j+1) om_ mup (hn_ [0,3,4,5,9,10,11] U) ⟨j,c.set j dd,bz,⟨by omega,by simp[aa],ao.set aW,by rw[lU om_,H,ac,J.1,aY];omega,by rw[ac,J.2];exact aZ.mono mup,λj' h=>by rw[rF om_];exact aq j' om_⟩,U,U,U⟩
 have aN:i=0:=by
  have:¬ (0:Int)<=(i:Int)-1:=by simpa using au
  omega
 subst aN;rw[TU,TU,aj,Nat.mul_div_mul_right _ _ w]at H;rw[TU,aj,Nat.mul_mod_mul_right]at ab;refine U1 2 U λR a=>WP [cY f] U12 (λci _ _ bA=>?_);refine WT (ua _ _ _ (m % n*f) f ab.m_ (by
  have h1:=jW (k:=100000) (UP (Ts m aH) y) o;exact dM (k:=200000) (n:=100000+1) h1 dc_) bA.m_ w o) U7 fl_ (λcj _ _ bB=>?_)
 obtain⟨q2,r2,rfl,a1,ck⟩:=bB;rw[Nat.mul_div_cancel _ w]at a1;refine C6 4 [4,5] a U<|G.perm (L':=[.arr (qU d P.length P.length) 285 1 P.length (c.map cY).flatten,.obj e (.cells ⟨[qU d P.length P.length]⟩ 271 (0,0))]) (List.Perm.swap _ _ _)<|WQ [(1,3)] U λR a=>WA af U9<|D.call (gU _ _ c aa) U (.inr dc_) U6 (SQ _) fl_ λcl _ cm _ bD=>Wt U6 ?_;obtain⟨rfl,hu⟩:=bD;obtain⟨Au,cu,rfl,_⟩:=id hu;refine WB (j:=0) U12<|C6 1 [4,5] a U<|WE (XU (CV ah U U U U U) ?_ LW);exact⟨U,_,_,U,⟨Gd c,iT ao,by rw[iS,H],hu⟩,a1.mono mup⟩
theorem yS (C:Mem)(a b:Value)(m n:Nat)(g:NineC C a m)(h:NineC C b n)(i:m<B9 ^ 100000)(f:0<n) :
  Pur cx.P 227 [a,b] C λu D=>∃q r,u=.tuple #[q,r]/\NineC D q (m / n)/\NineC D r (m % n):=by
 rcases Th n B9 with c|c
 .let⟨l,h1,h2,h3,h4⟩:=h.get (m:=1) (by rw[Nat.pow_one];exact c);have j:l≠[]:=λe=>by rw[e]at h2;rw[<- h2]at f;exact absurd f dc_
  obtain⟨d,rfl⟩:∃d,l=[d]:=by
   cases l with
  |nil=>exact absurd rfl j
  |cons d l=>cases l with
   |nil=>exact⟨d,rfl⟩
   |cons e l=>simp at h3
  have hd:d=n:=by rw[<- h2];show d=d+B9*0;omega
  subst hd;exact ua C a b m d g (dM (k:=200000) (n:=100000) i dc_) h4 f c
 exact FE C a b m n g h i c
theorem LI (C:Mem)(s:Str)(c:UInt8):Gives cx.P 250 [ag s,ag [c]] C (.bool (cD c s).2):=by
 exact Wy func250 8 U3 λw0=>U0 1 [0,1] U<|U1 2 U λR a=>WD (AT _ s c) U7<|C6 1 [4] a U<|Wx U2<|⟨U,U⟩
theorem Gx (C:Mem)(s:Str)(c:UInt8):Gives cx.P 277 [ag s,ag [c]] C (ag (cD c s).1):=by
 refine Wy func277 13 U3 λw0=>U0 1 [0,1] U<|U1 2 U λR d=>WD (AT _ s c) U7<|Ww [0,1,7] d U<|G.cd (λa=>?_) λa=>?_
 .have h:s.head?=some c:=Ti λh=>by unfold cD at a;rw[aF h]at a;cases a
  have e:1<=s.length:=by cases s with
  |nil=>cases h
  |cons b s=>simp
  refine U1 3 U λR d=>Xk 1 s.length U9 (λ_=>⟨.inr ⟨_,U⟩,.inl ⟨U,U⟩,.inl ⟨U,U⟩,by omega,SH _,SH _⟩) U2<|C6 1 [4] d U<|Wx U2 ?_;unfold cD;rw[aL h];refine⟨?_,U⟩;rw[SU,List.drop_one];rfl
 have h:¬ s.head?=some c:=λh=>by unfold cD at a;rw[aL h]at a;cases a
 refine U0 2 [4] U<|Wx U2 ?_;unfold cD;rw[aF h];exact⟨U,U⟩
theorem Cl (C:Mem)(s:Str)(c:UInt8):Gives cx.P 225 [ag s,ag [c]] C (ag (cD c s).1):=by
 exact Wy func225 8 U3 λw0=>U0 1 [0,1] U<|U1 2 U λR a=>WD (Gx _ s c) U7<|C6 1 [4] a U<|Wx U2<|⟨U,U⟩
def eA (z:Int):Int:=if z<0 then -1 else if z=0 then 0 else 1
theorem mK (C:Mem)(z:Int):Gives cx.P 186 [ag (txt z)] C (i_ (eA z)):=by
 refine Wy func186 9 U3 λw0=>U0 1 [0] U ?_
 skip
 refine U0 3 [0,3] U<|G.cd (λh3=>?_) λh3=>?_
 .have b:z=0:=by
   have h:=kO z;rw[h]at h3;exact aT h3
  exact U0 1 [2] U<|Wx U2<|⟨by rw[b];rfl,U⟩
 have b:z≠0:=by
  have h:=kO z;rw[h]at h3;exact SJ h3
 refine U1 1 U λR d=>WD (LI _ (txt z) 45) U7<|C6 1 [6] d U<|G.cd (λa=>?_) λa=>?_
 .have c:z<0:=by
   rw[dO]at a;exact aT a
  exact U0 1 [2] U<|Wx U2<|⟨by rw[eA,aL c],U⟩
 have c:¬ z<0:=by
  rw[dO]at a;exact SJ a
 exact U0 1 [2] U<|Wx U2<|⟨by rw[eA,aF c,aF b],U⟩
theorem tJ (C:Mem)(a:Tabs C)(z:Int)(b:-9223372036854775808<=z)(c:z<=9223372036854775807):Gives cx.P 185 [i_ z] C (ag (txt z)):=by
 exact Wy func185 5 U3 λw0=>U0 1 [0] U<|U1 1 U λR d=>WD (ga _ a.m_ z b c) U7<|C6 1 [2] d U<|Wx U2<|⟨U,U⟩
theorem jp (z:Int):(txt z).length<=(bi z.natAbs).length+1:=by unfold txt;split <;> simp
theorem vz (C:Mem)(z:Int)(e:(bi z.natAbs).length<=1000000):Gives cx.P 133 [ag (txt z)] C (ag (txt (-z))):=by
 have f:=jp z;refine Wy func133 14 U3 λw0=>U0 1 [0] U<|U1 1 U λR a=>WD (mK _ z) U7<|Ww [0,4] a U<|U0 2 [0,4,5] U<|G.cd (λh5=>?_) λh5=>?_
 .have d:0<z:=by
   have h:eA z=1:=by simpa using h5
   unfold eA at h;split at h
   .cases h
   split at h
   .cases h
   omega
  refine U1 1 U λR a=>Xn U6 (λ_=>(by simp only[S5,Tp];omega)) U2<|C6 1 [2] a U<|Wx U2<|⟨?_,U⟩;unfold txt;rw[aF om_,aL om_,VL];rfl
 have d:¬ 0<z:=λh=>by
  have h2:eA z=1:=by unfold eA;rw[aF om_,aF om_]
  rw[h2]at h5;cases h5
 refine U0 2 [0,9] U<|G.cd (λb=>?_) λb=>?_
 .have c:z<0:=by
   have h:eA z=-1:=by simpa using b
   unfold eA at h;split at h
   .assumption
   split at h <;> cases h
  refine U1 1 U λR a=>Xk 1 (txt z).length U9 (λ_=>⟨.inr ⟨_,U⟩,.inl ⟨U,U⟩,.inl ⟨U,U⟩,(by unfold txt;rw[aL c];simp),SH _,SH _⟩) U2<|C6 1 [2] a U<|Wx U2<|⟨?_,U⟩;rw[SU];unfold txt;rw[aL c,aF om_,VL];rfl
 have c:¬ z<0:=λh=>by
  have h2:eA z=-1:=by unfold eA;rw[aL h]
  rw[h2]at b;cases b
 refine U0 2 [2] U<|Wx U2<|⟨?_,U⟩;rw[show z=0 by omega];rfl
theorem Jo:∀{s t:Str},(∀c∈s,dZ c=true)->(∀c∈t,dZ c=true)->s.length=t.length->Lib.compareBytes s t=kg (bT s) (bT t)
|[],[],_,_,_=>rfl
|[],_::_,_,_,h=>by simp at h
|_::_,[],_,_,h=>by simp at h
|c::s,d::t,hs,ht,j=>by
  have e:s.length=t.length:=by simpa using j
  have g:∀x∈s,dZ x=true:=λx f=>hs x (by simp[f]);have i:∀x∈t,dZ x=true:=λx f=>ht x (by simp[f]);have k:=Jo g i e;have h1:=dG g;have h2:=dG i;have l:=hs c am;have hd:=ht d am;simp only[dZ,SS]at l hd;rw[dP,dP,e];rw[e]at h1;simp only[Lib.compareBytes];let⟨p,hp⟩:∃p,10 ^ t.length=p:=⟨_,rfl⟩;rw[hp]at h1 h2⊢;by_cases a:c<d
  .rw[aL a];have n:c.toNat<d.toNat:=a;have h3:(c.toNat-48+1)*p<=(d.toNat-48)*p:=To _ om_;rw[Ug]at h3;unfold kg;rw[aL om_]
  rw[aF a];by_cases b:d<c
  .rw[aL b];have o:d.toNat<c.toNat:=b;have h3:(d.toNat-48+1)*p<=(c.toNat-48)*p:=To _ om_;rw[Ug]at h3;unfold kg;rw[aF om_,aL om_]
  rw[aF b,k];have m:c.toNat=d.toNat:=by
   have h3:¬ c.toNat<d.toNat:=a;have h4:¬ d.toNat<c.toNat:=b;omega
  rw[m];unfold kg;split <;> rename_i h5
  .rw[aL om_]
  split <;> rename_i q
  .rw[aF om_,aL om_]
  rw[aF om_,aF om_]
theorem rP {a b:Nat}(h:(bi a).length<(bi b).length):a<b:=by
 let⟨h1,h2⟩:=bB a;let⟨h3,h4⟩:=bB b;have c:=Tw.2 h1.2.1;have h5:=dG h1.1;have d:=pE h3 om_;have e:10 ^ (bi a).length<=10 ^ ((bi b).length-1):=Tb dc_ om_;omega
theorem PN {a b:Nat}(h:(bi a).length=(bi b).length):Lib.compareBytes (bi a) (bi b)=kg a b:=by
 let⟨h1,h2⟩:=bB a;let⟨h3,h4⟩:=bB b;rw[Jo h1.1 h3.1 h,h2,h4]
def wI (z w:Int):Int:=if z<w then -1 else if w<z then 1 else 0
theorem eE (z:Int):(z<0/\eA z=-1)∨(z=0/\eA z=0)∨(0<z/\eA z=1):=by
 unfold eA;split
 .exact .inl ⟨by assumption,U⟩
 split
 .exact .inr (.inl ⟨by assumption,U⟩)
 exact .inr (.inr ⟨by omega,U⟩)
theorem Bt (h:eA z=eA w):wI z w=eA z*kg z.natAbs w.natAbs:=by
 have a:=eE w;rw[<- h]at a;unfold wI kg;rcases eE z with⟨h1,h2⟩|⟨h1,h2⟩|⟨h1,h2⟩ <;> rw[h2]at a⊢
 .have h3:w<0:=by omega
  split <;> split <;> (try split) <;> omega
 .have h3:w=0:=by omega
  subst h1 h3;simp
 have h3:0<w:=by omega
 split <;> split <;> (try split) <;> omega
theorem KB (z:Int):IntKind.i64.wrap (-(eA z))=-(eA z):=by
 rcases eE z with⟨h1,h2⟩|⟨h1,h2⟩|⟨h1,h2⟩ <;> rw[h2] <;> rfl
theorem GM (C:Mem)(a b:Str):Gives cx.P 226 [ag a,ag b] C (i_ (Lib.compareBytes a b)):=Ai Tryz.scmp a b C kr_
theorem rC (C:Mem)(z w:Int)(_m:(bi z.natAbs).length<=1000000)(_n:(bi w.natAbs).length<=1000000):Gives cx.P 161 [ag (txt z),ag (txt w)] C (i_ (wI z w)):=by
 have ez:(cD 45 (txt z)).1=bi z.natAbs:=by rw[dO]
 have j:(cD 45 (txt w)).1=bi w.natAbs:=by rw[dO]
 refine Wy func161 41 U3 λw0=>U0 1 [0,1] U<|U1 1 U λR b=>WD (mK _ z) U7<|Wt U6<|WD (mK _ w) U7<|C6 2 [0,1,5,6] b U<|U0 3 [0,1,5,6,15] U<|G.cd (λc=>?_) λc=>?_
 .have k:eA z≠eA w:=by simpa using c
  refine U0 3 [18] U<|G.cd (λd=>?_) λd=>?_
  .have a:eA z<eA w:=by simpa using d
   refine U0 1 [4] U<|Wx U2<|⟨?_,U⟩;rw[wI,aL (by unfold eA at a;split at a <;> split at a <;> (try split at a) <;> omega)]
  have a:¬ eA z<eA w:=by simpa using d
  refine U0 1 [4] U<|Wx U2<|⟨?_,U⟩;have h:w<z:=by
   have h2:eA w<eA z:=by omega
   unfold eA at h2;split at h2 <;> split at h2 <;> (try split at h2) <;> omega
  rw[wI,aF om_,aL h]
 have f:eA z=eA w:=by simpa using c
 refine U1 1 U λR b=>WD (Cl _ (txt z) 45) U7<|Wt U6<|WD (Cl _ (txt w) 45) U7 ?_;rw[ez,j];refine C6 2 [5,7,8] b U<|U0 5 [5,7,8,27] U<|G.cd (λg=>?_) λg=>?_
 .have k:(bi z.natAbs).length≠(bi w.natAbs).length:=λe=>by
   have h:(((bi z.natAbs).length:Nat):Int)≠(((bi w.natAbs).length:Nat):Int):=by simpa using g
   exact h (by rw[e])
  refine U0 5 [5,32] U<|G.cd (λi=>?_) λi=>?_
  .have a:z.natAbs<w.natAbs:=rP (by
    have h:(((bi z.natAbs).length:Nat):Int)<(((bi w.natAbs).length:Nat):Int):=by simpa using i
    omega)
   refine U0 3 [4] U<|Wx U2<|⟨?_,U⟩;rw[Int.zero_sub,KB,Bt f,show kg z.natAbs w.natAbs=-1 from aL a];congr 1;omega
  have a:w.natAbs<z.natAbs:=rP (by
   have h:¬ (((bi z.natAbs).length:Nat):Int)<(((bi w.natAbs).length:Nat):Int):=by simpa using i
   omega)
  refine U0 2 [4] U<|Wx U2<|⟨?_,U⟩;rw[Bt f,show kg z.natAbs w.natAbs=1 from by unfold kg;rw[aF om_,aL a]];congr 1;omega
 have l:(bi z.natAbs).length=(bi w.natAbs).length:=by
  have h:(((bi z.natAbs).length:Nat):Int)=(((bi w.natAbs).length:Nat):Int):=by simpa using g
  omega
 refine U1 3 U λR b=>WD (GM _ (bi z.natAbs) (bi w.natAbs)) U7 ?_;rw[PN l];refine WW ((wI z w)) U4 (by rw[Bt f]) (by unfold wI;split <;> (try split) <;> omega) (by unfold wI;split <;> (try split) <;> omega) U2 ?_
 exact C6 1 [4] b U<|Wx U2<|⟨U,U⟩
def ot (b:Bool):Int:=if b then 0 else 2
theorem yE (C:Mem)(s:Str):Gives cx.P 160 [ag s] C (i_ (ot (bU s))):=by
 let⟨t,neg,p⟩:∃t b,cD 45 s=(t,b):=⟨_,_,rfl⟩;have g:bU s=(t.all dZ && !(t == []) && !(t.head? == some 48 && (neg || decide (1<t.length))) && decide (t.length<=200)):=by unfold bU jL;rw[p]
 refine Wy func160 47 U3 λw0=>U0 1 [0] U<|U1 1 U λR a=>WC (by have h:=Jl C s 45;rw[p]at h;exact h) U7 fl_<|C6 5 [3,4] a U<|U1 6 U λR a=>WX U8<|Wv 2 U<|W8 (b:=t.headD 0) U8 (λr=>⟨by omega,(by
  cases t with
 |nil=>exact Bool.noConfusion (show true=false from r.1)
 |cons b t=>rfl)⟩) U2 ?_
 refine Wv 7 U<|WX U8<|WR U8<|WX U8<|Ww [3,30] a U<|G.cd (λd=>?_) λd=>?_
 .have j:bU s=false:=by
   rw[g];cases t with
  |nil=>simp
  |cons b t =>
    simp at d;rcases d with h|⟨h,h2⟩
    .simp;intro _ _;omega
    have e:b=48:=VQ.1 (by show b.toNat=48;omega);subst e;have u:(neg || decide (1<((48:UInt8)::t).length))=true:=by
     rcases h2 with h2|h2
     .rw[S4 ap];simp
     rw[h2];rfl
    rw[u];simp
  exact U0 1 [2] U<|Wx U2<|⟨by rw[j];rfl,U⟩
 have v:t.length<=200:=by
  simp at d;omega
 refine U0 3 [3,32,33] U<|G.loop (λfr E w y=>∃(i:Nat),(i<=t.length/\∀c∈t.take i,dZ c=true)/\fr=[(3,[],ag t),(32,[],i_ t.length),(33,[],i_ i)]/\w=[]/\y=t.length-i) (hn_ [3,32,33] U) ⟨0,⟨SM _,by simp⟩,U,U,U⟩ (λfr F H m _ z=>?_);obtain⟨i,⟨I,k⟩,rfl,rfl,rfl⟩:=z;refine U0 1 [3,32,33,34] U<|G.cd (λl=>?_) λl=>?_
 .have n:i<t.length:=by simpa using l
  let⟨c,f⟩:∃c,t[i]?=some c:=⟨t[i],aj n⟩;refine U0 2 [3,5,32,33] U<|U1 2 U λR a=>W8 U8 (λ_=>⟨by omega,f⟩) U2<|Wv 4 U<|W8 U8 (λ_=>⟨by omega,f⟩) U2<|Wt U6<|WX U8<|Ww [3,32,33,45] a U<|G.cd (λo=>?_) λo=>?_
  .have j:bU s=false:=by
    have h1:t.all dZ=false:=by
     rw[Vi];refine⟨c,aK f, ?_⟩;simp at o;unfold dZ;simp;omega
    rw[g,h1];rfl
   exact U0 1 [2] U<|Wx U2<|⟨by rw[j];rfl,U⟩
  have A:dZ c=true:=by
   simp at o;unfold dZ;simp;omega
  refine Wu λR a=>Wz _ U U6<|C6 1 [3,32,33] a U<|WF (m':=t.length-(i+1)) om_ mup (hn_ [3,32,33] U) ⟨i+1,⟨by omega,λx q=>by
   rw[S9,f]at q;rcases SZ.1 q with h|h
   .exact k x h
   simp at h;subst h;exact A⟩,rfl,rfl,rfl⟩
 have n:t.length<=i:=by
  have:¬ i<t.length:=by simpa using l
  omega
 rw[Td n]at k;have B:t.all dZ=true:=S3.2 k;have D:bU s=true:=by
  rw[g,B,S4 v];cases t with
 |nil=>simp at d
 |cons b t =>
   simp at d;simp;by_cases e:b=48
   .subst e;have h5:=d.2;simp at h5;exact .inr ⟨h5.2,Ty om_⟩
   exact .inl e
 exact U0 1 [2] U<|Wx U2<|⟨by rw[D];rfl,U⟩
end Go.Proofs.YtfjcldheldflbaaGreatDoor
