import Derived.Test.YtfjcldheldflbaaGreatDoorG5
set_option maxHeartbeats 4000000
namespace Go.Proofs.YtfjcldheldflbaaGreatDoor
open Go.Proofs.Tryz
open Go Go.Jog
set_option maxRecDepth 100000
variable {Q:Nat}{a b:List Nat}{i j k:Nat}{l:List Nat}{m n:Nat}{o p:List Int}{q:List Nat}{s:Str}{t:Nat}{w:Int}{x:Nat}{z:Int}
def gI (p:List Int)(i:Nat):Int:=p.getD i 0
theorem IF (h:k<p.length):(p.map nU)[k]?=some (nU (gI p k))/\p[k]?=some (gI p k):=by
 have e:p[k]?=some (gI p k):=by
  unfold gI;rw[ak,ah h];rfl
 exact⟨by rw[Sh,e];rfl,e⟩
theorem tL (h:p.length<=k):gI p k=0:=by
 unfold gI;rw[ak,Sq h];rfl
theorem NI (p:List Int)(k:Nat):jg (p.take (k+1))=jg (p.take k)+(10000:Int) ^ k*gI p k:=by
 rcases SP k p.length with h|h
 .exact Gi (IF h).2
 rw[tL h,SL h,SL om_];simp
theorem Hf (o:Int):(o-o % 10000).tdiv 10000=(o-o % 10000) / 10000:=Int.tdiv_eq_ediv_of_dvd (Int.dvd_of_emod_eq_zero om_)
theorem D3 (C:Mem)(v:Value)(p:List Int)(g:Sl C 1 v (p.map nU))(H:0<=jg p)(I:∀x∈p, -1000000000000<=x/\x<=1000000000000)(O:p.length<=100000):Pur cx.P 235 [v] C λu D=>PieC D u (jg p).toNat:=by
 obtain⟨k,c0,rfl,_⟩:=id g;simp only[au]at g⊢;refine V7 func235 43 U3 λw0=>U0 1 [0] U<|U0 1 [0,3] U<|U0 1 [0,3,4] U<|U0 1 [0,3,4,5] U<|G.nilArr 3 1<|G.loop (λfr B b c=>∃(i:Nat)(o:Int)(out:List Nat)(w:Value),(out.length=i/\DigP out/\-1000000000000<=o/\o<=1000000000000/\jg (p.take i)=(bq out:Nat)+(10000:Int) ^ i*o/\(p.length<=i->(i:Int)+o<=1000000100000))/\fr=[(0,[],.slice k p.length c0),(3,[],w),(4,[],i_ o),(5,[],i_ i)]/\b=[.arr w 3 1 i (out.map aW).flatten]/\c=(p.length-i)*4611686018427387904+o.natAbs) (hn_ [0,3,4,5] U) ⟨0,0,[],_,⟨U,(λx J=>(by cases J)),by omega,by omega,by simp[jg,bq],λh=>by omega⟩,U,U,U⟩ (λfr Q S m _ d=>?_);obtain⟨i,o,out,w,⟨e,l,T,W,n,E⟩,rfl,rfl,rfl⟩:=d;have q:p.length<=i->0<=o:=λh=>by
  refine KW e l (V:=jg p) H ?_;rw[<- n,SL h]
 have X:(i:Int)<=1000000100000:=by
  rcases SP i p.length with h|h
  .omega
  have:=q h;have:=E h;omega
 refine U1 7 U λR a=>Wy U8<|V5 [0,3,4,5,14] a U<|G.cd (λr=>?_) λr=>?_
 .have s:i<p.length∨o≠0:=by
   simp at r;omega
  have Y:-1000000000000<=gI p i/\gI p i<=1000000000000:=by
   rcases SP i p.length with h|h
   .exact I _ (aJ (IF h).2)
   rw[tL h];omega
  refine U0 4 [0,3,4,5,20] U<|G.cut (λfr B b c=>(True)/\fr=[(0,[],.slice k p.length c0),(3,[],w),(4,[],i_ (o+gI p i)),(5,[],i_ i)]/\b=[.arr w 3 1 i (out.map aW).flatten]) ?_ (λfr _ Z c _ d=>?_)
  .refine G.cd (λt=>?_) λt=>?_
   .have f:i<p.length:=by simpa using t
    refine U1 3 U λR a=>Wf g.m_ U10 om_ (IF f).1 fl_ λaa K=>V1 K U8<|V8 _ U U6<|C6 1 [0,3,4,5] a U<|Wj 0 l_ (hn_ [0,3,4,5] U) ⟨trivial,U,U⟩
   have f:p.length<=i:=by
    have:¬ i<p.length:=by simpa using t
    omega
   rw[show o=o+gI p i by rw[tL f,Int.add_zero]];refine Wj 0 l_ (hn_ [0,3,4,5] U) ⟨trivial,by rw[tL f];simp,U⟩
  obtain⟨_,rfl,rfl⟩:=d;refine U1 1 U λR a=>Yr (Int.tmod (o+gI p i) 10000) U U U U U U om_ U U U<|C6 1 [0,3,4,5,6] a U ?_;have y:=KD (o+gI p i);have ab:-10000<=Int.tmod (o+gI p i) 10000/\Int.tmod (o+gI p i) 10000<10000:=by
   have:=VM (o+gI p i) (show(10000:Int)≠0 by decide);have:=Int.emod_lt_of_pos (o+gI p i) (show(0:Int)<10000 by decide);split at y <;> omega
  refine U0 2 [0,3,4,5,6,30] U<|G.cut (λfr B b c=>(True)/\fr=[(0,[],.slice k p.length c0),(3,[],w),(4,[],i_ (o+gI p i)),(5,[],i_ i),(6,[],i_ (((o+gI p i) % 10000).toNat:Nat))]/\b=[.arr w 3 1 i (out.map aW).flatten]) ?_ (λfr _ ac c _ d=>?_)
  .refine G.cd (λz=>?_) λz=>?_
   .have A:Int.tmod (o+gI p i) 10000<0:=by simpa using z
    rw[aK A]at y;refine U1 1 U λR a=>Wx (((((o+gI p i) % 10000).toNat:Nat):Int)) U4 om_ om_ om_ U2<|C6 1 [0,3,4,5,6] a U<|Wj 0 l_ (hn_ [0,3,4,5,6] U) ⟨trivial,U,U⟩
   have A:¬ Int.tmod (o+gI p i) 10000<0:=by simpa using z
   rw[aF A]at y;rw[show Int.tmod (o+gI p i) 10000=((((o+gI p i) % 10000).toNat:Nat):Int) by omega];refine Wj 0 l_ (hn_ [0,3,4,5,6] U) ⟨trivial,U,U⟩
  obtain⟨_,rfl,rfl⟩:=d;refine U1 2 U λR a=>Wq [aW (((o+gI p i) % 10000).toNat)] U12 λad _ _ L=>D.append (j:=0) U11 L U ax (by show(i+1)*8<=_;omega) fl_ λF=>C6 1 [0,3,4,5,6] a U<|U1 2 U λR a=>Wx ((o+gI p i-(o+gI p i) % 10000)) U4 om_ om_ om_ U2<|W8 ((o+gI p i-(o+gI p i) % 10000) / 10000) U6 om_ (Hf _) f_ U2<|C6 1 [0,3,4,5] a U<|U1 1 U λR a=>V8 _ U U6<|C6 1 [0,3,4,5] a U ?_;have hm:(p.length-(i+1))*4611686018427387904+((o+gI p i-(o+gI p i) % 10000) / 10000).natAbs<(p.length-i)*4611686018427387904+o.natAbs:=by
   rcases SP i p.length with h2|h2
   .omega
   have h3:=q h2;rw[tL h2];omega
  refine Wk (L':=[.arr F 3 1 (i+1) ((out++[((o+gI p i) % 10000).toNat]).map aW).flatten]) (by simp[aW])<|We (m':=(p.length-(i+1))*4611686018427387904+((o+gI p i-(o+gI p i) % 10000) / 10000).natAbs) om_ mup (hn_ [0,3,4,5] U) ⟨i+1,(o+gI p i-(o+gI p i) % 10000) / 10000,out++[((o+gI p i) % 10000).toNat],F,⟨by simp[e],l.snoc (by show((o+gI p i) % 10000).toNat<10000;omega),by omega,by omega,by
   refine Ji e ?_;rw[NI,n,Vz];omega,λh=>by
   rcases SP i p.length with h2|h2
   .omega
   have h3:=q h2;have h4:=E h2;rw[tL h2] at *;omega⟩,rfl,rfl,rfl⟩
 have s:p.length<=i/\o=0:=by
  simp at r;omega
 refine Wt [(1,3)] U λR a=>V2 U6<|D.call (vR _ _ out e) U (.inr dc_) U6 (Sp _) fl_ (λae _ af _ M=>?_);obtain⟨rfl,N⟩:=M;refine C6 1 [2] a U<|V6 U2<|⟨U,yR out,mU l, ?_,N⟩;rw[SL s.1,s.2]at n;rw[iP];omega
theorem B6:∀(l:List Int)(i:Nat)(x:Int),i<l.length->jg (l.set i x)=jg l+(10000:Int) ^ i*(x-gI l i)
|[],i,x,h=>by simp at h
|a::l,0,x,_=>by
  show x+10000*jg l=a+10000*jg l+1*(x-a);omega
|a::l,i+1,x,h=>by
  have b:=B6 l i x (by simpa using h);show a+10000*jg (l.set i x)=a+10000*jg l+(10000:Int) ^ (i+1)*(x-gI l i);rw[b,Vz,<- Int.mul_assoc,Int.pow_succ,Int.mul_comm ((10000:Int) ^ i) 10000];omega
theorem Gh (l:List Int):jg (l++[0])=jg l:=by rw[wN];omega
structure Joins (p q:List Nat)(k:Int)(i:Nat)(o:List Int):Prop where
 len:o.length=max p.length i
 val:jg o=(bq p:Nat)+k*(bq (q.take i):Nat)
 rest:∀j,i<=j->gI o j=(gP p j:Nat)
 lim:∀x∈o, -100000000<=x/\x<=100000000
theorem Q5 (p:List Nat)(j:Nat):gI (p.map λx:Nat=>(x:Int)) j=(gP p j:Nat):=by
 unfold gI gP;rw[ak,ak,Sh];cases p[j]? <;> rfl
theorem AG (p q:List Nat)(k:Int)(a:DigP p):Joins p q k 0 (p.map λx:Nat=>(x:Int)):=by
 refine⟨by simp,by rw[oP];simp[bq],λj _=>Q5 p j,λx b=>?_⟩;obtain⟨y,hy,rfl⟩:=Sn.1 b;have:y<10000:=a y hy;omega
theorem Joins.zero {p:List Nat}{k:Int}(h:Joins p q k i o)(c:o.length<=i):jg (o++[0])=(bq p:Nat)+k*(bq (q.take i):Nat)/\(∀j,i<=j->gI (o++[0]) j=(gP p j:Nat))/\(∀x∈o++[0], -100000000<=x/\x<=100000000):=by
 refine⟨by rw[Gh,h.val],λj a=>?_,λx b=>?_⟩
 .have h1:=h.rest j a;have h2:gI o j=0:=by unfold gI;rw[ak,Sq om_];rfl
  rw[<- h1,h2];unfold gI;rw[ak,SR om_];cases j-o.length <;> rfl
 rcases Sx.1 b with h1|h1
 .exact h.lim x h1
 simp at h1;subst h1;omega
theorem IE {x:Int}(h:i≠j):gI (o.set i x) j=gI o j:=by
 unfold gI;rw[ak,ak,Vd h]
theorem Fa {p:List Nat}{k:Int}{y:Nat}(d:DigP p)(f:DigP q)(a:-9999<=k/\k<=9999)(b:q[i]?=some y)(g:o.length=max p.length (i+1))
  (h:jg o=(bq p:Nat)+k*(bq (q.take i):Nat)) (c:∀j,i<=j->gI o j=(gP p j:Nat)) (l:∀x∈o, -100000000<=x/\x<=100000000) :
  Joins p q k (i+1) (o.set i (gI o i+k*(y:Nat))):=by
 have n:y<10000:=f y (aJ b);have r:gP p i<10000:=ID d i;have s:-99980001<=k*(y:Int)/\k*(y:Int)<=99980001:=by
  have h0:(0:Int)<=y:=by omega
  have h1:k*(y:Int)<=9999*(y:Int):=UE a.2 h0;have h2:(-9999:Int)*(y:Int)<=k*(y:Int):=UE a.1 h0;omega
 refine⟨by rw[Tc];exact g, ?_,λj t=>?_,λx m=>?_⟩
 .rw[B6 o i _ om_,h,gS b];have e:((bq (q.take i)+BP ^ i*y:Nat):Int)=(bq (q.take i):Nat)+(10000:Int) ^ i*(y:Int):=by
   rw[UX,SK,Int.natCast_pow];rfl
  rw[e,Vz,show gI o i+k*(y:Int)-gI o i=k*(y:Int) by omega,Int.mul_left_comm];omega
 .rw[IE om_];exact c j om_
 rcases TH m with h1|h1
 .exact l x h1
 subst h1;rw[c i (Sg _)];omega
theorem DB (h:k<p.length):p[k]?=some (gI p k):=by
 unfold gI;rw[ak,ah h];rfl
theorem kB (h:BM l)(a:bq l<BP ^ m):l.length<=m:=by
 apply SQ;intro b;have h1:=we h om_;have h2:BP ^ m<=BP ^ (l.length-1):=SJ dc_ om_;omega
theorem vK (x:Int):(nU x).length=1:=rfl
theorem eB (x:Nat):(aW x).length=1:=rfl
theorem Jj (C:Mem)(v:Value)(p:List Int)(b:p.length=n)(c:0<=jg p)(d:∀x∈p, -1000000000000<=x/\x<=1000000000000)(e:p.length<=100000):Jog.Fn cx.P 235 [v] C [.arr v 3 1 n (p.map nU).flatten] λu a f=>f=[]/\PieC a u (jg p).toNat :=
 Jog.Fn.give (p.map nU) kr_ (by intro r hr;obtain⟨y,_,rfl⟩:=Sn.1 hr;rfl) (by rw[au,b]) (λa _ hs=>D3 a v p hs c d e)
theorem jz (C:Mem)(J K:Value)(p q:List Nat)(k:Int)(X:Sl C 1 J (p.map aW))(f:Sl C 1 K (q.map aW))(L:DigP p)(M:DigP q)(g:-9999<=k/\k<=9999)(Y:0<=(bq p:Int)+k*(bq q:Int))(ao:p.length<=50000)(ap:q.length<=50000) :
  Pur cx.P 175 [J,K,i_ k,i_ 0] C λu D=>PieC D u ((bq p:Int)+k*(bq q:Int)).toNat:=by
 obtain⟨N,c0,rfl,_⟩:=id f;simp only[au]at f⊢;refine V7 func175 45 U3 λw0=>U0 1 [0,1,2,3] U<|V3 λR b=>W0 [] U12 fl_ λaq=>V2 U6<|D.append (j:=0) U11 X (by rw[SA];intro r hr;obtain⟨y,_,rfl⟩:=Sn.1 hr;rfl) (by rw[au];simp only[SZ,maxLen];omega) (by rw[au];show(0+p.length)*8<=_;omega) fl_ λZ=>C6 1 [1,2,3,9] b U<|U0 1 [1,2,3,9,10] U<|Wk (L':=[.arr Z 3 1 (p.map λx:Nat=>(x:Int)).length (((p.map λx:Nat=>(x:Int)).map nU).flatten)]) (by rw[Th];simp;rfl)<|G.loop (λfr C' d n=>∃(i:Nat)(o:List Int)(w:Value),(i<=q.length/\Joins p q k i o)/\fr=[(1,[],.slice N q.length c0),(2,[],i_ k),(3,[],i_ 0),(9,[],w),(10,[],i_ i)]/\d=[.arr w 3 1 o.length (o.map nU).flatten]/\n=q.length-i) (hn_ [1,2,3,9,10] U) ⟨0,_,_,⟨Sm _,AG p q k L⟩,U,U,U⟩ (λfr ar av m _ z=>?_);obtain⟨i,o,w,⟨hi,c⟩,rfl,rfl,rfl⟩:=z;refine U0 4 [1,2,3,9,10,17] U<|G.cd (λA=>?_) λA=>?_
 .have B:i<q.length:=by simpa using A
  have aw:=c.len;refine G.loop (λfr C' d n=>∃(a:List Int)(E:Value),((a=o∨(a=o++[0]/\o.length<=i)))/\fr=[(1,[],.slice N q.length c0),(2,[],i_ k),(3,[],i_ 0),(9,[],E),(10,[],i_ i)]/\d=[.arr E 3 1 a.length (a.map nU).flatten]/\n=i+1-a.length) (hn_ [1,2,3,9,10] U) ⟨o,w,.inl U,U,U,U⟩ (λfr ay az m _ z=>?_);obtain⟨a,E,F,rfl,rfl,rfl⟩:=z;refine Yw 0 U (λAw O he=>?_);subst he;have aA:a.length<=50002:=by
   have h1:a.length<=o.length+1:=by
    have h2:=F.imp (λe=>congrArg List.length e) (λe=>congrArg List.length e.1);rw[So,Sk]at h2;omega
   omega
  refine U1 4 U λR b=>Wx (((i:Nat):Int)) U4 om_ om_ om_ U2<|C6 1 [1,2,3,9,10,25] b U<|G.cd (λH=>?_) λH=>?_
  .have Q:a.length<=i:=by
    have:(a.length:Int)<=i:=by simpa using H
    omega
   have aa:a=o:=by
    refine F.elim id λh=>?_;have:=h.1 ▸ Q;rw[So,Sk]at this;omega
   subst aa;refine U1 1 U λR b=>Wq [nU 0] U12 λaB _ _ ab=>D.append (j:=0) U11 ab U ax (by show(a.length+1)*8<=_;omega) fl_ λS=>C6 1 [1,2,3,9,10] b U<|Wk (L':=[.arr S 3 1 (a++[0]).length ((a++[0]).map nU).flatten]) (by simp[nU]) ?_;have aC:i+1-(a++[0]).length<i+1-a.length:=by rw[So,Sk];omega
   refine We (m':=i+1-(a++[0]).length) om_ mup (hn_ [1,2,3,9,10] U) ⟨a++[0],S,.inr ⟨U,Q⟩,U,U,U⟩
  have I:i<a.length:=by
   have:¬ (a.length:Int)<=i:=by simpa using H
   omega
  have ac:a.length=max p.length (i+1)/\jg a=(bq p:Nat)+k*(bq (q.take i):Nat)/\(∀j,i<=j->gI a j=(gP p j:Nat))/\(∀x∈a, -100000000<=x/\x<=100000000):=by
   refine F.elim (λh=>?_) λh=>?_
   .subst h;exact⟨by omega,c.val,c.rest,c.lim⟩
   obtain⟨h1,h2⟩:=h;subst h1;have h3:=c.zero h2;exact⟨by rw[So,Sk];omega,h3⟩
  obtain⟨ad,ae,af,T⟩:=ac;obtain⟨ah,ai⟩:=ja (l:=q) (k:=i) B;have aD:gP q i<10000:=ID M i;have aE:-99980001<=k*((gP q i:Nat):Int)/\k*((gP q i:Nat):Int)<=99980001:=by
   have h0:(0:Int)<=((gP q i:Nat):Int):=by omega
   have h1:k*((gP q i:Nat):Int)<=9999*((gP q i:Nat):Int):=UE g.2 h0;have h2:(-9999:Int)*((gP q i:Nat):Int)<=k*((gP q i:Nat):Int):=UE g.1 h0;omega
  have aF:=T _ (aJ (DB I));refine X7 0 (m:=a.length-1) (v:=.slice Aw a.length O) (t:=3) (s:=1) (xs:=(a.map nU).flatten) (by rw[show a.length-1+1=a.length by omega];rfl) (λg0 cc aj=>?_);injection aj with ak aG al;subst ak al;refine Wn [0,1,2,3,4,5,6,7,8,9,10,11,12,13,14] [] U kr_ λR hB b=>V4 3 U<|Wx (((i:Nat):Int)) U4 om_ om_ om_ U2<|Ww (i*1) U10 w_ U2<|WJ ag U6 (λ_=>(by rw[dx vK (DB I)];rfl)) U2<|V4 3 U<|Wf f.m_ U10 om_ ah fl_ λaH am=>V1 am U8<|V8 _ U U6<|V8 _ U U6<|Ww (i*1) U10 w_ U2<|WA (j:=0) U11 (by show i*1+1<=_;rw[bM vK];omega)<|V5 [1,2,3,9,10] b U<|U1 1 U λR b=>V8 _ U U6<|C6 1 [1,2,3,9,10] b U<|Wk (L':=[.arr (s_ g0 a.length O) 3 1 (a.set i (gI a i+k*((gP q i:Nat):Int))).length ((a.set i (gI a i+k*((gP q i:Nat):Int))).map nU).flatten]) (by rw[<- bI vK _ I,Tc];rfl)<|We (m':=q.length-(i+1)) om_ mup (hn_ [1,2,3,9,10] U) ⟨i+1,_,_,⟨by omega,Fa L M g ai ad ae af T⟩,U,U,U⟩
 have B:i=q.length:=by
  have:¬ i<q.length:=by simpa using A
  omega
 have V:jg o=(bq p:Int)+k*(bq q:Int):=by rw[c.val,B,Ss]
 refine Wt [(1,3)] U λR b=>V2 U6<|D.call (Jj _ _ o U (by rw[V];exact Y) (λx hx=>by have:=c.lim x hx;omega) (by have:=c.len;omega)) U (.inr dc_) U6 (Sp _) fl_ (λaI _ aK _ an=>?_);obtain⟨rfl,W⟩:=an;refine C6 1 [8] b U<|V6 U2 ?_;rw[V]at W;exact⟨U,W⟩
theorem Mx (n:Nat):fI ([i_ 0]:List Value) n=((List.replicate n 0).map aW).flatten:=by
 rw[dH,US];rfl
theorem wM (h:j<l.length):bq (l.drop j)=gP l j+BP*bq (l.drop (j+1)):=by
 rw[SN h,(aT.1 (ja h).2).2];rfl
theorem ux (h:j<l.length):bq ((l.set j x).drop j)=x+BP*bq (l.drop (j+1)):=by
 rw[wM (by rw[Tc];exact h),List.drop_set_of_lt om_];congr 1;unfold gP;rw[ak,UR h];rfl
theorem LS (h:DigP l)(a:x<BP):DigP (l.set j x):=λy hy=>by
 rcases TH hy with h1|h1
 .exact h y h1
 rw[h1];exact a
theorem De (C:Mem)(O Q:Value)(p q:List Nat)(v:Sl C 1 O (p.map aW))(g:Sl C 1 Q (q.map aW))(ai:DigP p)(w:BM q)(i:0<bq q)(aG:p.length<=10000)(aH:q.length<=10000) :
  Pur cx.P 230 [O,Q] C λu D=>∃u1 S,u=.tuple #[u1,S]/\PieC D u1 (bq p / bq q)/\PieC D S (bq p % bq q):=by
 obtain⟨T,c0,rfl,_⟩:=id v;obtain⟨V,W,rfl,_⟩:=id g;simp only[au]at v g⊢;refine V7 func230 58 U3 λw0=>U0 2 [0,1] U<|U1 2 U λR b=>WX U9 (Sg _) (by show 8*p.length<=281474976710656;omega) y_ fl_ λd=>C6 1 [0,1,6] b U<|U0 1 [0,1,6,7] U<|U1 2 U λR b=>V8 _ U U6<|C6 1 [0,1,6,7,8] b U<|Wk (L':=[.arr (qW d p.length p.length) 3 1 p.length ((List.replicate p.length 0).map aW).flatten]) (by rw[<- Mx];rfl)<|G.loop (λfr X e z=>∃(k:Nat)(o l:List Nat)(A:Value),(k<=p.length/\o.length=p.length/\DigP o/\bq (o.drop k)=bq (p.drop k) / bq q/\Sl X 1 A (l.map aW)/\BM l/\bq l=bq (p.drop k) % bq q)/\fr=[(0,[],.slice T p.length c0),(1,[],.slice V q.length W),(6,[],qW d p.length p.length),(7,[],A),(8,[],i_ ((k:Int)-1))]/\e=[.arr (qW d p.length p.length) 3 1 p.length (o.map aW).flatten]/\z=k+1) (hn_ [0,1,6,7,8] U) ⟨p.length,List.replicate p.length 0,[],.slice none 0 0,⟨Sg _,SG,(λx c=>by rw[TT c];decide),by rw[Ty,Vj al];simp[bq],Sl.nil _ _,⟨λx c=>(by cases c),by simp⟩,by rw[Ty];simp[bq]⟩,U,U,U⟩ (λfr aI aJ m _ B=>?_);obtain⟨k,o,l,A,⟨hk,Y,Z,aa,hs,E,F⟩,rfl,rfl,rfl⟩:=B;refine U0 2 [0,1,6,7,8,19] U<|G.cd (λH=>?_) λH=>?_
 .have ab:0<k:=by
   have:(0:Int)<=(k:Int)-1:=by simpa using H
   omega
  obtain⟨j,rfl⟩:∃j,k=j+1:=⟨k-1,by omega⟩;rw[show((j+1:Nat):Int)-1=(j:Int) by omega];obtain⟨aj,aK⟩:=ja (l:=p) (k:=j) om_;have c:gP p j<BP:=ID ai j;have aL:gP p j<10000:=c;have aM:l.length<=q.length:=kB E (by rw[F];exact Uq (S5 _ i) (nt w.1));have ak:DigP (gP p j::l):=λy hy=>by
   rcases Sw.1 hy with h|h
   .rw[h];exact c
   exact E.1 y h
  refine Wt [(7,3)] U λR b=>V4 2 U<|Wf v.m_ U10 om_ aj fl_ λaN am=>V1 am U8<|W0 [aW (gP p j)] U12 fl_ λaO=>V2 U6<|D.append (j:=0) U11 hs.m_ (by rw[SA];intro r hr;obtain⟨y,_,rfl⟩:=Sn.1 hr;rfl) (by rw[au];simp only[Sk,maxLen];omega) (by rw[au];show(1+l.length)*8<=_;omega) fl_ λaP=>D.call (vR _ _ (gP p j::l) (n:=1+(l.map aW).length) (by rw[au];simp;omega)) U (.inr dc_) U6 (Sp _) fl_ (λac an aQ _ ao=>?_);obtain⟨rfl,I⟩:=ao;refine C6 1 [0,1,6,7,8] b U ?_;obtain⟨r,ad,J,ae,aR⟩:∃r,BM r/\bq r=gP p j+BP*(bq (p.drop (j+1)) % bq q)/\Sl an 1 ac (r.map aW)/\r.length<=20000:=⟨yR (gP p j::l),mU ak,by rw[iP];show gP p j+BP*bq l=_;rw[F],I,by unfold yR;rw[Sy,SC];omega⟩;have K:=IT (t:=bq (p.drop (j+1))) (x:=gP p j) i;rw[<- wM om_,<- J]at K;have ap:bq r / bq q<BP:=by rw[J];exact yO i c
  have aS:bq r / bq q<10000:=ap;refine U0 2 [0,1,6,7,8,9,10] U<|G.loop (λfr X e z=>∃(low a:Nat),(low<=bq r / bq q/\bq r / bq q<=a/\a<=9999)/\fr=[(0,[],.slice T p.length c0),(1,[],.slice V q.length W),(6,[],qW d p.length p.length),(7,[],ac),(8,[],i_ j),(9,[],i_ low),(10,[],i_ a)]/\e=[.arr (qW d p.length p.length) 3 1 p.length (o.map aW).flatten]/\z=a-low) (hn_ [0,1,6,7,8,9,10] U) ⟨0,9999,⟨Sm _,by omega,Sg _⟩,U,U,U⟩ (λfr aT aU m _ B=>?_);obtain⟨low,a,⟨aq,ar,av⟩,rfl,rfl,rfl⟩:=B;refine U0 3 [0,1,6,7,8,9,10,32] U<|G.cd (λL=>?_) λL=>?_
  .have s:low<a:=by simpa using L
   obtain⟨aw,ax⟩:=O8 i aq ar s;refine U1 2 U λR b=>V8 _ U U6<|V8 _ U U6<|W8 ((((low+a+1) / 2:Nat):Int)) U6 om_ (by rw[Vb om_];omega) f_ U2<|C6 1 [0,1,6,7,8,9,10,11] b U<|U1 3 U λR b=>Ws (jz _ _ _ [] q ((((low+a+1) / 2:Nat):Int)) (Sl.nil _ _) g.m_ (λx c=>(by cases c)) w.1 om_ (by rw[<- SK];omega) al om_) U7 fl_ (λaV _ _ ay=>?_);obtain⟨l2,az,aA,aB⟩:=ay;have af:bq l2=bq q*((low+a+1) / 2):=by
    have h0:((bq ([]:List Nat):Nat):Int)=0:=rfl;rw[aA,h0,Int.zero_add,<- SK,Ue,S3]
   refine Wb (Da _ _ _ r l2 ae.m_ aB.m_ ad az) U7<|V5 [0,1,6,7,8,9,10,11,42] b U<|G.cd (λM=>?_) λM=>?_
   .have N:bq r<bq q*((low+a+1) / 2):=by
     rw[<- af];simpa using M
    have f:=aw N;refine U1 1 U λR b=>V8 _ U U6<|C6 1 [0,1,6,7,8,9,10] b U ?_;rw[show((((low+a+1) / 2:Nat):Int))-1=(((low+a+1) / 2-1:Nat):Int) by omega];refine We (m':=(low+a+1) / 2-1-low) om_ mup (hn_ [0,1,6,7,8,9,10] U) ⟨low,(low+a+1) / 2-1,⟨f.1,f.2,by omega⟩,U,U,U⟩
   have N:¬ bq r<bq q*((low+a+1) / 2):=by
    rw[<- af];simpa using M
   have f:=ax N;refine U0 2 [0,1,6,7,8,9,10] U<|We (m':=a-(low+a+1) / 2) om_ mup (hn_ [0,1,6,7,8,9,10] U) ⟨(low+a+1) / 2,a,⟨f.1,f.2,av⟩,U,U,U⟩
  have s:low=bq r / bq q:=by
   have:¬ low<a:=by simpa using L
   omega
  have ag:((bq r:Nat):Int) + -(low:Int)*((bq q:Nat):Int)=((bq r % bq q:Nat):Int):=by
   have h1:=UU (bq r) (bq q);rw[<- s]at h1;have h2:((bq q*low+bq r % bq q:Nat):Int)=(bq r:Nat):=by rw[h1]
   rw[UX,SK]at h2;rw[Int.neg_mul,Int.mul_comm (low:Int)];omega
  refine U1 3 U λR b=>Ww (j*1) U10 w_ U2<|WA (j:=0) U11 (by show j*1+1<=_;rw[bM eB];omega)<|V5 [0,1,6,7,8,9] b U<|U1 4 U λR b=>?_;rw[show IntKind.i64.wrap (0-(low:Int))=-(low:Int) by rw[IntKind.wrap_i64];omega];refine Ws (jz _ _ _ r q (-(low:Int)) ae.m_ g.m_ ad.1 w.1 om_ (by rw[ag];omega) om_ om_) U7 fl_ (λaX _ _ aC=>?_);obtain⟨l3,aD,ah,aE⟩:=aC;rw[ag,Ue]at ah;refine C6 1 [0,1,6,7,8] b U<|U1 1 U λR b=>V8 _ U U6<|C6 1 [0,1,6,7,8] b U<|Wk (L':=[.arr (qW d p.length p.length) 3 1 p.length ((o.set j low).map aW).flatten]) (by rw[<- bI eB _ (by omega:j<o.length)];rfl)<|We (m':=j+1) om_ mup (hn_ [0,1,6,7,8] U) ⟨j,o.set j low,l3,_,⟨by omega,by rw[Tc];exact Y,LS Z (by show low<BP;omega),by rw[ux om_,aa,K.1,s];omega,aE.mono mup,aD,by rw[ah,K.2,J]⟩,U,U,U⟩
 have ab:k=0:=by
  have:¬ (0:Int)<=(k:Int)-1:=by simpa using H
  omega
 subst ab;refine Wt [(1,3)] U λR b=>V2 U6<|D.call (vR _ _ o Y) U (.inr dc_) U6 (Sp _) fl_ (λaY _ aZ _ aF=>?_);obtain⟨rfl,I⟩:=aF;refine C6 3 [4,5] b U<|Wd (G.dropAll (Wu U3 ?_));exact⟨U,_,_,U,⟨yR o,mU Z,by rw[iP,<- Tt (l:=o),aa,Tt],I⟩,⟨l,E,by rw[F,Tt],hs.mono mup⟩⟩
theorem dM (z:Int):cA 45 (txt z)=(bh z.natAbs,decide (z<0)):=by
 unfold txt;split
 .rename_i h;rw[SB h];rfl
 rename_i h;rw[SM h];unfold cA;rw[aF];intro h0;have h1:=(bA z.natAbs).1.1 45 (List.mem_of_mem_head? h0);revert h1;decide
theorem Cb (z:Int):txt z=[48] ↔ z=0:=by
 constructor
 .intro h;have h1:(cA 45 (txt z)).1=[48]:=by rw[h];rfl
  rw[dM]at h1;have h2:=(bA z.natAbs).2;have h3:bh z.natAbs=[48]:=h1;rw[h3]at h2;have h4:bS [48]=0:=rfl;omega
 rintro rfl;unfold txt;rw[aF om_,show bh (0:Int).natAbs=bh 0 from rfl,bh];rfl
theorem kN (z:Int):((⟨(txt z).toArray⟩:ByteArray).data.toList == (⟨#[48]⟩:ByteArray).data.toList)=decide (z=0):=by
 show(txt z == [48])=_;rw[Ra,S8];exact Cb z
theorem df (n:Nat):txt (n:Int)=bh n:=by
 unfold txt;rw[aF om_];rfl
theorem dI (C:Mem)(z:Int):Gives cx.P 172 [ae (txt z)] C (.tuple #[.bool (decide (z<0)),ae (bh z.natAbs)]):=by
 have h:=split_fn C (txt z)
 rwa [dM]at h
theorem I3 {c:UInt8}(h:s[i]?=some c):bS (s.take (i+1))=10*bS (s.take i)+(c.toNat-48):=by
 rw[I4 h];omega
theorem yQ (a:∀c∈s,dX c=true)(d:s.length<=17)(i:Nat):bS (s.take i)<100000000000000000:=by
 have h1:=dF (s:=s.take i) (λc b=>a c (To b));have h2:10 ^ (s.take i).length<=10 ^ 17:=SJ dc_ (by rw[Sy];omega);omega
theorem uE (C:Mem)(z:Int)(b:(bh z.natAbs).length<=17):Gives cx.P 177 [ae (txt z)] C (.tuple #[i_ z,.bool true]):=by
 obtain⟨s,k⟩:∃s,bh z.natAbs=s:=⟨_,rfl⟩;have hs:=(bA z.natAbs).1.1;have d:=(bA z.natAbs).2;rw[k]at b hs d;refine V7 func177 45 U3 λw0=>U0 2 [0] U<|U1 1 U λR a=>Wc (by have h:=dI C z;rw[k]at h;exact h) U7 fl_<|C6 5 [4,5] a U<|U0 3 [4,5,16] U<|G.cd (λl=>?_) λl=>?_
 .exfalso;have:(s.length:Int) > 19:=by simpa using l
  omega
 refine U0 1 [4,5,6] U<|U0 1 [4,5,6,7] U<|G.loop (λfr w p q=>∃(i:Nat),(i<=s.length)/\fr=[(4,[],.bool (decide (z<0))),(5,[],ae s),(6,[],i_ (-((bS (s.take i):Nat):Int))),(7,[],i_ i)]/\p=[]/\q=s.length-i) (hn_ [4,5,6,7] U) ⟨0,Sm _,U,U,U⟩ (λfr x y m _ r=>?_);obtain⟨i,A,rfl,rfl,rfl⟩:=r;refine U0 4 [4,5,6,7,20] U<|G.cd (λe=>?_) λe=>?_
 .have f:i<s.length:=by simpa using e
  obtain⟨c,g⟩:∃c,s[i]?=some c:=⟨s[i],ah f⟩;have t:=hs c (aJ g);have B:48<=c.toNat/\c.toNat<=57:=by simpa [dX] using t
  have D:=yQ hs b i;have u:(-9223372036854775808+(((c.toNat:Nat):Int)-48)).tdiv 10=-((9223372036854775808-(((c.toNat:Nat):Int)-48)) / 10):=by
   rw[show(-9223372036854775808+(((c.toNat:Nat):Int)-48))=-(9223372036854775808-(((c.toNat:Nat):Int)-48)) by omega,Int.neg_tdiv,Vb om_]
  refine U1 2 U λR a=>WE U8 (λ_=>⟨by omega,g⟩) U2<|WG (c:=((c.toNat:Nat):Int)) U8 f_ fl_<|V8 _ U U6<|C6 1 [4,5,6,7,8] a U<|U1 2 U λR a=>V8 _ U U6<|W8 (-((9223372036854775808-(((c.toNat:Nat):Int)-48)) / 10)) U6 om_ u f_ U2<|C6 1 [4,5,6,7,8,32] a U<|G.cd (λn=>?_) λn=>?_
  .exfalso;simp only[Sr]at n;omega
  refine U1 1 U λR a=>V8 _ U U6<|V2 U6<|V8 _ U U6<|C6 1 [4,5,6,7] a U<|U1 1 U λR a=>V8 _ U U6<|C6 1 [4,5,6,7] a U ?_;rw[show 10 * -((bS (s.take i):Nat):Int)-(((c.toNat:Nat):Int)-48)=-((bS (s.take (i+1)):Nat):Int) by rw[I3 g];omega];refine We (m':=s.length-(i+1)) om_ mup (hn_ [4,5,6,7] U) ⟨i+1,om_,U,U,U⟩
 have f:i=s.length:=by
  have:¬ i<s.length:=by simpa using e
  omega
 rw[f,Ss,d];refine U0 2 [6,37] U<|G.cd (λj=>?_) λj=>?_
 .have v:z<0:=by simpa using j
  refine U0 3 [2,3] U<|Wd (G.dropAll (Wu U3 ?_));refine⟨?_,U⟩;rw[show -((z.natAbs:Nat):Int)=z by omega]
 have v:¬ z<0:=by simpa using j
 have E:z.natAbs<100000000000000000:=by
  have:=yQ hs b s.length
  rwa [Ss,d]at this
 refine U0 3 [6,40] U<|G.cd (λo=>?_) λo=>?_
 .exfalso;simp at o;omega
 refine U0 4 [2,3] U<|Wd (G.dropAll (Wu U3 ?_));refine⟨?_,U⟩;rw[show IntKind.i64.wrap (0 - -((z.natAbs:Nat):Int))=z by rw[IntKind.wrap_i64];omega]
theorem pA (C:Mem)(z:Int):Gives cx.P 171 [ae (txt z)] C (.tuple #[i_ (if (bh z.natAbs).length<=17 then z else 0),.bool (decide ((bh z.natAbs).length<=17))]):=by
 refine V7 func171 18 U3 λw0=>U0 2 [0] U<|U1 1 U λR b=>Wb (dI C z) U7<|C6 5 [0,5] b U<|U0 3 [0,13] U<|G.cd (λc=>?_) λc=>?_
 .have a:¬ (bh z.natAbs).length<=17:=by
   have:((bh z.natAbs).length:Int) > 17:=by simpa using c
   omega
  refine U0 2 [2,3] U<|Wd (G.dropAll (Wu U3 ?_));rw[aF a,SM a];exact⟨U,U⟩
 have a:(bh z.natAbs).length<=17:=by
  have:¬ ((bh z.natAbs).length:Int) > 17:=by simpa using c
  omega
 refine U1 1 U λR b=>Wb (uE _ z a) U7<|C6 4 [2,3] b U<|Wd (G.dropAll (Wu U3 ?_));rw[aK a,SB a];exact⟨U,U⟩
theorem gZ (C:Mem)(a:Tabs C)(z:Int)(b:-9223372036854775808<=z)(c:z<=9223372036854775807):Gives cx.P 106 [i_ z] C (ae (txt z)):=by
 exact V7 func106 5 U3 λw0=>U0 1 [0] U<|U1 1 U λR d=>Wb (fZ _ a z b c) U7<|C6 1 [2] d U<|V6 U2<|⟨U,U⟩
theorem qi (C:Mem)(z:Int):Gives cx.P 165 [ae (txt z)] C (i_ (if z<0 then -1 else if z=0 then 0 else 1)):=by
 refine V7 func165 13 U3 λw0=>U0 1 [0] U<|U1 1 U λR e=>Wb (dI C z) U7<|C6 5 [0,3] e U<|U0 1 [0,10] U<|G.cd (λb=>?_) λb=>?_
 .have c:z<0:=by simpa using b
  refine U0 1 [2] U<|V6 U2 ?_;rw[aK c];exact⟨U,U⟩
 have c:¬ z<0:=by simpa using b
 rw[aF c];refine U0 2 [12] U<|G.cd (λa=>?_) λa=>?_
 .rw[kN]at a;have d:z=0:=by simpa using a
  refine U0 1 [2] U<|V6 U2 ?_;rw[aK d];exact⟨U,U⟩
 rw[kN]at a;have d:¬ z=0:=by simpa using a
 refine U0 1 [2] U<|V6 U2 ?_;rw[aF d];exact⟨U,U⟩
theorem nK (C:Mem)(z:Int)(d:(bh z.natAbs).length<=1000000):Gives cx.P 166 [ae (txt z)] C (ae (txt (-z))):=by
 refine V7 func166 18 U3 λw0=>U0 1 [0] U<|U1 1 U λR a=>Wb (dI C z) U7<|C6 5 [0,3,4] a U<|U1 4 U λR a=>Wy U8<|V5 [4,14] a U<|G.cd (λb=>?_) λb=>?_
 .rw[kN]at b;have c:z<=0:=by simp at b;omega
  refine U0 2 [2] U<|V6 U2<|⟨?_,U⟩;rw[show txt (-z)=bh z.natAbs by rw[show -z=((z.natAbs:Nat):Int) by omega,df]]
 rw[kN]at b;have c:0<z:=by simp at b;omega
 refine U1 1 U λR a=>WS U6 (λ_=>(by simp only[SC,SZ];omega)) U2<|C6 1 [2] a U<|V6 U2<|⟨?_,U⟩;rw[show txt (-z)=45::bh z.natAbs by unfold txt;rw[aK om_];congr 2;omega];rfl
theorem uh (C:Mem)(z:Int):Gives cx.P 229 [ae (txt z)] C (ae (bh z.natAbs)):=by
 exact V7 func229 11 U3 λw0=>U0 1 [0] U<|U1 1 U λR a=>Wb (dI C z) U7<|C6 5 [4] a U<|U0 2 [2] U<|V6 U2<|⟨U,U⟩
theorem PU:BP ^ 200=10 ^ 800:=by decide +kernel
theorem eF (h:n<BP ^ 200):(bh n).length<=800:=dT (by rw[<- PU];exact h) om_
theorem PieC.take {D:Mem}{u:Value}(h:PieC D u n)(a:n<BP ^ 201):∃l,BM l/\bq l=n/\l.length<=201/\Sl D 1 u (l.map aW):=by
 obtain⟨l,h1,h2,h3⟩:=h;exact⟨l,h1,h2,kB h1 (by rw[h2];exact a),h3⟩
theorem gt (C:Mem)(n:Nat)(h:n<BP ^ 200):Pur cx.P 173 [ae (bh n)] C λu D=>∃l,BM l/\bq l=n/\l.length<=200/\Sl D 1 u (l.map aW) :=
 (NN C (bh n) (bA n).1.1 (by have:=eF h;omega)).mono λu D _ _ ⟨h0,l,h1,h2,h3⟩=>⟨h0,l,h1,by rw[h2,(bA n).2],kB h1 (by rw[h2,(bA n).2];exact h),h3⟩
theorem PT:BP ^ 200+BP ^ 200<BP ^ 201:=by decide +kernel
theorem pu (h:(bh z.natAbs).length<=17):z.natAbs<100000000000000000:=by
 have h1:=dF (bA z.natAbs).1.1;rw[(bA z.natAbs).2]at h1;have h2:10 ^ (bh z.natAbs).length<=10 ^ 17:=SJ dc_ h;omega
theorem GR (h:decide (z<0)=decide (w<0)):sgZ (decide (z<0)) (z.natAbs+w.natAbs)=z+w:=by
 rw[S8]at h;unfold sgZ;by_cases a:z<0
 .have:=h.1 a;rw[SB a,aK rfl];omega
 have:¬ w<0:=λh1=>a (h.2 h1);rw[SM a,aF al];omega
theorem NY (h:decide (z<0)≠decide (w<0))(b:z.natAbs<w.natAbs):sgZ (decide (w<0)) (w.natAbs-z.natAbs)=z+w:=by
 rw[ne_eq,S8]at h;unfold sgZ;by_cases a:w<0
 .have:¬ z<0:=λh1=>h ⟨λ_=>a,λ_=>h1⟩;rw[SB a,aK rfl];omega
 have:z<0:=SQ λh1=>h ⟨λh2=>absurd h2 h1,λh2=>absurd h2 a⟩;rw[SM a,aF al];omega
theorem GS (h:decide (z<0)≠decide (w<0))(b:¬ z.natAbs<w.natAbs):sgZ (decide (z<0)) (z.natAbs-w.natAbs)=z+w:=by
 rw[ne_eq,S8]at h;unfold sgZ;by_cases a:z<0
 .have:¬ w<0:=λh1=>h ⟨λ_=>h1,λ_=>a⟩;rw[SB a,aK rfl];omega
 have:w<0:=SQ λh1=>h ⟨λh2=>absurd h2 a,λh2=>absurd h2 h1⟩;rw[SM a,aF al];omega
theorem ug (C:Mem)(g:Tabs C)(z w:Int)(v:z.natAbs<BP ^ 200)(x:w.natAbs<BP ^ 200):Gives cx.P 110 [ae (txt z),ae (txt w)] C (ae (txt (z+w))):=by
 have B:=PT;refine V7 func110 70 U3 λw0=>U0 1 [0,1] U<|U1 1 U λR a=>Wb (pA C z) U7<|C6 5 [0,1,5,6] a U<|U1 1 U λR a=>Wb (pA _ w) U7<|C6 5 [0,1,5,6,7,8] a U<|U1 3 U λR a=>Wr U8<|V5 [0,1,5,7,28] a U<|G.cd (λq=>?_) λq=>?_
 .have h:(bh z.natAbs).length<=17/\(bh w.natAbs).length<=17:=by simpa using q
  have D:=pu h.1;have E:=pu h.2;rw[aK h.1,aK h.2];exact U1 2 U λR a=>V8 _ U U6<|Wc (gZ _ g (z+w) om_ om_) U7 fl_<|C6 1 [4] a U<|V6 U2<|⟨U,U⟩
 refine U1 1 U λR a=>Wb (dI _ z) U7<|C6 5 [1,9,10] a U<|U1 1 U λR a=>Wb (dI _ w) U7<|C6 5 [9,10,11,12] a U<|U1 1 U λR a=>Wz (gt _ z.natAbs v) U7 (λF _ _ y=>?_);obtain⟨lp,i,H,I,j⟩:=y;refine V2 U6<|Wz (gt _ w.natAbs x) U7 (λJ _ _ A=>?_);obtain⟨b,k,K,L,l⟩:=A;refine C6 2 [9,11,13,14] a U<|U0 4 [9,11,13,14,47] U<|G.cd (λn=>?_) λn=>?_
 .have m:decide (z<0)=decide (w<0):=by simpa using n
  refine U1 3 U λR a=>Ws (jz _ _ _ lp b 1 j.m_ l.m_ i.1 k.1 om_ om_ om_ om_) U7 fl_ (λM _ _ r=>?_);rw[show((bq lp:Int)+1*(bq b:Int)).toNat=z.natAbs+w.natAbs by omega]at r;obtain⟨c,d,e,s,f⟩:=PieC.take r om_;refine Wc (nN _ g.m_ (decide (z<0)) _ c f.m_ d.1 om_) U7 fl_<|C6 1 [4] a U<|V6 U2<|⟨?_,U⟩;rw[e,GR m]
 have m:decide (z<0)≠decide (w<0):=by simpa using n
 refine U1 2 U λR a=>Wb (Da _ _ _ lp b j.m_ l.m_ i k) U7<|C6 1 [9,11,13,14,56] a U<|G.cd (λo=>?_) λo=>?_
 .have p:z.natAbs<w.natAbs:=by
   have:bq lp<bq b:=by simpa using o
   omega
  refine U1 3 U λR a=>Ws (jz _ _ _ b lp (-1) l.m_ j.m_ k.1 i.1 om_ om_ om_ om_) U7 fl_ (λN _ _ t=>?_);rw[show((bq b:Int) + -1*(bq lp:Int)).toNat=w.natAbs-z.natAbs by omega]at t;obtain⟨c,d,e,s,f⟩:=PieC.take t om_;refine Wc (nN _ g.m_ (decide (w<0)) _ c f.m_ d.1 om_) U7 fl_<|C6 1 [4] a U<|V6 U2<|⟨?_,U⟩;rw[e,NY m p]
 have p:¬ z.natAbs<w.natAbs:=by
  have:¬ bq lp<bq b:=by simpa using o
  omega
 refine U1 3 U λR a=>Ws (jz _ _ _ lp b (-1) j.m_ l.m_ i.1 k.1 om_ om_ om_ om_) U7 fl_ (λO _ _ u=>?_);rw[show((bq lp:Int) + -1*(bq b:Int)).toNat=z.natAbs-w.natAbs by omega]at u;obtain⟨c,d,e,s,f⟩:=PieC.take u om_;refine Wc (nN _ g.m_ (decide (z<0)) _ c f.m_ d.1 om_) U7 fl_<|C6 1 [4] a U<|V6 U2<|⟨?_,U⟩;rw[e,GS m p]
theorem Ex (C:Mem)(b:Tabs C)(z w:Int)(c:z.natAbs<BP ^ 200)(a:w.natAbs<BP ^ 200):Gives cx.P 237 [ae (txt z),ae (txt w)] C (ae (txt (z-w))):=by
 exact V7 func237 9 U3 λw0=>U0 1 [0,1] U<|U1 2 U λR d=>Wc (nK _ w (by have:=eF a;omega)) U7 fl_<|Wc (ug _ b z (-w) c (by rw[Vm];exact a)) U7 fl_<|C6 1 [4] d U<|V6 U2<|⟨U,U⟩
theorem sG (C:Mem)(a:Tabs C)(z w:Int)(b:z.natAbs<BP ^ 200)(c:w.natAbs<BP ^ 200):Gives cx.P 180 [ae (txt z),ae (txt w)] C (i_ (if z-w<0 then -1 else if z-w=0 then 0 else 1)):=by
 exact V7 func180 9 U3 λw0=>U0 1 [0,1] U<|U1 2 U λR d=>Wb (Ex _ a z w b c) U7<|Wb (qi _ (z-w)) U7<|C6 1 [4] d U<|V6 U2<|⟨U,U⟩
theorem pY (C:Mem)(n:Nat):Gives cx.P 172 [ae (bh n)] C (.tuple #[.bool false,ae (bh n)]):=by
 have h:=dI C (n:Int);rw[df,SM om_]at h;exact h
theorem rT (C:Mem)(n:Nat):Gives cx.P 171 [ae (bh n)] C (.tuple #[i_ (if (bh n).length<=17 then (n:Int) else 0),.bool (decide ((bh n).length<=17))]):=by
 have h:=pA C (n:Int);rw[df]at h;exact h
theorem rU (h:(bh n).length<=17):n<100000000000000000:=pu (z:=(n:Int)) h
theorem HG (C:Mem)(a:Tabs C)(n:Nat)(h:n<=9223372036854775807):Gives cx.P 106 [i_ n] C (ae (bh n)):=by
 have h:=gZ C a (n:Int) om_ om_
 rwa [df]at h
theorem vj (C:Mem)(a:Tabs C)(v:Value)(l:List Nat)(b:Sl C 1 v (l.map aW))(c:DigP l)(d:l.length<=100000):Gives cx.P 174 [.bool false,v] C (ae (bh (bq l))):=by
 have h:=nN C a false v l b c d;rw[show sgZ false (bq l)=((bq l:Nat):Int) from rfl,df]at h;exact h
theorem RQ {q:Nat}(h:q<=9223372036854775807):IntKind.i64.wrap ((q:Nat):Int)=(q:Nat):=by rw[IntKind.wrap_i64];omega
theorem mO (C:Mem)(d:Tabs C)(a b:Nat)(l:a<BP ^ 200)(m:b<BP ^ 200)(e:0<b):Gives cx.P 168 [ae (bh a),ae (bh b)] C (.tuple #[ae (bh (a / b)),ae (bh (a % b))]):=by
 have D:=PT;refine V7 func168 93 U3 λw0=>U0 2 [0,1] U<|U1 1 U λR c=>Wb (rT C a) U7<|C6 5 [0,1,6,7] c U<|U1 1 U λR c=>Wb (rT _ b) U7<|C6 5 [0,1,6,7,8,9] c U<|U1 3 U λR c=>Wr U8<|V5 [0,1,6,8,31] c U<|G.cd (λf=>?_) λf=>?_
 .have hs:(bh a).length<=17/\(bh b).length<=17:=by simpa using f
  have h1:=rU hs.1;have h2:=rU hs.2;rw[aK hs.1,aK hs.2];have h0:=Tr a b;refine Wn [0,1,2,3,4,5,6,7] [] U kr_ λR E c=>V4 2 U<|W8 (((a / b:Nat):Int)) U6 om_ (by rw[Vb om_];rfl) (RQ om_) U2<|V4 2 U<|W9 U6 om_ om_ U2<|C6 2 [6,8,10,11] c U<|U0 2 [6,8,10,11,39] U<|G.cd (λg=>?_) λg=>?_
  .exfalso;have h3:=VM (a:Int) (show(b:Int)≠0 by omega);simp only[Sr]at g;omega
  rw[<- Int.natCast_emod];have h3:=Tr a b;have h4:=S5 a e;refine U1 1 U λR c=>Wc (HG _ d (a / b) om_) U7 fl_<|V2 U6<|Wc (HG _ d (a % b) om_) U7 fl_<|C6 2 [4,5] c U<|Wd (G.dropAll (Wu U3 ?_));exact⟨U,U⟩
 refine U1 1 U λR c=>Wb (pY _ a) U7<|C6 5 [1,12,13] c U<|U1 1 U λR c=>Wb (pY _ b) U7<|C6 5 [12,13,14,15] c U<|U1 1 U λR c=>Wz (gt _ a l) U7 (λF _ _ n=>?_);obtain⟨lp,o,p,H,q⟩:=n;refine V2 U6<|Wz (gt _ b m) U7 (λI _ _ r=>?_);obtain⟨s,t,u,J,v⟩:=r;refine Ws (De _ _ _ lp s q.m_ v.m_ o.1 t om_ om_ om_) U7 fl_ (λK _ _ w=>?_);obtain⟨u1,L,rfl,h,i⟩:=w;rw[p,u]at h i;obtain⟨l1,x,y,M,z⟩:=PieC.take h (by have:=Tr a b;omega);obtain⟨l2,A,B,N,j⟩:=PieC.take i (by have:=S5 a e;omega);obtain⟨A2,c2,rfl,_⟩:=id j;refine C6 5 [12,14,15,16,17] c U<|U1 5 U λR c=>Wr U8<|V5 [12,14,15,16,17,78] c U<|G.cd (λk=>?_) λk=>?_
 .exfalso;simp at k
 refine U1 4 U λR c=>Wc (vj _ d.m_ _ l1 z.m_ x.1 om_) U7 fl_<|V2 U6<|Wc (vj _ d.m_ _ l2 j.m_ A.1 om_) U7 fl_<|C6 2 [4,5] c U<|Wd (G.dropAll (Wu U3 ?_));rw[y,B];exact⟨U,U⟩
theorem Ni (n:Nat):((⟨(bh n).toArray⟩:ByteArray).data.toList == (⟨#[48]⟩:ByteArray).data.toList)=decide (n=0):=by
 have h:=kN (n:Int);rw[df]at h;rw[h,S8];omega
theorem tJ (C:Mem)(h:Tabs C)(z w:Int)(i:z.natAbs<BP ^ 200)(j:w.natAbs<BP ^ 200):Gives cx.P 167 [ae (txt z),ae (txt w)] C (ae (bh (Nat.gcd z.natAbs w.natAbs))):=by
 refine V7 func167 22 U3 λw0=>U0 1 [0,1] U<|U1 1 U λR e=>Wb (uh _ z) U7<|V2 U6<|Wb (uh _ w) U7<|C6 2 [0,1] e U<|G.loop (λfr p k l=>∃(a b:Nat),(a<BP ^ 200/\b<BP ^ 200/\Nat.gcd a b=Nat.gcd z.natAbs w.natAbs)/\fr=[(0,[],ae (bh a)),(1,[],ae (bh b))]/\k=[]/\l=b+1) (hn_ [0,1] U) ⟨z.natAbs,w.natAbs,⟨i,j,U⟩,U,U,U⟩ (λfr q r m _ n=>?_);obtain⟨a,b,⟨o,f,g⟩,rfl,rfl,rfl⟩:=n;refine U0 2 [0,1,12] U<|G.cd (λc=>?_) λc=>?_
 .have d:0<b:=by
   rw[Ni]at c;have:b≠0:=by simpa using c
   omega
  have s:=S5 a d;refine U1 2 U λR e=>Wb (mO _ h.m_ a b o f d) U7<|C6 5 [1,6] e U<|U0 4 [0,1] U<|We (m':=a % b+1) om_ mup (hn_ [0,1] U) ⟨b,a % b,⟨f,by omega,by rw[<- g,Q7 a b d]⟩,U,U,U⟩
 have d:b=0:=by
  rw[Ni]at c;simpa using c
 refine U0 2 [4] U<|V6 U2<|⟨?_,U⟩;rw[<- g,d,UT]
def gn (s:Str):Int:=sgZ (cA 45 s).2 (bS (cA 45 s).1)
theorem zg {t:Str}(h:wE t):t.head?=some 48 ↔ bS t=0:=by
 constructor
 .intro h0;have h1:=h.2.2 h0;cases t with
 |nil=>cases h0
 |cons b t =>
   have a:b=48:=by simpa using h0
   have ht:t=[]:=by cases t with
   |nil=>rfl
   |cons c t=>simp at h1
   subst a ht;rfl
 intro h0;have:=rS h (bA 0).1 (by rw[h0,(bA 0).2]);rw[this,bh];rfl
theorem zf :jI s=true ↔ wE (cA 45 s).1/\((cA 45 s).2=true->0<bS (cA 45 s).1):=by
 obtain⟨t,neg,d⟩:∃t b,cA 45 s=(t,b):=⟨_,_,rfl⟩;unfold jI;rw[d];simp only[Sz,UH,Uc,ne_eq,SA,Bool.and_eq_false_imp,T4,TY,SS];constructor
 .rintro ⟨⟨h1,h2⟩,h3⟩;have a:wE t:=⟨h1,h2,λh=>by
   have:=(h3 h).2;have:0<t.length:=S7.2 h2;omega⟩
  refine⟨a,λc=>?_⟩;rcases Tx (bS t) with h|h
  .have:=(h3 ((zg a).2 h)).1;rw[c]at this;cases this
  exact h
 rintro ⟨a,h⟩;refine⟨⟨a.1,a.2.1⟩,λh0=>?_⟩;have h1:=(zg a).1 h0;have h2:=a.2.2 h0;refine⟨?_,by omega⟩;cases c:neg with
|false=>rfl
|true=>have:=h c;omega
theorem IS (s:Str):s=if (cA 45 s).2 then 45::(cA 45 s).1 else (cA 45 s).1:=by
 unfold cA;split
 .rename_i h;cases s with
 |nil=>cases h
 |cons b s =>
   have a:b=45:=by simpa using h
   subst a;rfl
 rfl
theorem ze (h:jI s=true):s=txt (gn s):=by
 obtain⟨h1,h2⟩:=zf.1 h;unfold gn;rw[Cc _ _ h2,<- pr h1];exact IS s
def ma (zn:Int):Option Str->Bool
|none=>true
|some b=>decide (1<gn b) && !(zn == 0) && (Nat.gcd zn.natAbs (gn b).natAbs == 1)
def aS (s:Str):Bool:=bT (je 47 s).1 && bT ((je 47 s).2.getD [49]) && ma (gn (je 47 s).1) (je 47 s).2
theorem nG :bT s=true ↔ okD (cA 45 s).1=true/\((cA 45 s).2=true->0<bS (cA 45 s).1):=by
 unfold bT;rw[Sz,zf,uY,Sr];constructor
 .rintro ⟨⟨h1,h2⟩,h3⟩;exact⟨⟨h1,h3⟩,h2⟩
 rintro ⟨⟨h1,h3⟩,h2⟩;exact⟨⟨h1,h2⟩,h3⟩
theorem DO (s:Str):(gn s).natAbs=bS (cA 45 s).1:=by
 unfold gn sgZ;split <;> omega
theorem xL (h:s.length<=n):(je 47 s).1.length<=n/\((je 47 s).2.getD [49]).length<=n+1:=by
 rcases ij 47 s with⟨h1,_⟩|⟨a,post,h1,h2,_⟩
 .rw[h1];exact⟨h,by simp⟩
 have e:=congrArg List.length h2;rw[So,SC]at e;rw[h1];simp only[TD];omega
theorem xG (h:bT s=true):s=txt (gn s)/\(gn s).natAbs<BP ^ 200:=by
 have h1:=nG.1 h;refine⟨ze (by unfold bT at h;exact(Vo.1 h).1), ?_⟩;rw[DO];have h2:=uY.1 h1.1;have h3:=dF h2.1.1;have h4:∀M,(cA 45 s).1.length<=M->10 ^ (cA 45 s).1.length<=10 ^ M:=λM h=>SJ dc_ h;rw[PU];exact Tk h3 (h4 800 om_)
theorem one_val:([49]:Str)=txt 1:=by
 unfold txt;rw[aF om_,show bh (1:Int).natAbs=bh 1 from rfl,bh];rfl
theorem QM:(1:Int).natAbs<BP ^ 200:=by decide +kernel
theorem rL (n:Nat):((⟨(bh n).toArray⟩:ByteArray).data.toList == (⟨#[49]⟩:ByteArray).data.toList)=(n == 1):=by
 show(bh n == [49])=_;rw[Ra,VS,Sr,T4];constructor
 .intro h;have h2:=(bA n).2;rw[h]at h2;exact h2.symm
 rintro rfl;rw[bh];rfl
theorem G6 (C:Mem)(o:Tabs C)(s:Str)(u:s.length<=999998):Gives cx.P 112 [ae s] C (.bool (aS s)):=by
 have p:=xL u;obtain⟨c,d,i⟩:∃a b,je 47 s=(a,b):=⟨_,_,rfl⟩;have e:aS s=(bT c && bT (d.getD [49]) && ma (gn c) d):=by
  unfold aS;rw[i]
 rw[i]at p;simp only at p;refine V7 func112 34 U3 λw0=>U0 1 [0] U<|U1 1 U λR f=>Wc (by have h:=ye C s om_;rw[i]at h;exact h) U7 fl_<|C6 5 [0,3,4] f U<|U1 1 U λR f=>Wc (xI _ c om_) U7 fl_<|V4 3 U<|Wo (λ_=>(xI _ (d.getD [49]) om_)) U9<|V2 U6<|Wy U8<|V5 [0,3,4,17] f U<|G.cd (λk=>?_) λk=>?_
 .have v:aS s=false:=by
   rw[e];cases h1:bT c with
  |false=>rfl
  |true =>
    rw[h1]at k;have h2:bT (d.getD [49])=false:=by simpa using k
    rw[h2];rfl
  exact U0 1 [2] U<|V6 U2<|⟨by rw[v],U⟩
 have hr:bT c=true/\bT (d.getD [49])=true:=by simpa using k
 rw[hr.1,hr.2]at e;obtain⟨q,r⟩:=xG hr.1;refine U1 1 U λR f=>Wb (mH _ s 47) U7<|C6 1 [3,4,20] f U<|G.cd (λl=>?_) λl=>?_
 .have h0:¬ 0<=Lib.indexByte s 47:=by
   have:Lib.indexByte s 47<0:=by simpa using l
   omega
  have m:d=none:=by
   have h:=rN h0;rw[i]at h;exact(VC h).2
  rw[m]at e;exact U0 1 [2] U<|V6 U2<|⟨by rw[e];rfl,U⟩
 have h0:0<=Lib.indexByte s 47:=by
  have:¬ Lib.indexByte s 47<0:=by simpa using l
  omega
 obtain⟨b,m⟩:∃b,d=some b:=by
  obtain⟨E,post,h1,_⟩:=vS h0;rw[i]at h1;exact⟨post,(VC h1).2⟩
 subst m;obtain⟨w,x⟩:=xG hr.2;have t:b=txt (gn b):=w;have n:(gn b).natAbs<BP ^ 200:=x;obtain⟨j,y⟩:∃z,gn c=z:=⟨_,rfl⟩;obtain⟨g,A⟩:∃z,gn b=z:=⟨_,rfl⟩;unfold ma at e;simp only[y,A]at e q r t n;rw[show ae c=ae (txt j) from congrArg ae q,show ae ((some b).getD [49])=ae (txt g) from congrArg ae t];refine U1 1 U λR f=>Wc (by have h:=sG _ o.m_ g 1 n QM;rw[<- one_val]at h;exact h) U7 fl_<|V4 4 U<|Wr U8<|V4 3 U<|WC (λ_=>(tJ _ o.m_ j g r n)) U9<|V2 U6<|Wr U8<|C6 1 [2] f U<|V6 U2<|⟨?_,U⟩;have B:decide (0<if g-1<0 then (-1:Int) else if g-1=0 then 0 else 1)=decide (1<g):=by
  rw[S8];split
  .omega
  split <;> omega
 have D:(j == 0)=decide (j=0):=by by_cases h:j=0 <;> simp[h]
 rw[e,B,kN,rL,D];rfl
theorem Hy (C:Mem)(s:Str)(d:∀c∈s,dX c=true)(e:s≠[])(f:s.length<=18):Gives cx.P 251 [ae s,i_ 10,i_ 64] C (.tuple #[.int .u64 (bS s),.nilIface]):=by
 refine V7 func251 26 U3 λw0=>U0 2 [0,1,2] U<|U1 3 U λR a=>Wc (Hx Tryz.parseU s d e f _ kr_) U7 fl_<|C6 5 [0,1,2,8,9] a U<|U1 1 U λR a=>XW false U U U U U (.inr ⟨U,U⟩) kr_ U U<|V5 [0,1,2,8,9,18] a U<|G.cd (λb=>?_) λb=>?_
 .cases b
 refine U0 3 [6,7] U<|Wd (G.dropAll (Wu U3 ?_));exact⟨U,U⟩
theorem ED (C:Mem)(i:Nat)(h:i<100):Gives cx.P 313 [i_ i] C (ae (bh i)):=by
 have h1:=Gives.ofCalls (f:=313) (args:=[i_ i]) (P:=cx.P) kr_ (λw=>Any.internal_strconv_small Tryz.small10 i h w) C;rw[dU]at h1;exact h1
theorem Dn (u:Nat):Lib.nDigits u=(bh u).length:=by rw[<- dU,Lib.decDigits_length]
theorem Fj (C:Mem)(l:Tabs C)(u:Nat)(s:u<9223372036854775808):Gives cx.P 298 [.int .u64 u,i_ 10] C (ae (bh u)):=by
 refine V7 func298 32 U3 λw0=>U0 1 [0,1] U<|U0 2 [0,1,10] U<|G.cd (λg=>?_) λg=>?_
 .refine U0 2 [0,12] U<|G.cd (λe=>?_) λe=>?_
  .have h:u<100:=by
    have:(u:Int)<100:=by simpa using e
    omega
   exact U1 1 U λR a=>WG (c:=(u:Int)) U8 f_ fl_<|Wb (ED _ u h) U7<|C6 1 [4] a U<|V6 U2<|⟨U,U⟩
  have h:100<=u:=by
   have:¬ (u:Int)<100:=by simpa using e
   omega
  have t:Lib.nDigits u<=19:=by
   rw[Dn];exact dT om_ om_
  refine V3 λR a=>Wg U5 λi=>V5 [0,5] a U<|U1 1 U λR a=>Wc (ym Tryz.nDig u om_ om_ _ l.pow.m_ kr_) U7 fl_<|C6 1 [0,5,6] a U<|Wt [(3,3)] U λR a=>V2 U6<|Xn 0 (Lib.nDigits u) 24 U12 (λ_=>⟨.inl ⟨U,U⟩,.inr ⟨_,U⟩,.inl ⟨U,U⟩,by omega,by omega,by decide⟩) U2<|V2 U6<|D.call (AN Tryz.fmt10 i 24 u 393 (List.replicate 24 (Value.int .u8 0)) om_ (λj d=>(by rw[TC,aK om_])) om_ _ kr_) U (.inr dc_) U6 (Sp _) fl_ λw _ z _ m=>V5 [5,6] a U ?_;obtain⟨_,rfl,cs,rfl,A,n⟩:=m;refine G.freeze 0 U (λo _ p=>?_);have q:(bh u).length=Lib.nDigits u:=(Dn u).symm;have k:Sl o 1 (s_ i ((bh u).map λb=>[Value.int .u8 b.toNat]).length 24) ((bh u).map λb=>[Value.int .u8 b.toNat]) :=
   Sl.ofBlock p (by intro r hr;obtain⟨y,_,rfl⟩:=Sn.1 hr;rfl) (λj v d=>by
    rw[gJ,Sh]at d;cases f:(bh u)[j]? with
   |none=>rw[f]at d;cases d
   |some x=>rw[f]at d;cases d;simpa using n j x f) am (by simp[maxLen])
  rw[au,q]at k;exact U1 1 U λR a=>Xn 0 (Lib.nDigits u) 24 U12 (λ_=>⟨.inl ⟨U,U⟩,.inr ⟨_,U⟩,.inl ⟨U,U⟩,by omega,by omega,by decide⟩) U2<|Xp k.m_ U11 fl_<|C6 1 [4] a U<|V6 U2<|⟨U,U⟩
 exact absurd g dc_
theorem Fk (C:Mem)(a:Tabs C)(u:Nat)(b:u<9223372036854775808):Gives cx.P 255 [.int .u64 u,i_ 10] C (ae (bh u)):=by
 exact V7 func255 8 U3 λw0=>U0 1 [0,1] U<|U1 2 U λR c=>Wb (Fj _ a.m_ u b) U7<|C6 1 [4] c U<|V6 U2<|⟨U,U⟩
theorem ka (C:Mem)(z:Int)(m:Nat)(d:m<=18):Gives cx.P 188 [ae (txt z),i_ m] C (.tuple #[i_ (if (txt z).length<=m then z else 0),.bool (decide ((txt z).length<=m))]):=by
 refine V7 func188 20 U3 λw0=>U0 2 [0,1] U<|U0 4 [0,11] U<|G.cd (λb=>?_) λb=>?_
 .have a:¬ (txt z).length<=m:=by
   have:(m:Int)<((txt z).length:Int):=by simpa using b
   omega
  refine U0 2 [4,5] U<|Wd (G.dropAll (Wu U3 ?_));exact⟨by rw[aF a,SM a],U⟩
 have a:(txt z).length<=m:=by
  have:¬ (m:Int)<((txt z).length:Int):=by simpa using b
  omega
 refine U1 1 U λR c=>Wc (Bz Tryz.atoi z om_ _ kr_) U7 fl_<|C6 5 [6,7] c U<|Wn [0,1,2,3,4] [] U kr_ λR e c=>V4 2 U<|XW true U U U U U (.inl ⟨U,U⟩) kr_ U U<|C6 2 [4,5] c U<|Wd (G.dropAll (Wu U3 ?_));exact⟨by rw[aK a,SB a],U⟩
abbrev zaa:=λd=>Ent.obj d (.cells ⟨[.bool false,.slice none 0 0]⟩ 273 (0,0))
theorem jt (C:Mem)(z:Int)(v:(bh z.natAbs).length<=1000000):Pur cx.P 189 [ae (txt z)] C λu D=>∃p,u=.agg ⟨[.bool (decide (z<0)),p]⟩/\NineC D p z.natAbs:=by
 obtain⟨S,i⟩:∃S,bh z.natAbs=S:=⟨_,rfl⟩;have b:=(bA z.natAbs).1;have k:=(bA z.natAbs).2;rw[i]at v b k;refine V7 func189 44 U3 λw0=>V3 λR a=>Wg U5 λd=>V5 [0,2] a U<|U1 1 U λR a=>Wb (I9 _ (txt z) 45) U7 ?_;rw[dM,i];refine C6 5 [2,3,4] a U<|U1 2 U λR a=>WZ (S.length) (9) U6 om_ (.inl ⟨U,by omega⟩) U2<|Wx (((S.length / 9+1:Nat):Int)) U4 om_ om_ om_ U2<|WX U9 (Sm _) (by show 8*(S.length / 9+1)<=281474976710656;omega) y_ fl_ λM=>C6 1 [2,3,4,5] a U ?_;rw[show(ae S:Value)=ae (S.take S.length) by rw[Ss]];refine G.loop (λfr N l y=>∃(q j:Nat)(out:List Nat)(w:Value),(q<=S.length/\(q=0∨q+9*j=S.length)/\out.length=j/\j<=S.length/\(q=0∨j<S.length)/\Dig9 out/\bB out=bS (S.drop q))/\fr=[(2,[],p_ d),(3,[],ae (S.take q)),(4,[],.bool (decide (z<0))),(5,[],w)]/\l=[.arr w 285 1 j (out.map cY).flatten,zaa d]/\y=q+1) (hn_ [2,3,4,5] U) ⟨S.length,0,[],_,⟨Sg _,by omega,U,Sm _,by have:=S7.2 b.2.1;omega,(λx A=>(by cases A)),by rw[Ty];rfl⟩,U,U,U⟩ (λfr O Q m _ B=>?_);obtain⟨q,j,out,w,⟨T,V,e,W,X,o,f⟩,rfl,rfl,rfl⟩:=B;refine U0 3 [2,3,4,5,21] U<|G.cd (λg=>?_) λg=>?_
 .have E:(⟨(S.take q).toArray⟩:ByteArray).data.toList.length=q:=by
   show(S.take q).length=q;rw[Sy];omega
  have F:(S.take q).length=q:=E;have r:0<q:=by
   have h:(0:Int)<(((⟨(S.take q).toArray⟩:ByteArray).data.toList.length:Nat):Int):=by simpa using g
   omega
  have H:(ii S (q-9) q).length<=9/\0<(ii S (q-9) q).length:=by
   unfold ii;rw[Uj,Sy];omega
  have I:∀c∈ii S (q-9) q,dX c=true:=λc J=>b.1 c (To (UC J));refine U1 2 U λR a=>Wx (((q:Int)-9)) U4 om_ om_ om_ U2<|D.max (((q-9:Nat):Int)) U6 om_ U2<|C6 1 [2,3,4,5,6] a U<|U1 2 U λR a=>WQ (q-9) (S.take q).length U9 (λ_=>⟨.inr ⟨_,U⟩,.inl ⟨U,U⟩,.inl ⟨U,U⟩,by omega,Sg _,Sg _⟩) U2 ?_;rw[show(((S.take q).take (S.take q).length).drop (q-9))=ii S (q-9) q from by rw[Ss];rfl];refine Wc (Hy _ (ii S (q-9) q) I (S7.1 H.2) om_) U7 fl_<|C6 5 [2,3,4,5,6,7] a U<|Wn [0,1,4,5,6,2,3,7,8] [] U kr_ λR Y a=>V4 4 U<|WQ 0 (q-9) U9 (λ_=>⟨.inl ⟨U,U⟩,.inr ⟨_,U⟩,.inl ⟨U,U⟩,by omega,by omega,Sg _⟩) U2<|Wq [cY (bS (ii S (q-9) q))] U12 λZ _ _ K=>D.append (j:=0) U11 K U ax (by show(j+1)*8<=_;omega) fl_ λs=>C6 2 [2,3,4,5] a U ?_;rw[show((S.take q).take (q-9)).drop 0=S.take (q-9) from by rw[Tt,Ve,Tj om_]];refine Wk (L':=[.arr s 285 1 (j+1) ((out++[bS (ii S (q-9) q)]).map cY).flatten,zaa d]) (by simp[cY])<|We (m':=q-9+1) om_ mup (hn_ [2,3,4,5] U) ⟨q-9,j+1,out++[bS (ii S (q-9) q)],s,⟨by omega,by omega,by simp[e],by omega,by omega,o.snoc (LW b.1 om_),Et om_ e om_ f⟩,U,U,U⟩
 have r:q=0:=by
  have F:(S.take q).length=q:=by rw[Sy];omega
  have h:¬ (0:Int)<(((S.take q).length:Nat):Int):=by simpa using g
  omega
 subst r;rw[Tt,k]at f;refine Wt [(2,3)] U λR a=>V4 2 U<|D.call (gT _ _ out (n:=j) e) U (.inr dc_) U6 (Sp _) fl_ (λaa _ ab _ L=>?_);obtain⟨rfl,t⟩:=L;obtain⟨Au,cu,rfl,_⟩:=id t;refine Wm [.bool (decide (z<0)),_] U8<|Wa (j:=0) U12<|V5 [2] a U<|Wd (WO ag U4 ?_);exact⟨U,_,U,F5 out,iR o,by rw[iQ,f],t⟩
theorem Fv (k:Nat)(s:Str):bS (List.replicate k 48++s)=bS s:=by
 induction k with
|zero=>rfl
|succ k a=>rw[Tm,Ub,dN,a];simp
theorem OH (h:x<1000000000):nl 9 x=List.replicate (9-(bh x).length) 48++bh x:=by
 obtain⟨h1,h2,h3⟩:=lf 9 x h;obtain⟨h4,h5⟩:=bA x;have b:(bh x).length<=9:=dT om_ om_;refine Bc h2 (λc a=>?_) (by rw[h1];simp;omega) (by rw[h3,Fv,h5]);rcases Sx.1 a with a|a
 .rw[TT a];rfl
 exact h4.1 c a
def Mp (l:List Nat)(j:Nat)(s:Str):Prop:=(j=0/\s=[])∨(0<j/\wE s/\bS s=bB (l.drop (l.length-j))/\0<bS s)
theorem E9 (b:zz l)(d:j<l.length)(h:Mp l j s):Mp l (j+1) (s++if j=0 then bh (g9 l (l.length-1-j)) else nl 9 (g9 l (l.length-1-j))):=by
 have a:l[l.length-1-j]?=some (g9 l (l.length-1-j)):=yC om_;refine .inr ⟨by omega, ?_⟩;rw[show l.length-(j+1)=l.length-1-j by omega];rcases h with⟨rfl,rfl⟩|⟨h0,h1,h2,h3⟩
 .rw[aK rfl,Un];obtain⟨h4,h5⟩:=bA (g9 l (l.length-1-0));have c:bB (l.drop (l.length-1-0))=g9 l (l.length-1-0):=by
   rw[SN om_,show l.length-1-0+1=l.length by omega,Ty];rw[ah om_]at a;rw[TO a];show _+B9*0=_;omega
  refine⟨h4,by rw[h5,c], ?_⟩;rw[h5];rcases Tx (g9 l (l.length-1-0)) with h|h
  .rw[h]at a;exact absurd (by rw[Uz];exact a) b.2
  exact h
 rw[aF om_];rw[show l.length-j=l.length-1-j+1 by omega]at h2;exact Fi b.1 a h1 h2 h3
abbrev zab:=λb a c=>Ent.obj b (.cells ⟨[.pointer a,c]⟩ 344 (0,0))
abbrev zac:=λw d s=>Ent.arr w 5 1 (d++s).length (u8s (d++s))
theorem kA (C:Mem)(W:Tabs C)(m:Bool)(v:Value)(n:Nat)(X:NineC C v n)(Y:n<B9 ^ 100000):Gives cx.P 191 [.agg ⟨[.bool m,v]⟩] C (ae (txt (sgZ m n))):=by
 obtain⟨ls,J,K,ak,hs⟩:=X.get Y;obtain⟨A,c,rfl,_⟩:=id hs;simp only[au]at hs⊢;refine Xq kr_ func191 U 34 U U λw0=>V3 λR a=>Wi U6 λL=>C6 1 [1] a U<|G.freeze 0 U λ_ _ o=>U1 1 U λR a=>V1 (PtrTo.block (Mem.get o mup) _) U8<|C6 2 [1,10] a U<|G.cd (λy=>?_) λy=>?_
 .have M:ls=[]:=by
   have:(ls.length:Int)=0:=by simpa using y
   exact S9 om_
  refine U0 1 [2] U<|Wd (Xu (MP U U) ?_ LL);subst M;refine⟨?_,U⟩;rw[<- K,(Cb (sgZ m (bB []))).2 (by cases m <;> rfl)];rfl
 have M:0<ls.length:=by
  have:¬ (ls.length:Int)=0:=by simpa using y
  omega
 obtain⟨d,g⟩:∃d:Str,(if m then [45] else [])=d:=⟨_,rfl⟩;have an:d.length<=1:=by rw[<- g];split <;> simp
 refine V3 λR a=>Wg U5 λb=>V5 [1,3] a U<|G.nilArr 5 1<|G.perm (L':=[.obj b (.cells ⟨[.pointer none,.slice none 0 0]⟩ 344 (0,0)),.arr (.slice none 0 0) 5 1 0 []]) (List.Perm.swap _ _ _)<|U1 1 U λR a=>V1 (PtrTo.block (Mem.get o mup) _) U8<|V5 [1,3,12] a U<|G.cut (λfr Z e z=>∃(q:Option Addr)(w:Value),(q=none∨q=some ⟨b,0,none⟩)/\fr=[(1,[],p_ L),(3,[],p_ b)]/\e=[zab b q w,.arr w 5 1 d.length (u8s d)]) ?_ (λfr _ ao z _ f=>?_)
 .refine G.cd (λB=>?_) λB=>?_
  .rw[aK B]at g;subst g;refine Wt [(0,3)] U λR a=>D.call (wG _ b none (.slice none 0 0) [] 45 (.inl U) al) U (.inr dc_) U6 (Sp _) fl_ λap _ aq _ aa=>V5 [1,3] a U ?_;obtain⟨w1,rfl⟩:=aa;refine Wj 0 mup (hn_ [1,3] U) ⟨some ⟨b,0,none⟩,w1,.inr U,U,U⟩
  rw[aF (by rw[B];decide)]at g;subst g;refine Wj 0 mup (hn_ [1,3] U) ⟨none,.slice none 0 0,.inl U,U,U⟩
 obtain⟨q ,w,hq,rfl,rfl⟩:=f;refine U1 1 U λR a=>V1 (PtrTo.block (Mem.get o mup) _) U8<|Wz (D8 _ A ls.length c) U7 λar _ _ ab=>V5 [1,3,16] a U ?_;obtain⟨bb,rfl,ac⟩:=ab;refine Wk (L':=[zab b q w,.arr w 5 1 (d++[]).length (u8s (d++[]))]) (by rw[SF])<|G.rangeFunc U U U kr_ (uf _ bb _ _ ls ac hs.m_ om_) (λj e=>∃(q:Option Addr)(w:Value)(s:Str),((q=none∨q=some ⟨b,0,none⟩)/\Mp ls j s/\s.length<=9*j)/\e=[zab b q w,zac w d s]) ⟨q,w,[],⟨hq,.inl ⟨U,U⟩,by simp⟩,U⟩ U (λ_ _=>rfl) (λu v=>[(1,[],p_ L),(3,[],p_ b),(4,[],u),(5,[],v)]) (λl u v W1 e=>?_) (λl j u v e W1 f E=>?_) (λbD e f=>?_)
 .exact U0 1 [1,3,4,18] U<|U0 1 [1,3,4,5] U<|X6 ⟨U,U,U,U,trivial⟩
 .obtain⟨q,w,s,⟨F,p,N⟩,rfl⟩:=f;have O:j<ls.length:=by have:=(aT.1 E).1;rwa [gi]at this
  rw[wi O]at E;cases E
  have Q:=E9 J O p;obtain⟨x,H⟩:∃x,g9 ls (ls.length-1-j)=x:=⟨_,rfl⟩;have i:x<B9:=by rw[<- H];exact lu J.1 _
  rw[show ls.getD (ls.length-1-j) 0=x from H];rw[H]at Q;have av:(bh x).length<=9:=dT (by rw[B9v]at i;omega) om_;have ad:=OH (x:=x) (by rw[B9v]at i;exact i);have aw:(nl 9 x).length=9:=(lf 9 x (by rw[B9v]at i;omega)).1;refine U1 1 U λR a=>Wc (Fk _ W.m_ x (by rw[B9v]at i;omega)) U7 fl_<|C6 1 [1,3,4,6] a U<|U1 2 U λR a=>V1 (PtrTo.block (Mem.get o mup) _) U8<|V2 U6<|V8 _ U U6<|C6 1 [3,6,26] a U<|G.cut (λfr Z e z=>∃(k:Option Addr)(r:Value)(t:Str),((k=none∨k=some ⟨b,0,none⟩)/\t++bh x=d++(s++if j=0 then bh x else nl 9 x)/\t.length<=9*j+10)/\fr=[(3,[],p_ b),(6,[],ae (bh x))]/\e=[zab b k r,.arr r 5 1 t.length (u8s t)]) ?_ (λfr _ ax z _ f=>?_)
  .refine G.cd (λI=>?_) λI=>?_
   .have S:0<j:=by
     have:((ls.length-1-j:Nat):Int)<(ls.length:Int)-1:=by simpa using I
     omega
    refine Wt [(3,3)] U λR a=>V4 2 U<|WQ (bh x).length 9 U9 (λ_=>⟨.inr ⟨_,U⟩,.inl ⟨U,U⟩,.inl ⟨U,U⟩,by omega,Sg _,Sg _⟩) U2 ?_;rw[show((([48,48,48,48,48,48,48,48,48]:Str).take 9).drop (bh x).length)=List.replicate (9-(bh x).length) 48 from by rw[show(([48,48,48,48,48,48,48,48,48]:Str).take 9)=List.replicate 9 48 from rfl,List.drop_replicate]];refine D.call (kM _ b q w (d++s) (List.replicate (9-(bh x).length) 48) F am) U (.inr dc_) U6 (Sp _) fl_ λay _ az _ af=>V5 [3,6] a U ?_;obtain⟨w1,rfl⟩:=af;refine Wj 0 mup (hn_ [3,6] U) ⟨some ⟨b,0,none⟩,w1,_,⟨.inr U,by rw[aF om_,ad];simp[],by simp;omega⟩,U,U⟩
   have S:j=0:=by
    have:¬ ((ls.length-1-j:Nat):Int)<(ls.length:Int)-1:=by simpa using I
    omega
   refine Wj 0 mup (hn_ [3,6] U) ⟨q,w,d++s,⟨F,by rw[aK S,SX],by simp;omega⟩,U,U⟩
  obtain⟨k ,r ,t,⟨ag,ah,aA⟩,rfl,rfl⟩:=f;refine Wt [(1,3)] U λR a=>V2 U6<|D.call (kM _ b k r t (bh x) ag om_) U (.inr dc_) U6 (Sp _) fl_ λaB _ aC _ ai=>WV [] trivial (a _ _ _ U ?_);obtain⟨w4,rfl⟩:=ai;rw[ah];exact XI (R:=λe=>∃(q:Option Addr)(w:Value)(s:Str),((q=none∨q=some ⟨b,0,none⟩)/\Mp ls (j+1) s/\s.length<=9*(j+1))/\e=[zab b q w,zac w d s]) (Sp _) ⟨some ⟨b,0,none⟩,w4,_,⟨.inr U,Q,by rw[So];split <;> omega⟩,U⟩
 obtain⟨q,w,s,⟨F,p,N⟩,rfl⟩:=f;rw[gi]at p;obtain⟨aD,T,V,aE⟩:0<ls.length/\wE s/\bS s=bB (ls.drop (ls.length-ls.length))/\0<bS s:=p.elim (λh=>by omega) id;rw[Vh,Tt,K]at V;refine G.perm (L':=[zab b q w,zac w d s,.obj bD (.deferred (some []))]) (pkL [1,1,0] U)<|Wt [(0,3)] U λR a=>D.call (FE _ b q w (d++s) (λh=>T.2.1 (Vy.1 h).2) (by simp;rw[gi]at N;omega)) U (.inr dc_) U6 (Sp _) fl_ λaG _ aH _ aj=>C6 1 [2] a U ?_;obtain⟨rfl,rfl⟩:=aj;refine Wd (X4 (MP U U) ?_);refine⟨?_,U⟩;have es:s=bh n:=by rw[<- V];exact pr T
 rw[Cc m n (λ_=>by omega),es,<- g];cases m <;> rfl
theorem tV (a:0<Q):(x+B9*t) / Q=B9*(t / Q)+(x+B9*(t % Q)) / Q/\(x+B9*t) % Q=(x+B9*(t % Q)) % Q:=by
 have h:x+B9*t=(x+B9*(t % Q))+Q*(B9*(t / Q)):=by
  have h1:=Vs t Q;have h2:B9*t=B9*(t % Q)+B9*(Q*(t / Q)):=by rw[<- Ts,h1]
  rw[h2,VY];omega
 rw[h,Vn _ _ a,Nat.add_mul_mod_self_left];exact⟨by omega,U⟩
theorem mP (a:0<Q)(b:x<B9):(x+B9*(t % Q)) / Q<B9:=by
 rw[Ug a];have h1:=S5 t a;have h2:B9*(t % Q+1)<=B9*Q:=TJ _ h1;rw[Ts]at h2;omega
theorem fF (h:j<l.length):bB (l.drop j)=g9 l j+B9*bB (l.drop (j+1)):=by
 rw[SN h,bB,AM (ah h)]
theorem lS (h:j<l.length):bB ((l.set j x).drop j)=x+B9*bB (l.drop (j+1)):=by
 rw[SN (by simpa using h),bB,List.getElem_set_self,List.drop_set_of_lt om_]
theorem tU (C:Mem)(va M:Value)(m d:Nat)(ha:NineC C va m)(hm:m<B9 ^ 200000)(F:Sl C 1 M ([d].map cY))(H:0<d)(hd:d<B9) :
  Pur cx.P 227 [va,M] C λu D=>∃q r,u=.tuple #[q,r]/\NineC D q (m / d)/\NineC D r (m % d):=by
 have aa:NineC C M d:=⟨[d],⟨λx o=>(by rw[SD.1 o];exact hd),by simp;omega⟩,by show d+B9*0=d;omega,F⟩;have N:=ha;obtain⟨a,am,ab,aE,O⟩:=ha.get hm;obtain⟨A0,c0,rfl,_⟩:=id O;obtain⟨B0,d0,rfl,aF⟩:=id F;simp only[au,Sk]at F aa O N⊢;have p:=B9v;refine Xq kr_ func227 U 146 U U λw0=>V3 λR b=>Wi U6 λb3=>Wg U5 λg=>C6 1 [0,3,4,5] b U<|G.freeze 1 U λ_ _ K=>U1 1 U λR b=>V1 (PtrTo.block (Mem.get K mup) _) U8<|Wb (qQ _ N.m_ aa.m_) U7<|C6 1 [0,3,4,5,17] b U<|G.cd (λQ=>?_) λQ=>?_
 .have S:m<d:=by
   have:kf m d<0:=by simpa using Q
   exact js.1 this
  refine U1 1 U λR b=>Wa (j:=0) U12<|C6 1 [4,5] b U<|Wd (Xu (CO ag U U U U U) ?_ LL);refine⟨U,_,_,U, ?_, ?_⟩
  .rw[Uo S];exact NineC.zero _
  rw[UO S];exact N.mono mup
 have S:d<=m:=by
  have h:¬ kf m d<0:=by simpa using Q
  rw[js]at h;omega
 obtain⟨n,hn⟩:∃n,a.length=n:=⟨_,rfl⟩;refine V3 λR b=>V1 (PtrTo.block (Mem.get K mup) _) U8<|C6 2 [0,3,4,5,21] b U<|G.cd (λad=>?_) λad=>?_
 .refine U1 2 U λR b=>WX U9 (Sg _) (by show 8*a.length<=281474976710656;omega) y_ fl_ λf=>Wa (j:=1) U12<|V5 [0,3,4] b U<|V3 λR b=>Wg U5 λk=>Wa (j:=0) U12<|V5 [0,3,4,6] b U<|U1 1 U λR b=>Wz (D8 _ A0 a.length c0) U7 λaG _ _ an=>V5 [3,4,6,26] b U ?_;obtain⟨bb,rfl,ao⟩:=an;refine Wk (L':=[.obj k (.cells ⟨[.int .u64 ((bB (a.drop (a.length-0)) % d:Nat):Int)]⟩ 285 (0,0)),.obj g (.cells ⟨[qU f a.length a.length]⟩ 271 (0,0)),.arr (qU f a.length a.length) 285 1 a.length ((List.replicate a.length 0).map cY).flatten]) (by rw[<- F6,Vl,Ty,show bB []=0 from U,Nat.zero_mod];rfl)<|G.rangeFunc U U U kr_ (uf _ bb _ _ a ao O.m_ om_) (λj e=>∃(c:List Nat),(c.length=a.length/\Dig9 c/\bB (c.drop (a.length-j))=bB (a.drop (a.length-j)) / d)/\e=[.obj k (.cells ⟨[.int .u64 ((bB (a.drop (a.length-j)) % d:Nat):Int)]⟩ 285 (0,0)),.obj g (.cells ⟨[qU f a.length a.length]⟩ 271 (0,0)),.arr (qU f a.length a.length) 285 1 a.length (c.map cY).flatten]) ⟨List.replicate a.length 0,⟨SG,(λx o=>by rw[TT o];decide),by rw[Vl,Ty,Vj al];simp[bB]⟩,U⟩ U (λ_ _=>rfl) (λu v=>[(3,[],p_ b3),(4,[],p_ g),(6,[],p_ k),(7,[],u),(8,[],v)]) (λl u v W1 e=>?_) (λl j u v e W1 s V=>?_) (λbD e s=>?_)
  .exact U0 1 [3,4,6,7,28] U<|U0 1 [3,4,6,7,8] U<|X6 ⟨U,U,U,U,U,trivial⟩
  .obtain⟨c,⟨I,L,B⟩,rfl⟩:=s;have ap:j<a.length:=by have:=(aT.1 V).1;rwa [gi]at this
   rw[wi ap]at V;cases V
   obtain⟨i,hi⟩:∃i,a.length-1-j=i:=⟨_,rfl⟩;have ae:a.length-j=i+1:=by omega
   obtain⟨T,hT⟩:∃T,bB (a.drop (i+1))=T:=⟨_,rfl⟩;have aq:=lu am.1 i;have aH:=S5 T H;have hX:T % d*B9+g9 a i<18446744073709551616:=by
    have:=SY B9 (show T % d<=999999999 by omega);rw[p]at this⊢;omega
   rw[hi,ae,hT,show a.getD i 0=g9 a i from rfl];rw[ae,hT]at B;have ar:T % d*B9+g9 a i=g9 a i+B9*(T % d):=by rw[S3,Uu]
   have W:=tV (t:=T) (x:=g9 a i) H;have ah:=mP (t:=T) H aq;rw[<- ar]at W ah;refine V3 λR b=>V9 ag U9<|D.int (((T % d*B9:Nat):Int)) U4 (by rw[show(1000000000:Int)=((B9:Nat):Int) from U,<- SK,IntKind.wrap_u64];omega) U2<|V2 U6<|D.int (((T % d*B9+g9 a i:Nat):Int)) U4 g_ U2<|Wa (j:=0) U12<|V5 [3,4,6,7] b U<|G.cut (λfr X e Y=>(True)/\fr=[]/\e=[.obj k (.cells ⟨[.int .u64 (((T % d*B9+g9 a i) % d:Nat):Int)]⟩ 285 (0,0)),.arr (qU f a.length a.length) 285 1 a.length (aB (c.map cY).flatten [Value.int .u64 (((T % d*B9+g9 a i) / d:Nat):Int)] (i*1)),.obj g (.cells ⟨[qU f a.length a.length]⟩ 271 (0,0))]) ?_ (λfr aI aJ Y aK s=>?_)
   .refine WW (.cut [0,1,2,3,4,5,6,8,9,10,12] (.alt 7 (.fin [11,13,14]) (.alt 13 (.fin [7,11,14]) .stop))) [] U U kr_ λR p b w=>V9 af U9<|V2 U6<|V9 ag U9<|V1 (PtrTo.block (Mem.get K mup) _) U8<|Wf F.m_ U10 om_ (rfl:([d].map cY)[(0:Int).toNat]?=some (cY d)) fl_ λaL av=>V1 av U8<|WZ (T % d*B9+g9 a i) (d) U6 om_ (.inr ⟨U,by omega⟩) U2<|V1 (PtrTo.block (Mem.get K mup) _) U8<|Wf F.m_ U10 om_ (rfl:([d].map cY)[(0:Int).toNat]?=some (cY d)) fl_ λaM aw=>V1 aw U8<|Ww (i*1) U10 w_ U2<|WK w U ⟨?_, ?_,trivial⟩
    .first|refine WU ag U9 ?_|refine WU af U9 ?_
     refine WT (T % d*B9+g9 a i) (d) U6 om_ U2<|WA (j:=2) U11 (by show i*1+1<=_;rw[bM eM,I];omega)<|Wa (j:=1) U12<|WV [] trivial (b _ _ _ U ?_);clear b p w R;exact Wj 0 l_ (fr':=[]) trivial ⟨trivial,U,U⟩
    refine WA (j:=2) U11 (by show i*1+1<=_;rw[bM eM,I];omega) ?_
    first|refine WU ag U9 ?_|refine WU af U9 ?_
    refine WT (T % d*B9+g9 a i) (d) U6 om_ U2<|Wa (j:=1) U12<|WV [] trivial (b _ _ _ U ?_);clear b p w R;exact Wj 0 l_ (fr':=[]) trivial ⟨trivial,U,U⟩
   obtain⟨_,rfl,rfl⟩:=s;refine G.perm (L':=[.obj k (.cells ⟨[.int .u64 (((T % d*B9+g9 a i) % d:Nat):Int)]⟩ 285 (0,0)),.obj g (.cells ⟨[qU f a.length a.length]⟩ 271 (0,0)),.arr (qU f a.length a.length) 285 1 a.length (aB (c.map cY).flatten [Value.int .u64 (((T % d*B9+g9 a i) / d:Nat):Int)] (i*1))]) (pkL [0,1,0] U) ?_;have ai:bB (a.drop i)=g9 a i+B9*T:=by rw[fF om_,hT]
   have ax:bB (a.drop (a.length-(j+1))) % d=(T % d*B9+g9 a i) % d:=by rw[show a.length-(j+1)=i by omega,ai,W.2]
   exact Wk (L':=[.obj k (.cells ⟨[.int .u64 ((bB (a.drop (a.length-(j+1))) % d:Nat):Int)]⟩ 285 (0,0)),.obj g (.cells ⟨[qU f a.length a.length]⟩ 271 (0,0)),.arr (qU f a.length a.length) 285 1 a.length ((c.set i ((T % d*B9+g9 a i) / d)).map cY).flatten]) (by rw[ax,<- bI eM _ (by omega:i<c.length)];rfl)<|XI (R:=λe=>∃(c:List Nat),(c.length=a.length/\Dig9 c/\bB (c.drop (a.length-(j+1)))=bB (a.drop (a.length-(j+1))) / d)/\e=[.obj k (.cells ⟨[.int .u64 ((bB (a.drop (a.length-(j+1))) % d:Nat):Int)]⟩ 285 (0,0)),.obj g (.cells ⟨[qU f a.length a.length]⟩ 271 (0,0)),.arr (qU f a.length a.length) 285 1 a.length (c.map cY).flatten]) (Sp _) ⟨c.set i ((T % d*B9+g9 a i) / d),⟨by simp[I],L.set ah,by rw[show a.length-(j+1)=i by omega,ai,lS om_,B,W.1];omega⟩,U⟩
  obtain⟨c,⟨I,L,B⟩,rfl⟩:=s;rw[gi,Vh,Tt,Tt,ab]at B;rw[gi,Vh,Tt,ab];refine G.freezeArr 3 (c.map cY) U2 (by intro r hr;obtain⟨y,_,rfl⟩:=Sn.1 hr;rfl) (by rw[au,I]) λCq aN aj=>G.cut (λfr X e Y=>∃(E z:Value),(NineC X E (m / d)/\NineC X z (m % d))/\fr=[(4,[],p_ g),(5,[],z)]/\e=[.obj g (.cells ⟨[E]⟩ 271 (0,0)),.obj bD (.deferred (some [])),.obj k (.cells ⟨[.int .u64 ((m % d:Nat):Int)]⟩ 285 (0,0))]) ?_ (λfr aO aP Y aQ s=>?_)
  .refine WW (.cut [0,2] (.alt 1 (.fin [3,4,5,6]) (.alt 3 (.fin [1,4,5,6]) .stop))) [] U U kr_ λR p b w=>V9 ac U9<|V9 af U9<|WK w U ⟨?_, ?_,trivial⟩
   .refine Wz (wV _ L aj.m_) U7 λE ay _ A=>Wq [cY (m % d)] U12 λaz aA _ Z=>Ws (wV _ (l:=[m % d]) (λx o=>by rw[SD.1 o];have:=S5 m H;omega) Z.m_) U7 fl_ (λz aC _ J=>?_);obtain⟨A7,m7,c7,rfl⟩:=A.form;refine Wa (j:=2) U12<|V2 U6<|V5 [4,5] b U ?_;clear b p w R;rw[show bB [m % d]=m % d from(by show m % d+B9*0=m % d;omega)]at J;rw[B]at A;exact Wj 0 mup (hn_ [4,5] U) ⟨_,z,⟨A.mono mup,J.mono mup⟩,U,U⟩
   refine Wq [cY (m % d)] U12 λaz aA _ Z=>Wz (wV _ L aj.m_) U7 λE ay _ A=>Ws (wV _ (l:=[m % d]) (λx o=>by rw[SD.1 o];have:=S5 m H;omega) Z.m_) U7 fl_ (λz aC _ J=>?_);obtain⟨A7,m7,c7,rfl⟩:=A.form;refine Wa (j:=2) U12<|V2 U6<|V5 [4,5] b U ?_;clear b p w R;rw[show bB [m % d]=m % d from(by show m % d+B9*0=m % d;omega)]at J;rw[B]at A;exact Wj 0 mup (hn_ [4,5] U) ⟨_,z,⟨A.mono mup,J.mono mup⟩,U,U⟩
  obtain⟨E,z,⟨ak,aD⟩,rfl,rfl⟩:=s;refine G.perm (L':=[.obj bD (.deferred (some [])),.obj g (.cells ⟨[E]⟩ 271 (0,0)),.obj k (.cells ⟨[.int .u64 ((m % d:Nat):Int)]⟩ 285 (0,0))]) (pkL [1,0,0] U) ?_;obtain⟨A7,m7,c7,rfl⟩:=ak.form;refine Wd (X4 (CO ag U U U U U) ?_);exact⟨U,_,_,U,ak,aD⟩
 exact absurd ad dc_
theorem wP (h:Dig9 l)(a:k<=l.length):bB l / B9 ^ k=bB (l.drop k):=by
 have e:bB l=bB (l.take k)+B9 ^ k*bB (l.drop k):=by
  conv=>lhs;rw[<- Tf k l]
  rw[fJ,Sy,Tj a]
 have h1:=jk (h.take k);rw[Sy,Tj a]at h1;rw[e,Vn _ _ (UQ dc_),Uo h1,Tw]
theorem vA {b a:List Nat}(f:zz b)(c:zz a)(j:0<a.length)(m:a.length<=b.length):bB b / bB a<=bB (b.drop (a.length-1)) / g9 a (a.length-1)/\0<g9 a (a.length-1):=by
 have d:bB (a.drop (a.length-1))=g9 a (a.length-1):=by
  rw[fF om_,show a.length-1+1=a.length by omega,Ty];show _+B9*0=_;omega
 have h1:=wP c.1 (k:=a.length-1) om_;have h2:=wP f.1 (k:=a.length-1) om_;have e:0<g9 a (a.length-1):=by
  rcases Tx (g9 a (a.length-1)) with h|h
  .have h3:=yC (l:=a) (i:=a.length-1) om_;rw[h]at h3;exact absurd (by rw[Uz];exact h3) c.2
  exact h
 refine⟨?_,e⟩;rw[<- h2,<- d,<- h1,Nat.div_div_eq_div_mul];have g:0<B9 ^ (a.length-1):=UQ dc_;rw[d]at h1;refine Nat.div_le_div_left (Nat.mul_div_le _ _) ?_;rw[h1];exact UB g e
theorem Dw (h:l.length=k+1):bB (l.drop k)=g9 l k:=by
 rw[fF om_,show k+1=l.length by omega,Ty];show _+B9*0=_;omega
theorem Lj (h:l.length=k+2):bB (l.drop k)=g9 l (k+1)*B9+g9 l k:=by
 rw[fF om_,Dw (k:=k+1) om_,S3];omega
theorem Bt (c:zz a)(d:zz b)(h:bB b<=bB a):b.length<=a.length:=by
 rcases SP a.length b.length with h1|h1
 .have:=vm c.1 d h1;omega
 exact h1
theorem zh (c:zz a)(d:zz b)(h:bB a<B9*bB b):a.length<=b.length+1:=by
 have h2:=jk d.1;refine ud c (Tk h ?_);rw[TB,S3];exact SY _ (VT h2)
theorem jU {f:Nat}(a:m<B9 ^ k)(b:f<B9):m*f<B9 ^ (k+1):=by
 rw[TB];exact TL a b
theorem Rm {a:Nat}(h:x<B9*a)(b:a<B9 ^ k):x<B9 ^ (k+1):=by
 rw[TB,S3 _ B9];exact Uq h (Nat.mul_lt_mul_of_pos_left b dc_)
theorem Mn (l:List Nat):(l.map cY).all (λr=>r.all kR)=true:=by
 rw[List.all_map,SA];intro x _;rfl
theorem Ft (C:Mem)(va vb:Value)(m n:Nat)(ha:NineC C va m)(hb:NineC C vb n)(hm:m<B9 ^ 100000)(aG:B9<=n) :
  Pur cx.P 227 [va,vb] C λu D=>∃q r,u=.tuple #[q,r]/\NineC D q (m / n)/\NineC D r (m % n):=by
 have aH:0<n:=Tk dc_ aG;have ad:=ha;have ae:=hb;obtain⟨B,Q,bE,ah⟩:=hb;obtain⟨A0,a0,c0,rfl⟩:=ha.form;obtain⟨B0,d0,rfl,a2,bF,_⟩:=id ah;simp only[au]at ah ae a2⊢;have bG:=mx_
 have S:=B9v;have bH:2<=B.length:=by
  rcases SP B.length 2 with h|h
  .have h2:=jk Q.1;have h3:B9 ^ B.length<=B9 ^ 1:=SJ dc_ om_;rw[Nat.pow_one]at h3;omega
  exact h
 refine Xq kr_ func227 U 146 U U λw0=>V3 λR a=>Wi U6 λb3=>Wg U5 λe=>C6 1 [0,3,4,5] a U<|U1 1 U λR a=>?_
 skip
 refine V9 af U9<|Wb (qQ _ ad.m_ ae.m_) U7<|C6 1 [0,3,4,5,17] a U<|G.cd (λai=>?_) λai=>?_
 .have V:m<n:=by
   have:kf m n<0:=by simpa using ai
   exact js.1 this
  refine U1 1 U λR a=>Wa (j:=0) U12<|C6 1 [4,5] a U<|Wd (Xu (CO ag U U U U U) ?_ LL);refine⟨U,_,_,U, ?_, ?_⟩
  .rw[Uo V];exact NineC.zero _
  rw[UO V];exact ad.mono mup
 have V:n<=m:=by
  have h:¬ kf m n<0:=by simpa using ai
  rw[js]at h;omega
 refine V3 λR a=>V9 af U9<|C6 2 [0,3,4,5,21] a U<|G.cd (λaI=>?_) λaI=>?_
 .exact absurd aI am
 have bJ:=lu Q.1 (B.length-1);have a3:(B.map cY)[((B.length:Int)-1).toNat]?=some (cY (g9 B (B.length-1))):=by
  rw[show((B.length:Int)-1).toNat=B.length-1 by omega];exact jC om_
 obtain⟨f,hf⟩:∃f,B9 / (g9 B (B.length-1)+1)=f:=⟨_,rfl⟩;refine V3 λR a=>V9 af U9<|V9 af U9<|V2 U6<|V8 _ U U6<|Wf ah.m_ U10 om_ a3 fl_ λbK a4=>V1 a4 U8<|D.int (((g9 B (B.length-1)+1:Nat):Int)) U4 g_ U2<|WZ (B9) (g9 B (B.length-1)+1) U6 om_ (.inr ⟨U,by omega⟩) U2<|C6 1 [0,3,4,5,9] a U ?_;clear a R;rw[hf];have w:0<f:=by rw[<- hf];exact Nat.div_pos om_ om_
 have o:f<B9:=by
  rw[<- hf];have h1:=(vA Q Q om_ (Sg _)).2;exact Nat.div_lt_self dc_ om_
 have y:n<B9 ^ 100000:=Te V hm;refine Wn [0,1,3,4,2,5,6,7] [] U kr_ λR S a=>V4 2 U<|V9 af U9<|V2 U6<|Ws (zQ (k:=100000) _ ad.m_ hm o om_) U7 fl_ λbL _ _ a5=>Ws (zQ (k:=100000) _ ae.m_ y o om_) U7 fl_ λbN _ a6 aJ=>V2 U6 ?_;obtain⟨a7,bO,a8,rfl⟩:=aJ.form;refine Wa (j:=1) U12<|V5 [0,3,4,5,9] a U ?_;clear a S R;have aK:=a5.mono a6;have aL:=aJ;refine G.freeze 0 U (λC3 aM v=>?_);obtain⟨P,a9,aj,bP,ak⟩:=(aK.mono aM).get (jU hm o);obtain⟨W,p,z,bQ,Y⟩:=(aL.mono aM).get (jU y o);obtain⟨PA,pc,rfl,_⟩:=id ak;obtain⟨bR,bS,ba,_⟩:=id Y;cases ba
 simp only[au]at ak Y v aK aL⊢;have an:NineC C3 (.slice a7 W.length a8) (n*f):=⟨W,p,z,Y⟩;have A:0<n*f:=UB aH w;have ao:n*f<B9 ^ 100001:=dK (k:=100001) (n:=100000+1) (jU (k:=100000) y o) (Sg _);have bT:2<=W.length:=by
  have h1:B9<=bB W:=by rw[z];exact Su aG (UL _ w)
  rcases SP W.length 2 with h|h
  .have h2:=jk p.1;have h3:B9 ^ W.length<=B9 ^ 1:=SJ dc_ om_;rw[Nat.pow_one]at h3;omega
  exact h
 have bU:1<=P.length:=by
  rcases Tx P.length with h|h
  .have:P=[]:=S9 h;subst this;have h1:m*f=0:=by rw[<- aj];rfl
   have h2:0<m*f:=UB om_ w;omega
  exact h
 have bb:=(vA p p om_ (Sg _)).2;have bV:=lu p.1 (W.length-1);refine U1 2 U λR a=>WX U9 (Sg _) (by show 8*P.length<=281474976710656;omega) y_ fl_ λd=>Wa (j:=1) U12<|V5 [0,3,4,5,9] a U<|V3 λR a=>V1 (PtrTo.block (Mem.get v mup) _) U8<|V1 (PtrTo.block (Mem.get v mup) _) U8<|V2 U6<|V8 _ U U6<|Wf Y.m_ U10 om_ (by rw[show((W.length:Int)-1).toNat=W.length-1 by omega];exact jC om_:(W.map cY)[((W.length:Int)-1).toNat]?=some (cY (g9 W (W.length-1)))) fl_ λbW bc=>V1 bc U8<|C6 1 [0,3,4,5,9,10] a U<|U1 2 U λR a=>V8 _ U U6<|C6 1 [0,3,4,5,9,10,11] a U<|Wk (L':=[.obj e (.cells ⟨[qU d P.length P.length]⟩ 271 (0,0)),.arr (qU d P.length P.length) 285 1 P.length ((List.replicate P.length 0).map cY).flatten]) (by rw[<- F6];rfl)<|G.loop (λfr Z g E=>∃(i:Nat)(c:List Nat)(v5:Value),(i<=P.length/\c.length=P.length/\Dig9 c/\bB (c.drop i)=bB (P.drop i) / (n*f)/\NineC Z v5 (bB (P.drop i) % (n*f))/\∀j,j<i->g9 c j=0)/\fr=[(0,[],.slice PA P.length pc),(3,[],p_ b3),(4,[],p_ e),(5,[],v5),(9,[],.int .u64 f),(10,[],.int .u64 (g9 W (W.length-1))),(11,[],i_ ((i:Int)-1))]/\g=[.obj e (.cells ⟨[qU d P.length P.length]⟩ 271 (0,0)),.arr (qU d P.length P.length) 285 1 P.length (c.map cY).flatten]/\E=i+1) (hn_ [0,3,4,5,9,10,11] U) ⟨P.length,List.replicate P.length 0,_,⟨Sg _,SG,(λx hx=>by rw[TT hx];decide),by rw[Ty,Vj al];simp[bB],by rw[Ty,show bB []=0 from U,Nat.zero_mod];exact NineC.zero _,λj _=>DC _ j⟩,U,U,U⟩ (λfr bX bY m _ F=>?_);obtain⟨i,c,v5,⟨hi,aa,ap,H,ab,aq⟩,rfl,rfl,rfl⟩:=F;refine U0 2 [0,3,4,5,9,10,11,78] U<|G.cd (λar=>?_) λar=>?_
 .have aN:0<i:=by
   have:(0:Int)<=(i:Int)-1:=by simpa using ar
   omega
  obtain⟨j,rfl⟩:∃j,i=j+1:=⟨i-1,by omega⟩;obtain⟨T,hT⟩:∃T,bB (P.drop (j+1))=T:=⟨_,rfl⟩;rw[hT]at H ab;have aO:=S5 T A;obtain⟨I,bd,be,bZ,aP⟩:=ab.get (m:=100001) (Uq aO (dK (k:=100001) (n:=100000+1) (jU (k:=100000) y o) (Sg _)));obtain⟨RA,rc,aQ,_⟩:=id aP;rw[au]at aQ;subst aQ;obtain⟨X,hX⟩:∃X,g9 P j+B9*(T % (n*f))=X:=⟨_,rfl⟩;have aR:=lu a9.1 j;have bf:bB (g9 P j::I)=X:=by rw[bB,be,hX]
  have J:=tV (t:=T) (x:=g9 P j) A;have bg:=mP (t:=T) A aR;rw[hX]at J bg;have ac:bB (P.drop j)=g9 P j+B9*T:=by rw[fF om_,hT]
  refine Wt [(7,3)] U λR a=>V4 2 U<|Wf ak.m_ U10 om_ (by rw[show((((j+1:Nat):Int)-1)).toNat=j by omega];exact jC om_:(P.map cY)[((((j+1:Nat):Int)-1)).toNat]?=some (cY (g9 P j))) fl_ λb0 bh=>V1 bh U8<|W0 [cY (g9 P j)] U12 fl_ λb1=>V2 U6<|D.append (j:=0) U11 aP.m_ (Mn I) (by simp only[au,Sk,maxLen];omega) (by simp only[au,Sk];omega) fl_ λb2=>D.call (gT _ _ (g9 P j::I) (n:=1+(I.map cY).length) (by rw[au];simp;omega)) U (.inr dc_) U6 (Sp _) fl_ λbi bj b5 _ bk=>C6 1 [0,3,4,5,9,10,11] a U ?_;clear a R;obtain⟨rfl,hu⟩:=bk;have K:NineC bj bi X:=⟨F5 (g9 P j::I),iR (λx hx=>(Sw.1 hx).elim (λh=>by rw[h];exact aR) (bd.1 x)),by rw[iQ,bf],hu⟩;have aS:X<B9*(n*f):=by
   have h1:B9*(T % (n*f)+1)<=B9*(n*f):=TJ _ aO;rw[Ts]at h1;omega
  have aT:X<B9 ^ 100002:=dK (k:=100002) (n:=100001+1) (Rm (k:=100001) aS ao) (Sg _);obtain⟨b,L,av,b6,aw⟩:=K.get aT;obtain⟨XA,xc,aU,_⟩:=id aw;rw[au]at aU;subst aU;refine U1 1 U λR a=>V1 (PtrTo.block (Mem.get v mup) _) U8<|Wb (qQ _ K.m_ an.m_) U7<|C6 1 [0,3,4,5,9,10,11,92] a U<|G.cd (λax=>?_) λax=>?_
  .have aV:X<n*f:=by
    have:kf X (n*f)<0:=by simpa using ax
    exact js.1 this
   refine U1 1 U λR a=>V8 _ U U6<|C6 1 [0,3,4,5,9,10,11] a U ?_;clear a R;rw[show((j+1:Nat):Int)-1-1=(j:Int)-1 by omega];refine We (m':=j+1) om_ mup (hn_ [0,3,4,5,9,10,11] U) ⟨j,c,_,⟨by omega,aa,ap,by rw[fF (l:=c) om_,aq j om_,H,ac,J.1,Uo aV];omega,by rw[ac,J.2,UO aV];exact K.mono mup,λj' h=>aq j' om_⟩,U,U,U⟩
  have bl:n*f<=X:=by
   have h:¬ kf X (n*f)<0:=by simpa using ax
   rw[js]at h;omega
  have bm:=Bt L p (by rw[av,z];exact bl);have b7:=zh L p (by rw[av,z];exact aS);have ay:=(vA L p om_ bm).1;obtain⟨s,az⟩:∃s,bB (b.drop (W.length-1))=s:=⟨_,rfl⟩;rw[av,z,az]at ay;have b8:=lu L.1 (b.length-1);have b9:=lu L.1 (b.length-2);refine U1 3 U λR a=>V8 _ U U6<|Wf aw.m_ U10 om_ (by rw[show((b.length:Int)-1).toNat=b.length-1 by omega];exact jC om_:(b.map cY)[((b.length:Int)-1).toNat]?=some (cY (g9 b (b.length-1)))) fl_ λca bn=>V1 bn U8<|C6 1 [0,3,4,5,9,10,11,12] a U<|U1 2 U λR a=>V1 (PtrTo.block (Mem.get v mup) _) U8<|C6 2 [0,3,4,5,9,10,11,12,103] a U<|G.cut (λfr Z g E=>(s<1000000000000000000)/\fr=[(0,[],.slice PA P.length pc),(3,[],p_ b3),(4,[],p_ e),(5,[],.slice XA b.length xc),(9,[],.int .u64 f),(10,[],.int .u64 (g9 W (W.length-1))),(11,[],i_ (((j+1:Nat):Int)-1)),(12,[],.int .u64 (s:Nat))]/\g=[.obj e (.cells ⟨[qU d P.length P.length]⟩ 271 (0,0)),.arr (qU d P.length P.length) 285 1 P.length (c.map cY).flatten]) ?_ (λfr _ cb E _ F=>?_)
  .refine G.cd (λaA=>?_) λaA=>?_
   .have bo:b.length=W.length-1+2:=by
     have:(W.length:Int)<(b.length:Int):=by simpa using aA
     omega
    have M:=Lj bo;rw[az,show W.length-1+1=b.length-1 by omega,show W.length-1=b.length-2 by omega]at M;have bp:g9 b (b.length-1)*B9<=999999999*B9:=SY _ om_;rw[show 999999999*B9=999999999000000000 from rfl]at bp;refine U1 1 U λR a=>D.int (((g9 b (b.length-1)*B9:Nat):Int)) U4 (by rw[show(1000000000:Int)=((B9:Nat):Int) from U,<- SK,IntKind.wrap_u64];omega) U2<|V4 3 U<|V8 _ U U6<|Wf aw.m_ U10 om_ (by rw[show((b.length:Int)-2).toNat=b.length-2 by omega];exact jC om_:(b.map cY)[((b.length:Int)-2).toNat]?=some (cY (g9 b (b.length-2)))) fl_ λcc bq=>V1 bq U8<|D.int (((s:Nat):Int)) U4 (by rw[M,IntKind.wrap_u64];omega) U2<|C6 1 [0,3,4,5,9,10,11,12] a U ?_;clear a R;refine Wj 0 mup (hn_ [0,3,4,5,9,10,11,12] U) ⟨by omega,U,U⟩
   have br:b.length=W.length-1+1:=by
    have:¬ (W.length:Int)<(b.length:Int):=by simpa using aA
    omega
   have M:=Dw br;rw[az,show W.length-1=b.length-1 by omega]at M;rw[<- M];refine Wj 0 mup (hn_ [0,3,4,5,9,10,11,12] U) ⟨by omega,U,U⟩
  obtain⟨ce,rfl,rfl⟩:=F;obtain⟨N,aC⟩:∃N,s / g9 W (W.length-1)=N:=⟨_,rfl⟩;rw[aC]at ay;have cf:N<=s:=by rw[<- aC];exact Tr _ _
  refine U1 2 U λR a=>WZ (s) (g9 W (W.length-1)) U6 bb (.inr ⟨U,by omega⟩) U2 ?_;rw[aC];refine D.min (((min N 999999999:Nat):Int)) U6 om_ U2<|C6 1 [0,3,4,5,9,10,11,12] a U<|V3 λR a=>V1 (PtrTo.block (Mem.get v mup) _) U8<|V2 U6<|Ws (zQ (k:=100001) _ an.m_ ao om_ om_) U7 fl_ λbs _ _ bt=>C6 1 [0,3,4,5,9,10,11,12,13] a U<|G.loop (λfr Z g E=>∃(dd:Nat)(aD:Value),(X / (n*f)<=dd/\dd<B9/\NineC Z aD (n*f*dd))/\fr=[(0,[],.slice PA P.length pc),(3,[],p_ b3),(4,[],p_ e),(5,[],.slice XA b.length xc),(9,[],.int .u64 f),(10,[],.int .u64 (g9 W (W.length-1))),(11,[],i_ (((j+1:Nat):Int)-1)),(12,[],.int .u64 (dd:Nat)),(13,[],aD)]/\g=[.obj e (.cells ⟨[qU d P.length P.length]⟩ 271 (0,0)),.arr (qU d P.length P.length) 285 1 P.length (c.map cY).flatten]/\E=dd+1) (hn_ [0,3,4,5,9,10,11,12,13] U) ⟨min N 999999999,bs,⟨by have h:=Nat.le_min.2 ⟨ay,(by omega:X / (n*f)<=999999999)⟩;exact h,by omega,bt.mono mup⟩,U,U,U⟩ (λfr cg ch m _ F=>?_);obtain⟨dd,aD,⟨bu,aW,aE⟩,rfl,rfl,rfl⟩:=F;refine U1 2 U λR a=>Wb (qQ _ aE.m_ K.m_) U7<|C6 1 [0,3,4,5,9,10,11,12,13,123] a U<|G.cd (λaF=>?_) λaF=>?_
  .have O:X<n*f*dd:=by
    have:0<kf (n*f*dd) X:=by simpa using aF
    exact HB.1 this
   have bv:1<=dd:=by
    rcases Tx dd with h|h
    .rw[h]at O;omega
    exact h
   refine U1 1 U λR a=>V1 (PtrTo.block (Mem.get v mup) _) U8<|Ws (vi (k:=100002) _ aE.m_ an.m_ (dK (k:=100002) (n:=100001+1) (jU (k:=100001) ao aW) (Sg _)) (UL _ bv) om_) U7 fl_ λbw _ _ aX=>C6 1 [0,3,4,5,9,10,11,12,13] a U<|U1 1 U λR a=>D.int (((dd-1:Nat):Int)) U4 g_ U2<|C6 1 [0,3,4,5,9,10,11,12,13] a U ?_;clear a R;rw[show n*f*dd-n*f=n*f*(dd-1) from by rw[Nat.mul_sub,T0]]at aX;refine We (m':=dd-1+1) om_ mup (hn_ [0,3,4,5,9,10,11,12,13] U) ⟨dd-1,bw,⟨by have h:=(Ug A).2 (by rw[S3];exact O);omega,by omega,aX.mono mup⟩,U,U,U⟩
  have O:n*f*dd<=X:=by
   have h:¬ 0<kf (n*f*dd) X:=by simpa using aF
   rw[HB]at h;omega
  have aY:dd=X / (n*f):=Nat.le_antisymm ((Nat.le_div_iff_mul_le A).2 (by rw[S3];exact O)) bu;have bx:X-n*f*dd=X % (n*f):=by rw[aY];have:=Vs X (n*f);omega
  refine Wn [0,1,2,3,4,5,6,7,8] [] U kr_ λR S a=>V9 ag U9<|V4 4 U<|Ws (vi (k:=100002) _ K.m_ aE.m_ aT O om_) U7 fl_ λbz _ _ aZ=>Ww (j*1) U10 (λ_=>⟨by omega,by omega,(by rw[show(((j+1:Nat):Int)-1).toNat=j by omega])⟩) U2<|WA (j:=1) U11 (by show j*1+1<=_;rw[bM eM,aa];omega)<|V2 U6<|V5 [0,3,4,5,9,10,11] a U<|U1 1 U λR a=>V8 _ U U6<|C6 1 [0,3,4,5,9,10,11] a U ?_;clear a R;rw[show((j+1:Nat):Int)-1-1=(j:Int)-1 by omega];refine G.perm (L':=[.obj e (.cells ⟨[qU d P.length P.length]⟩ 271 (0,0)),.arr (qU d P.length P.length) 285 1 P.length (aB (c.map cY).flatten (cY dd) (j*1))]) (List.Perm.swap _ _ _)<|Wk (L':=[.obj e (.cells ⟨[qU d P.length P.length]⟩ 271 (0,0)),.arr (qU d P.length P.length) 285 1 P.length ((c.set j dd).map cY).flatten]) (by rw[<- bI eM _ (by omega:j<c.length)]) ?_;rw[bx]at aZ;refine We (m':=j+1) om_ mup (hn_ [0,3,4,5,9,10,11] U) ⟨j,c.set j dd,bz,⟨by omega,by simp[aa],ap.set aW,by rw[lS om_,H,ac,J.1,aY];omega,by rw[ac,J.2];exact aZ.mono mup,λj' h=>by rw[ry om_];exact aq j' om_⟩,U,U,U⟩
 have aN:i=0:=by
  have:¬ (0:Int)<=(i:Int)-1:=by simpa using ar
  omega
 subst aN;rw[Tt,Tt,aj,Nat.mul_div_mul_right _ _ w]at H;rw[Tt,aj,Nat.mul_mod_mul_right]at ab;refine U1 2 U λR a=>Wq [cY f] U12 (λci _ _ bA=>?_);refine Ws (tU _ _ _ (m % n*f) f ab.m_ (by
  have h1:=jU (k:=100000) (Uq (S5 m aH) y) o;exact dK (k:=200000) (n:=100000+1) h1 dc_) bA.m_ w o) U7 fl_ (λcj _ _ bC=>?_)
 obtain⟨q2,r2,rfl,a1,ck⟩:=bC;rw[Nat.mul_div_cancel _ w]at a1;refine C6 4 [4,5] a U<|G.perm (L':=[.arr (qU d P.length P.length) 285 1 P.length (c.map cY).flatten,.obj e (.cells ⟨[qU d P.length P.length]⟩ 271 (0,0))]) (List.Perm.swap _ _ _)<|Wt [(1,3)] U λR a=>V9 af U9<|D.call (gT _ _ c aa) U (.inr dc_) U6 (Sp _) fl_ λcl _ cm _ bD=>V2 U6 ?_;obtain⟨rfl,hu⟩:=bD;obtain⟨Au,cu,rfl,_⟩:=id hu;refine Wa (j:=0) U12<|C6 1 [4,5] a U<|Wd (Xu (CO ag U U U U U) ?_ LL);exact⟨U,_,_,U,⟨F5 c,iR ap,by rw[iQ,H],hu⟩,a1.mono mup⟩
theorem yN (C:Mem)(a b:Value)(m n:Nat)(g:NineC C a m)(h:NineC C b n)(i:m<B9 ^ 100000)(f:0<n) :
  Pur cx.P 227 [a,b] C λu D=>∃q r,u=.tuple #[q,r]/\NineC D q (m / n)/\NineC D r (m % n):=by
 rcases SP n B9 with c|c
 .obtain⟨l,h1,h2,h3,h4⟩:=h.get (m:=1) (by rw[Nat.pow_one];exact c);have j:l≠[]:=λe=>by rw[e]at h2;rw[<- h2]at f;exact absurd f dc_
  obtain⟨d,rfl⟩:∃d,l=[d]:=by
   cases l with
  |nil=>exact absurd rfl j
  |cons d l=>cases l with
   |nil=>exact⟨d,rfl⟩
   |cons e l=>simp at h3
  have hd:d=n:=by rw[<- h2];show d=d+B9*0;omega
  subst hd;exact tU C a b m d g (dK (k:=200000) (n:=100000) i dc_) h4 f c
 exact Ft C a b m n g h i c
theorem Lw (C:Mem)(s:Str)(c:UInt8):Gives cx.P 250 [ae s,ae [c]] C (.bool (cA c s).2):=by
 exact V7 func250 8 U3 λw0=>U0 1 [0,1] U<|U1 2 U λR a=>Wb (AJ _ s c) U7<|C6 1 [4] a U<|V6 U2<|⟨U,U⟩
theorem Gn (C:Mem)(s:Str)(c:UInt8):Gives cx.P 277 [ae s,ae [c]] C (ae (cA c s).1):=by
 refine V7 func277 13 U3 λw0=>U0 1 [0,1] U<|U1 2 U λR d=>Wb (AJ _ s c) U7<|V5 [0,1,7] d U<|G.cd (λa=>?_) λa=>?_
 .have h:s.head?=some c:=SQ λh=>by unfold cA at a;rw[aF h]at a;cases a
  have e:1<=s.length:=by cases s with
  |nil=>cases h
  |cons b s=>simp
  refine U1 3 U λR d=>WQ 1 s.length U9 (λ_=>⟨.inr ⟨_,U⟩,.inl ⟨U,U⟩,.inl ⟨U,U⟩,by omega,Sg _,Sg _⟩) U2<|C6 1 [4] d U<|V6 U2 ?_;unfold cA;rw[aK h];refine⟨?_,U⟩;rw[Ss,List.drop_one];rfl
 have h:¬ s.head?=some c:=λh=>by unfold cA at a;rw[aK h]at a;cases a
 refine U0 2 [4] U<|V6 U2 ?_;unfold cA;rw[aF h];exact⟨U,U⟩
theorem Cd (C:Mem)(s:Str)(c:UInt8):Gives cx.P 225 [ae s,ae [c]] C (ae (cA c s).1):=by
 exact V7 func225 8 U3 λw0=>U0 1 [0,1] U<|U1 2 U λR a=>Wb (Gn _ s c) U7<|C6 1 [4] a U<|V6 U2<|⟨U,U⟩
def er (z:Int):Int:=if z<0 then -1 else if z=0 then 0 else 1
theorem mF (C:Mem)(z:Int):Gives cx.P 186 [ae (txt z)] C (i_ (er z)):=by
 refine V7 func186 9 U3 λw0=>U0 1 [0] U ?_
 skip
 refine U0 3 [0,3] U<|G.cd (λh3=>?_) λh3=>?_
 .have b:z=0:=by
   have h:=kN z;rw[h]at h3;exact RD h3
  exact U0 1 [2] U<|V6 U2<|⟨by rw[b];rfl,U⟩
 have b:z≠0:=by
  have h:=kN z;rw[h]at h3;exact Si h3
 refine U1 1 U λR d=>Wb (Lw _ (txt z) 45) U7<|C6 1 [6] d U<|G.cd (λa=>?_) λa=>?_
 .have c:z<0:=by
   rw[dM]at a;exact RD a
  exact U0 1 [2] U<|V6 U2<|⟨by rw[er,aK c],U⟩
 have c:¬ z<0:=by
  rw[dM]at a;exact Si a
 exact U0 1 [2] U<|V6 U2<|⟨by rw[er,aF c,aF b],U⟩
theorem tE (C:Mem)(a:Tabs C)(z:Int)(b:-9223372036854775808<=z)(c:z<=9223372036854775807):Gives cx.P 185 [i_ z] C (ae (txt z)):=by
 exact V7 func185 5 U3 λw0=>U0 1 [0] U<|U1 1 U λR d=>Wb (fZ _ a.m_ z b c) U7<|C6 1 [2] d U<|V6 U2<|⟨U,U⟩
theorem jl (z:Int):(txt z).length<=(bh z.natAbs).length+1:=by unfold txt;split <;> simp
theorem vu (C:Mem)(z:Int)(e:(bh z.natAbs).length<=1000000):Gives cx.P 133 [ae (txt z)] C (ae (txt (-z))):=by
 have f:=jl z;refine V7 func133 14 U3 λw0=>U0 1 [0] U<|U1 1 U λR a=>Wb (mF _ z) U7<|V5 [0,4] a U<|U0 2 [0,4,5] U<|G.cd (λh5=>?_) λh5=>?_
 .have d:0<z:=by
   have h:er z=1:=by simpa using h5
   unfold er at h;split at h
   .cases h
   split at h
   .cases h
   omega
  refine U1 1 U λR a=>WS U6 (λ_=>(by simp only[SC,SZ];omega)) U2<|C6 1 [2] a U<|V6 U2<|⟨?_,U⟩;unfold txt;rw[aF om_,aK om_,Vm];rfl
 have d:¬ 0<z:=λh=>by
  have h2:er z=1:=by unfold er;rw[aF om_,aF om_]
  rw[h2]at h5;cases h5
 refine U0 2 [0,9] U<|G.cd (λb=>?_) λb=>?_
 .have c:z<0:=by
   have h:er z=-1:=by simpa using b
   unfold er at h;split at h
   .assumption
   split at h <;> cases h
  refine U1 1 U λR a=>WQ 1 (txt z).length U9 (λ_=>⟨.inr ⟨_,U⟩,.inl ⟨U,U⟩,.inl ⟨U,U⟩,(by unfold txt;rw[aK c];simp),Sg _,Sg _⟩) U2<|C6 1 [2] a U<|V6 U2<|⟨?_,U⟩;rw[Ss];unfold txt;rw[aK c,aF om_,Vm];rfl
 have c:¬ z<0:=λh=>by
  have h2:er z=-1:=by unfold er;rw[aK h]
  rw[h2]at b;cases b
 refine U0 2 [2] U<|V6 U2<|⟨?_,U⟩;rw[show z=0 by omega];rfl
theorem Jc:∀{s t:Str},(∀c∈s,dX c=true)->(∀c∈t,dX c=true)->s.length=t.length->Lib.compareBytes s t=kf (bS s) (bS t)
|[],[],_,_,_=>rfl
|[],_::_,_,_,h=>by simp at h
|_::_,[],_,_,h=>by simp at h
|c::s,d::t,hs,ht,j=>by
  have e:s.length=t.length:=by simpa using j
  have g:∀x∈s,dX x=true:=λx f=>hs x (by simp[f]);have i:∀x∈t,dX x=true:=λx f=>ht x (by simp[f]);have k:=Jc g i e;have h1:=dF g;have h2:=dF i;have l:=hs c al;have hd:=ht d al;simp only[dX,Sr]at l hd;rw[dN,dN,e];rw[e]at h1;simp only[Lib.compareBytes];obtain⟨p,hp⟩:∃p,10 ^ t.length=p:=⟨_,rfl⟩;rw[hp]at h1 h2⊢;by_cases a:c<d
  .rw[aK a];have n:c.toNat<d.toNat:=a;have h3:(c.toNat-48+1)*p<=(d.toNat-48)*p:=SY _ om_;rw[TQ]at h3;unfold kf;rw[aK om_]
  rw[aF a];by_cases b:d<c
  .rw[aK b];have o:d.toNat<c.toNat:=b;have h3:(d.toNat-48+1)*p<=(c.toNat-48)*p:=SY _ om_;rw[TQ]at h3;unfold kf;rw[aF om_,aK om_]
  rw[aF b,k];have m:c.toNat=d.toNat:=by
   have h3:¬ c.toNat<d.toNat:=a;have h4:¬ d.toNat<c.toNat:=b;omega
  rw[m];unfold kf;split <;> rename_i h5
  .rw[aK om_]
  split <;> rename_i q
  .rw[aF om_,aK om_]
  rw[aF om_,aF om_]
theorem rJ {a b:Nat}(h:(bh a).length<(bh b).length):a<b:=by
 obtain⟨h1,h2⟩:=bA a;obtain⟨h3,h4⟩:=bA b;have c:=S7.2 h1.2.1;have h5:=dF h1.1;have d:=pq h3 om_;have e:10 ^ (bh a).length<=10 ^ ((bh b).length-1):=SJ dc_ om_;omega
theorem Px {a b:Nat}(h:(bh a).length=(bh b).length):Lib.compareBytes (bh a) (bh b)=kf a b:=by
 obtain⟨h1,h2⟩:=bA a;obtain⟨h3,h4⟩:=bA b;rw[Jc h1.1 h3.1 h,h2,h4]
def wC (z w:Int):Int:=if z<w then -1 else if w<z then 1 else 0
theorem eD (z:Int):(z<0/\er z=-1)∨(z=0/\er z=0)∨(0<z/\er z=1):=by
 unfold er;split
 .exact .inl ⟨by assumption,U⟩
 split
 .exact .inr (.inl ⟨by assumption,U⟩)
 exact .inr (.inr ⟨by omega,U⟩)
theorem Bl (h:er z=er w):wC z w=er z*kf z.natAbs w.natAbs:=by
 have a:=eD w;rw[<- h]at a;unfold wC kf;rcases eD z with⟨h1,h2⟩|⟨h1,h2⟩|⟨h1,h2⟩ <;> rw[h2]at a⊢
 .have h3:w<0:=by omega
  split <;> split <;> (try split) <;> omega
 .have h3:w=0:=by omega
  subst h1 h3;simp
 have h3:0<w:=by omega
 split <;> split <;> (try split) <;> omega
theorem Ks (z:Int):IntKind.i64.wrap (-(er z))=-(er z):=by
 rcases eD z with⟨h1,h2⟩|⟨h1,h2⟩|⟨h1,h2⟩ <;> rw[h2] <;> rfl
theorem GB (C:Mem)(a b:Str):Gives cx.P 226 [ae a,ae b] C (i_ (Lib.compareBytes a b)):=zT Tryz.scmp a b C kr_
theorem rt (C:Mem)(z w:Int)(_m:(bh z.natAbs).length<=1000000)(_n:(bh w.natAbs).length<=1000000):Gives cx.P 161 [ae (txt z),ae (txt w)] C (i_ (wC z w)):=by
 have ez:(cA 45 (txt z)).1=bh z.natAbs:=by rw[dM]
 have j:(cA 45 (txt w)).1=bh w.natAbs:=by rw[dM]
 refine V7 func161 41 U3 λw0=>U0 1 [0,1] U<|U1 1 U λR b=>Wb (mF _ z) U7<|V2 U6<|Wb (mF _ w) U7<|C6 2 [0,1,5,6] b U<|U0 3 [0,1,5,6,15] U<|G.cd (λc=>?_) λc=>?_
 .have k:er z≠er w:=by simpa using c
  refine U0 3 [18] U<|G.cd (λd=>?_) λd=>?_
  .have a:er z<er w:=by simpa using d
   refine U0 1 [4] U<|V6 U2<|⟨?_,U⟩;rw[wC,aK (by unfold er at a;split at a <;> split at a <;> (try split at a) <;> omega)]
  have a:¬ er z<er w:=by simpa using d
  refine U0 1 [4] U<|V6 U2<|⟨?_,U⟩;have h:w<z:=by
   have h2:er w<er z:=by omega
   unfold er at h2;split at h2 <;> split at h2 <;> (try split at h2) <;> omega
  rw[wC,aF om_,aK h]
 have f:er z=er w:=by simpa using c
 refine U1 1 U λR b=>Wb (Cd _ (txt z) 45) U7<|V2 U6<|Wb (Cd _ (txt w) 45) U7 ?_;rw[ez,j];refine C6 2 [5,7,8] b U<|U0 5 [5,7,8,27] U<|G.cd (λg=>?_) λg=>?_
 .have k:(bh z.natAbs).length≠(bh w.natAbs).length:=λe=>by
   have h:(((bh z.natAbs).length:Nat):Int)≠(((bh w.natAbs).length:Nat):Int):=by simpa using g
   exact h (by rw[e])
  refine U0 5 [5,32] U<|G.cd (λi=>?_) λi=>?_
  .have a:z.natAbs<w.natAbs:=rJ (by
    have h:(((bh z.natAbs).length:Nat):Int)<(((bh w.natAbs).length:Nat):Int):=by simpa using i
    omega)
   refine U0 3 [4] U<|V6 U2<|⟨?_,U⟩;rw[Int.zero_sub,Ks,Bl f,show kf z.natAbs w.natAbs=-1 from aK a];congr 1;omega
  have a:w.natAbs<z.natAbs:=rJ (by
   have h:¬ (((bh z.natAbs).length:Nat):Int)<(((bh w.natAbs).length:Nat):Int):=by simpa using i
   omega)
  refine U0 2 [4] U<|V6 U2<|⟨?_,U⟩;rw[Bl f,show kf z.natAbs w.natAbs=1 from by unfold kf;rw[aF om_,aK a]];congr 1;omega
 have l:(bh z.natAbs).length=(bh w.natAbs).length:=by
  have h:(((bh z.natAbs).length:Nat):Int)=(((bh w.natAbs).length:Nat):Int):=by simpa using g
  omega
 refine U1 3 U λR b=>Wb (GB _ (bh z.natAbs) (bh w.natAbs)) U7 ?_;rw[Px l];refine Wx ((wC z w)) U4 (by rw[Bl f]) (by unfold wC;split <;> (try split) <;> omega) (by unfold wC;split <;> (try split) <;> omega) U2 ?_
 exact C6 1 [4] b U<|V6 U2<|⟨U,U⟩
def oc (b:Bool):Int:=if b then 0 else 2
theorem yz (C:Mem)(s:Str):Gives cx.P 160 [ae s] C (i_ (oc (bT s))):=by
 obtain⟨t,neg,p⟩:∃t b,cA 45 s=(t,b):=⟨_,_,rfl⟩;have g:bT s=(t.all dX && !(t == []) && !(t.head? == some 48 && (neg || decide (1<t.length))) && decide (t.length<=200)):=by unfold bT jI;rw[p]
 refine V7 func160 47 U3 λw0=>U0 1 [0] U<|U1 1 U λR a=>Wc (by have h:=I9 C s 45;rw[p]at h;exact h) U7 fl_<|C6 5 [3,4] a U<|U1 6 U λR a=>Wy U8<|V4 2 U<|WE (b:=t.headD 0) U8 (λr=>⟨by omega,(by
  cases t with
 |nil=>exact Bool.noConfusion (show true=false from r.1)
 |cons b t=>rfl)⟩) U2 ?_
 refine V4 7 U<|Wy U8<|Wr U8<|Wy U8<|V5 [3,30] a U<|G.cd (λd=>?_) λd=>?_
 .have j:bT s=false:=by
   rw[g];cases t with
  |nil=>simp
  |cons b t =>
    simp at d;rcases d with h|⟨h,h2⟩
    .simp;intro _ _;omega
    have e:b=48:=Vr.1 (by show b.toNat=48;omega);subst e;have u:(neg || decide (1<((48:UInt8)::t).length))=true:=by
     rcases h2 with h2|h2
     .rw[SB am];simp
     rw[h2];rfl
    rw[u];simp
  exact U0 1 [2] U<|V6 U2<|⟨by rw[j];rfl,U⟩
 have v:t.length<=200:=by
  simp at d;omega
 refine U0 3 [3,32,33] U<|G.loop (λfr E w y=>∃(i:Nat),(i<=t.length/\∀c∈t.take i,dX c=true)/\fr=[(3,[],ae t),(32,[],i_ t.length),(33,[],i_ i)]/\w=[]/\y=t.length-i) (hn_ [3,32,33] U) ⟨0,⟨Sm _,by simp⟩,U,U,U⟩ (λfr F H m _ z=>?_);obtain⟨i,⟨I,k⟩,rfl,rfl,rfl⟩:=z;refine U0 1 [3,32,33,34] U<|G.cd (λl=>?_) λl=>?_
 .have n:i<t.length:=by simpa using l
  obtain⟨c,f⟩:∃c,t[i]?=some c:=⟨t[i],ah n⟩;refine U0 2 [3,5,32,33] U<|U1 2 U λR a=>WE U8 (λ_=>⟨by omega,f⟩) U2<|V4 4 U<|WE U8 (λ_=>⟨by omega,f⟩) U2<|V2 U6<|Wy U8<|V5 [3,32,33,45] a U<|G.cd (λo=>?_) λo=>?_
  .have j:bT s=false:=by
    have h1:t.all dX=false:=by
     rw[UJ];refine⟨c,aJ f, ?_⟩;simp at o;unfold dX;simp;omega
    rw[g,h1];rfl
   exact U0 1 [2] U<|V6 U2<|⟨by rw[j];rfl,U⟩
  have A:dX c=true:=by
   simp at o;unfold dX;simp;omega
  refine V3 λR a=>V8 _ U U6<|C6 1 [3,32,33] a U<|We (m':=t.length-(i+1)) om_ mup (hn_ [3,32,33] U) ⟨i+1,⟨by omega,λx q=>by
   rw[SH,f]at q;rcases Sx.1 q with h|h
   .exact k x h
   simp at h;subst h;exact A⟩,rfl,rfl,rfl⟩
 have n:t.length<=i:=by
  have:¬ i<t.length:=by simpa using l
  omega
 rw[SL n]at k;have B:t.all dX=true:=SA.2 k;have D:bT s=true:=by
  rw[g,B,SB v];cases t with
 |nil=>simp at d
 |cons b t =>
   simp at d;simp;by_cases e:b=48
   .subst e;have h5:=d.2;simp at h5;exact .inr ⟨h5.2,S9 om_⟩
   exact .inl e
 exact U0 1 [2] U<|V6 U2<|⟨by rw[D];rfl,U⟩
end Go.Proofs.YtfjcldheldflbaaGreatDoor
