/- Laws that the proofs of this seat share, part 6. -/
import Derived.Test.YthnpijdjlddpmaaGreatDoorG5
import Derived.Test.YthnpijdjlddpmaaGreatDoorShelf
set_option maxHeartbeats 4000000
namespace Go.Proofs.YthnpijdjlddpmaaGreatDoor
open Go.Proofs.Tryz
open Go Go.Jog
set_option maxRecDepth 100000
variable {Q:Nat}{a b:List Nat}{i j k:Nat}{l:List Nat}{m n:Nat}{o p:List Int}{q:List Nat}{s:Str}{t:Nat}{w:Int}{x:Nat}{z:Int}
theorem Fe (C:Mem)(a:Tabs C)(n:Nat)(h:n<=1000000000000000000):Gives cx.P 123 [.int .i64 n] C (ai (bj n)):=by
 have h1:=JN C a (n:Int) om_ om_
 rwa [Ij] at h1
theorem iO (C:Mem)(a:Tabs C)(z:Int)(b:-9223372036854775808<=z)(c:z<=9223372036854775807):Gives cx.P 123 [.int .i64 z] C (ai (txt z)):=by
 have h:=JN C a z b c
 rwa [Ii] at h
theorem Le (C:Mem)(a:Tabs C)(x:Nat)(b:x<10000):Gives cx.P 123 [.int .i64 (10000+x:Nat)] C (ai (49::lG 4 x)):=by
 have h:=Fe C a (10000+x) om_
 rwa [tenK b] at h
theorem ek (h:n<10 ^ k)(a:0<k):(bj n).length<=k:=by
 apply O3;intro b;have h1:=nu (bA n).1 om_;rw [(bA n).2] at h1;have h2:10 ^ k<=10 ^ ((bj n).length-1):=OO dc_ om_;omega
theorem tG (h:DigP l):(bj (bI l)).length<=4*l.length+1:=by
 refine ek ?_ om_;have h1:=lI h;rw [<- JB] at h1;have h2:10 ^ (4*l.length)<=10 ^ (4*l.length+1):=OO dc_ om_;omega
theorem oX (h:k<l.length):(l.map aQ)[k]?=some (aQ (gP l k))/\l[k]?=some (gP l k):=by
 have e:l[k]?=some (gP l k):=by
  unfold gP;rw [ax,ak h];rfl
 exact ⟨by rw [Ou,e];rfl,e⟩
theorem Fq (C:Mem)(f:Tabs C)(v:Value)(l:List Nat)(b:Sl C 1 v (l.map aQ))(g:Be l)(N:l.length<=100000):Gives cx.P 291 [v] C (ai (bj (bI l))):=by
 obtain ⟨s,c0,rfl,_⟩:=id b;simp only [al] at b ⊢;have c:=g.1;refine Sc func291 34 U3 fun w0=>C6 1 [0] Z<|C6 3 [0,8] Z<|R6 (fun d=>?_) fun d=>?_
 ·have h0:l=[]:=by
   have:(l.length:Int)=0:=by simpa using d
   exact O6 om_
  refine C6 1 [2] Z<|Sb U2<|⟨?_,Z⟩;rw [h0,show bj (bI [])=[48] by rw [bj];rfl];rfl
 have h0:0<l.length:=by
  have:¬ (l.length:Int)=0:=by simpa using d
  omega
 have t:(l.map aQ)[((l.length:Int)-1).toNat]?=some (aQ (gP l (l.length-1))):=by rw [show ((l.length:Int)-1).toNat=l.length-1 by omega];exact (oX om_).1
 have u:gP l (l.length-1)<10000:=Ft c _;have w:bI (l.drop (l.length-1))=gP l (l.length-1):=by
  rw [OW om_,Q1 om_];have h1:=(oX (l:=l) (k:=l.length-1) om_).2;rw [(aF.1 h1).2];simp [bI]
 have x:0<gP l (l.length-1):=by
  have h1:=(oX (l:=l) (k:=l.length-1) om_).2;have h2:=g.2;rw [Qx,h1] at h2;rcases PM (gP l (l.length-1)) with h | h
  ·rw [h] at h2;exact absurd rfl h2
  exact h
 refine R4 3 Z fun R a=>Se _ U7<|Sm b.m_ U10 om_ t fl_ fun O y=>R5 y U8<|Sk (Fe _ f.m_ (gP l (l.length-1)) om_) U7 fl_<|C4 1 [0,3] a Z<|R4 2 Z fun R a=>Se _ U7<|C4 1 [0,3,4] a Z ?_;rw [show (l.length:Int)-2=((l.length-1:Nat):Int)-1 by omega];refine G.loop (fun fr C' z A=>∃ (k:Nat)(o:Str),(k<l.length/\uj o/\bS o=bI (l.drop k)/\0<bS o/\o.length<=25+4*(l.length-k))/\fr=[(0,[],.slice s l.length c0),(3,[],ai o),(4,[],.int .i64 ((k:Int)-1))]/\z=[]/\A=k+1) (hn_ [0,3,4] Z) ⟨l.length-1,bj (gP l (l.length-1)),⟨by omega,(bA _).1,by rw [(bA _).2,w],by rw [(bA _).2];exact x,by
  have h2:=ek (k:=4) (n:=gP l (l.length-1)) u om_;omega⟩,rfl,rfl,rfl⟩ (fun fr Q S m _ B=>?_)
 obtain ⟨k,o,⟨T,i,p,D,U⟩,rfl,rfl,rfl⟩:=B;refine C6 2 [0,3,4,20] Z<|R6 (fun e=>?_) fun e=>?_
 ·have q:0<k:=by
   have:(0:Int)<=(k:Int)-1:=by simpa using e
   omega
  obtain ⟨j,rfl⟩:∃ j,k=j+1:=⟨k-1,by omega⟩;rw [show ((j+1:Nat):Int)-1=(j:Int) by omega];obtain ⟨E,F⟩:=oX (l:=l) (k:=j) om_;have r:=Ft c j;have H:gP l j<10000:=r;have I:=(jY 4 (gP l j) r).1;refine R4 2 Z fun R a=>Sm b.m_ U10 om_ E fl_ fun V J=>R5 J U8<|SH (((10000+gP l j:Nat):Int)) U4 om_ om_ om_ U2<|Sg (Le _ f.m_ _ H) U7<|C4 1 [0,3,4,5] a Z<|R4 2 Z fun R a=>S2 1 (49::lG 4 (gP l j)).length U9 (fun _=>⟨.inr ⟨_,Z⟩,.inl ⟨Z,Z⟩,.inl ⟨Z,Z⟩,by simp,Oo _,Oo _⟩) U2<|S1 U6 (fun _=>(by simp only [Qv,OG,OI];omega)) U2<|C4 1 [0,3,4] a Z<|R4 1 Z fun R a=>Se _ U7<|C4 1 [0,3,4] a Z ?_;rw [OH,List.drop_one,List.tail_cons];obtain ⟨K,L,M⟩:=Fp c F i p D;refine Sj (m':=j+1) om_ mup (hn_ [0,3,4] Z) ⟨j,o++lG 4 (gP l j),⟨by omega,K,L,M,by rw [Oy,I];omega⟩,Z,Z,Z⟩
 have q:k=0:=by
  have:¬ (0:Int)<=(k:Int)-1:=by simpa using e
  omega
 subst q;refine C6 2 [2] Z<|Sb U2<|⟨?_,Z⟩;rw [nv i,p,Pz]
def sgZ (m:Bool)(n:Nat):Int:=if m then -(n:Int) else n
theorem yP (m:Bool)(n:Nat)(h:m=true->0<n):txt (sgZ m n)=if m then 45::bj n else bj n:=by
 unfold txt sgZ;cases m with
 | false=>simp
 | true=>have:=h rfl;simp;omega
theorem EU (C:Mem)(e:Tabs C)(m:Bool)(v:Value)(l:List Nat)(i:Sl C 1 v (l.map aQ))(j:DigP l)(k:l.length<=100000):Gives cx.P 264 [.bool m,v] C (ai (txt (sgZ m (bI l)))):=by
 have c:=lu j;have f:(vY l).length<=100000:=by unfold vY;rw [OG];omega
 have g:(vY l).length=0 ↔ bI l=0:=by rw [<- gU,AK c,Rs]
 refine Sc func264 18 U3 fun w0=>C6 1 [0,1] Z<|R4 1 Z fun R a=>SI (AD _ _ l i) U7 (fun n _ _ d=>?_);obtain ⟨o,p,rfl,_⟩:=id d;rw [al] at d;rw [al];refine C4 1 [0,1] a Z<|R4 5 Z fun R a=>Sv U8<|Sa [1,12] a Z<|R6 (fun b=>?_) fun b=>?_
 ·have hm:m=true/\0<bI l:=by
   simp at b;refine ⟨b.1, ?_⟩;have h2:=b.2;rcases PM (bI l) with h | h
   ·have:=g.2 h;omega
   exact h
  refine R4 1 Z fun R a=>Sg (Fq _ e.m_ _ (vY l) d.m_ c f) U7<|S1 U6 (fun _=>(by have:=tG c.1;simp only [OI,O4];omega)) U2<|C4 1 [4] a Z<|Sb U2<|⟨?_,Z⟩;rw [yP m _ (fun _=>hm.2),aI hm.1,gU];rfl
 have hm:m=true->bI l=0:=fun h=>by
  rcases PM (vY l).length with h0 | h0
  ·exact g.1 h0
  exfalso;have h1:decide ((0:Int)<((vY l).length:Nat))=true:=OK om_;rw [h,h1] at b;cases b
 refine R4 1 Z fun R a=>Sg (Fq _ e.m_ _ (vY l) d.m_ c f) U7<|C4 1 [4] a Z<|Sb U2<|⟨?_,Z⟩;rw [gU];congr 1;cases m with
 | false=>rw [yP false _ (fun h=>by cases h)];rfl
 | true=>rw [hm rfl];rfl
def gI (p:List Int)(i:Nat):Int:=p.getD i 0
theorem Fv (h:k<p.length):(p.map jF)[k]?=some (jF (gI p k))/\p[k]?=some (gI p k):=by
 have e:p[k]?=some (gI p k):=by
  unfold gI;rw [ax,ak h];rfl
 exact ⟨by rw [Ou,e];rfl,e⟩
theorem ry (h:p.length<=k):gI p k=0:=by
 unfold gI;rw [ax,OD h];rfl
theorem Kd (p:List Int)(k:Nat):iw (p.take (k+1))=iw (p.take k)+(10000:Int) ^ k*gI p k:=by
 rcases OZ k p.length with h | h
 ·exact Dq (Fv h).2
 rw [ry h,Pa h,Pa om_];simp
theorem Ef (o:Int):(o-o % 10000).tdiv 10000=(o-o % 10000) / 10000:=Int.tdiv_eq_ediv_of_dvd (Int.dvd_of_emod_eq_zero om_)
theorem I0 (C:Mem)(v:Value)(p:List Int)(g:Sl C 1 v (p.map jF))(F:0<=iw p)(H:∀ x∈p, -1000000000000<=x/\x<=1000000000000)(N:p.length<=100000):Pur cx.P 290 [v] C fun u D=>PieC D u (iw p).toNat:=by
 obtain ⟨k,c0,rfl,_⟩:=id g;simp only [al] at g ⊢;refine Sc func290 43 U3 fun w0=>C6 1 [0] Z<|C6 1 [0,3] Z<|C6 1 [0,3,4] Z<|C6 1 [0,3,4,5] Z<|G.nilArr 3 1<|G.loop (fun fr C' b c=>∃ (i:Nat)(o:Int)(out:List Nat)(w:Value),(out.length=i/\DigP out/\-1000000000000<=o/\o<=1000000000000/\iw (p.take i)=(bI out:Nat)+(10000:Int) ^ i*o/\(p.length<=i->(i:Int)+o<=1000000100000))/\fr=[(0,[],.slice k p.length c0),(3,[],w),(4,[],.int .i64 o),(5,[],.int .i64 i)]/\b=[.arr w 3 1 i (out.map aQ).flatten]/\c=(p.length-i)*4611686018427387904+o.natAbs) (hn_ [0,3,4,5] Z) ⟨0,0,[],_,⟨Z,(fun x I=>(by cases I)),by omega,by omega,by simp [iw,bI],fun h=>by omega⟩,Z,Z,Z⟩ (fun fr O Q m _ d=>?_);obtain ⟨i,o,out,w,⟨e,l,S,T,n,B⟩,rfl,rfl,rfl⟩:=d;have q:p.length<=i->0<=o:=fun h=>by
  refine HU e l (V:=iw p) F ?_;rw [<- n,Pa h]
 have U:(i:Int)<=1000000100000:=by
  rcases OZ i p.length with h | h
  ·omega
  have:=q h;have:=B h;omega
 refine R4 7 Z fun R a=>SA U8<|Sa [0,3,4,5,14] a Z<|R6 (fun r=>?_) fun r=>?_
 ·have s:i<p.length∨o≠0:=by
   simp at r;omega
  have W:-1000000000000<=gI p i/\gI p i<=1000000000000:=by
   rcases OZ i p.length with h | h
   ·exact H _ (Oq (Fv h).2)
   rw [ry h];omega
  refine C6 4 [0,3,4,5,20] Z<|G.cut (fun fr C' b c=>(True)/\fr=[(0,[],.slice k p.length c0),(3,[],w),(4,[],.int .i64 (o+gI p i)),(5,[],.int .i64 i)]/\b=[.arr w 3 1 i (out.map aQ).flatten]) ?_ (fun fr _ X c _ d=>?_)
  ·refine R6 (fun t=>?_) fun t=>?_
   ·have f:i<p.length:=by simpa using t
    refine R4 3 Z fun R a=>Sm g.m_ U10 om_ (Fv f).1 fl_ fun Y J=>R5 J U8<|Se _ U7<|C4 1 [0,3,4,5] a Z<|Si 0 (Mem.le.refl _) (hn_ [0,3,4,5] Z) ⟨trivial,Z,Z⟩
   have f:p.length<=i:=by
    have:¬ i<p.length:=by simpa using t
    omega
   rw [show o=o+gI p i by rw [ry f,Int.add_zero]];refine Si 0 (Mem.le.refl _) (hn_ [0,3,4,5] Z) ⟨trivial,by rw [ry f];simp,Z⟩
  obtain ⟨_,rfl,rfl⟩:=d;refine R4 1 Z fun R a=>Uy (Int.tmod (o+gI p i) 10000) Z Z Z Z Z Z om_ Z Z Z<|C4 1 [0,3,4,5,6] a Z ?_;have y:=Hx (o+gI p i);have aa:-10000<=Int.tmod (o+gI p i) 10000/\Int.tmod (o+gI p i) 10000<10000:=by
   have:=RI (o+gI p i) (show (10000:Int)≠0 by decide);have:=Int.emod_lt_of_pos (o+gI p i) (show (0:Int)<10000 by decide);split at y <;> omega
  refine C6 2 [0,3,4,5,6,30] Z<|G.cut (fun fr C' b c=>(True)/\fr=[(0,[],.slice k p.length c0),(3,[],w),(4,[],.int .i64 (o+gI p i)),(5,[],.int .i64 i),(6,[],.int .i64 (((o+gI p i) % 10000).toNat:Nat))]/\b=[.arr w 3 1 i (out.map aQ).flatten]) ?_ (fun fr _ ab c _ d=>?_)
  ·refine R6 (fun z=>?_) fun z=>?_
   ·have A:Int.tmod (o+gI p i) 10000<0:=by simpa using z
    rw [aI A] at y;refine R4 1 Z fun R a=>SH (((((o+gI p i) % 10000).toNat:Nat):Int)) U4 om_ om_ om_ U2<|C4 1 [0,3,4,5,6] a Z<|Si 0 (Mem.le.refl _) (hn_ [0,3,4,5,6] Z) ⟨trivial,Z,Z⟩
   have A:¬ Int.tmod (o+gI p i) 10000<0:=by simpa using z
   rw [aA A] at y;rw [show Int.tmod (o+gI p i) 10000=((((o+gI p i) % 10000).toNat:Nat):Int) by omega];refine Si 0 (Mem.le.refl _) (hn_ [0,3,4,5,6] Z) ⟨trivial,Z,Z⟩
  obtain ⟨_,rfl,rfl⟩:=d;refine R4 2 Z fun R a=>Sr [aQ (((o+gI p i) % 10000).toNat)] U12 fun ac _ _ K=>D.append (j:=0) U11 K Z aw (by show (i+1)*8<=_;omega) fl_ fun E=>C4 1 [0,3,4,5,6] a Z<|R4 2 Z fun R a=>SH ((o+gI p i-(o+gI p i) % 10000)) U4 om_ om_ om_ U2<|Tg ((o+gI p i-(o+gI p i) % 10000) / 10000) U6 om_ (Ef _) (by rw [IntKind.wrap_i64];omega) U2<|C4 1 [0,3,4,5] a Z<|R4 1 Z fun R a=>Se _ U7<|C4 1 [0,3,4,5] a Z ?_;have hm:(p.length-(i+1))*4611686018427387904+((o+gI p i-(o+gI p i) % 10000) / 10000).natAbs<(p.length-i)*4611686018427387904+o.natAbs:=by
   rcases OZ i p.length with h2 | h2
   ·omega
   have h3:=q h2;rw [ry h2];omega
  refine Sp (L':=[.arr E 3 1 (i+1) ((out++[((o+gI p i) % 10000).toNat]).map aQ).flatten]) (by simp [aQ])<|Sj (m':=(p.length-(i+1))*4611686018427387904+((o+gI p i-(o+gI p i) % 10000) / 10000).natAbs) om_ mup (hn_ [0,3,4,5] Z) ⟨i+1,(o+gI p i-(o+gI p i) % 10000) / 10000,out++[((o+gI p i) % 10000).toNat],E,⟨by simp [e],l.snoc (by show ((o+gI p i) % 10000).toNat<10000;omega),by omega,by omega,by
   refine Gb e ?_;rw [Kd,n,Rw];omega,fun h=>by
   rcases OZ i p.length with h2 | h2
   ·omega
   have h3:=q h2;have h4:=B h2;rw [ry h2] at *;omega⟩,rfl,rfl,rfl⟩
 have s:p.length<=i/\o=0:=by
  simp at r;omega
 refine Sx [(1,3)] Z fun R a=>R7 U6<|D.call (tH _ _ out e) Z (.inr dc_) U6 (Ov _) fl_ (fun ad _ ae _ L=>?_);obtain ⟨rfl,M⟩:=L;refine C4 1 [2] a Z<|Sb U2<|⟨Z,vY out,lu l, ?_,M⟩;rw [Pa s.1,s.2] at n;rw [gU];omega
theorem yL:∀ (l:List Int)(i:Nat)(x:Int),i<l.length->iw (l.set i x)=iw l+(10000:Int) ^ i*(x-gI l i)
 | [],i,x,h=>by simp at h
 | a::l,0,x,_=>by
  show x+10000*iw l=a+10000*iw l+1*(x-a);omega
 | a::l,i+1,x,h=>by
  have b:=yL l i x (by simpa using h);show a+10000*iw (l.set i x)=a+10000*iw l+(10000:Int) ^ (i+1)*(x-gI l i);rw [b,Rw,<- Int.mul_assoc,Int.pow_succ,Int.mul_comm ((10000:Int) ^ i) 10000];omega
theorem Dp (l:List Int):iw (l++[0])=iw l:=by rw [ut];omega
structure Joins (p q:List Nat)(k:Int)(i:Nat)(o:List Int):Prop where
 len:o.length=max p.length i
 val:iw o=(bI p:Nat)+k*(bI (q.take i):Nat)
 rest:∀ j,i<=j->gI o j=(gP p j:Nat)
 lim:∀ x∈o, -100000000<=x/\x<=100000000
theorem Nc (p:List Nat)(j:Nat):gI (p.map fun x:Nat=>(x:Int)) j=(gP p j:Nat):=by
 unfold gI gP;rw [ax,ax,Ou];cases p[j]? <;> rfl
theorem xA (p q:List Nat)(k:Int)(a:DigP p):Joins p q k 0 (p.map fun x:Nat=>(x:Int)):=by
 refine ⟨by simp,by rw [yM];simp [bI],fun j _=>Nc p j,fun x b=>?_⟩;obtain ⟨y,hy,rfl⟩:=OB.1 b;have:y<10000:=a y hy;omega
theorem Joins.zero {p:List Nat}{k:Int}(h:Joins p q k i o)(c:o.length<=i):iw (o++[0])=(bI p:Nat)+k*(bI (q.take i):Nat)/\(∀ j,i<=j->gI (o++[0]) j=(gP p j:Nat))/\(∀ x∈o++[0], -100000000<=x/\x<=100000000):=by
 refine ⟨by rw [Dp,h.val],fun j a=>?_,fun x b=>?_⟩
 ·have h1:=h.rest j a;have h2:gI o j=0:=by unfold gI;rw [ax,OD om_];rfl
  rw [<- h1,h2];unfold gI;rw [ax,OY om_];cases j-o.length <;> rfl
 rcases OJ.1 b with h1 | h1
 ·exact h.lim x h1
 simp at h1;subst h1;omega
theorem Fu {x:Int}(h:i≠j):gI (o.set i x) j=gI o j:=by
 unfold gI;rw [ax,ax,RL h]
theorem BU {p:List Nat}{k:Int}{y:Nat}(d:DigP p)(f:DigP q)(a:-9999<=k/\k<=9999)(b:q[i]?=some y)(g:o.length=max p.length (i+1))
  (h:iw o=(bI p:Nat)+k*(bI (q.take i):Nat)) (c:∀ j,i<=j->gI o j=(gP p j:Nat)) (l:∀ x∈o, -100000000<=x/\x<=100000000) :
  Joins p q k (i+1) (o.set i (gI o i+k*(y:Nat))):=by
 have n:y<10000:=f y (Oq b);have r:gP p i<10000:=Ft d i;have s:-99980001<=k*(y:Int)/\k*(y:Int)<=99980001:=by
  have h0:(0:Int)<=y:=by omega
  have h1:k*(y:Int)<=9999*(y:Int):=QA a.2 h0;have h2:(-9999:Int)*(y:Int)<=k*(y:Int):=QA a.1 h0;omega
 refine ⟨by rw [Pm];exact g, ?_,fun j t=>?_,fun x m=>?_⟩
 ·rw [yL o i _ om_,h,iv b];have e:((bI (q.take i)+BP ^ i*y:Nat):Int)=(bI (q.take i):Nat)+(10000:Int) ^ i*(y:Int):=by
   rw [QX,Pj,Int.natCast_pow];rfl
  rw [e,Rw,show gI o i+k*(y:Int)-gI o i=k*(y:Int) by omega,Int.mul_left_comm];omega
 ·rw [Fu om_];exact c j om_
 rcases QQ m with h1 | h1
 ·exact l x h1
 subst h1;rw [c i (Oo _)];omega
theorem Ah (h:k<p.length):p[k]?=some (gI p k):=by
 unfold gI;rw [ax,ak h];rfl
theorem mh (h:Be l)(a:bI l<BP ^ m):l.length<=m:=by
 apply O3;intro b;have h1:=tR h om_;have h2:BP ^ m<=BP ^ (l.length-1):=OO dc_ om_;omega
theorem tB (x:Int):(jF x).length=1:=rfl
theorem eS (x:Nat):(aQ x).length=1:=rfl
theorem Gc (C:Mem)(v:Value)(p:List Int)(a:p.length=n)(b:0<=iw p)(c:∀ x∈p, -1000000000000<=x/\x<=1000000000000)(d:p.length<=100000):Jog.Fn cx.P 290 [v] C [.arr v 3 1 n (p.map jF).flatten] fun u C' e=>e=[]/\PieC C' u (iw p).toNat :=
 Jog.Fn.give (p.map jF) kr_ (by intro r hr;obtain ⟨y,_,rfl⟩:=OB.1 hr;rfl) (by rw [al,a]) (fun C' _ hs=>I0 C' v p hs b c d)
theorem vH (C:Mem)(I J:Value)(p q:List Nat)(k:Int)(V:Sl C 1 I (p.map aQ))(d:Sl C 1 J (q.map aQ))(K:DigP p)(L:DigP q)(f:-9999<=k/\k<=9999)(W:0<=(bI p:Int)+k*(bI q:Int))(aq:p.length<=50000)(ar:q.length<=50000) :
  Pur cx.P 263 [I,J,.int .i64 k,.int .i64 0] C fun u D=>PieC D u ((bI p:Int)+k*(bI q:Int)).toNat:=by
 obtain ⟨M,c0,rfl,_⟩:=id d;simp only [al] at d ⊢;refine Sc func263 45 U3 fun w0=>C6 1 [0,1,2,3] Z<|R8 fun R a=>Te [] U12 fl_ fun au=>R7 U6<|D.append (j:=0) U11 V (by rw [OM];intro r hr;obtain ⟨y,_,rfl⟩:=OB.1 hr;rfl) (by rw [al];simp only [O4,maxLen];omega) (by rw [al];show (0+p.length)*8<=_;omega) fl_ fun X=>C4 1 [1,2,3,9] a Z<|C6 1 [1,2,3,9,10] Z<|Sp (L':=[.arr X 3 1 (p.map fun x:Nat=>(x:Int)).length (((p.map fun x:Nat=>(x:Int)).map jF).flatten)]) (by rw [Pc];simp;rfl)<|G.loop (fun fr C' c g=>∃ (i:Nat)(o:List Int)(w:Value),(i<=q.length/\Joins p q k i o)/\fr=[(1,[],.slice M q.length c0),(2,[],.int .i64 k),(3,[],.int .i64 0),(9,[],w),(10,[],.int .i64 i)]/\c=[.arr w 3 1 o.length (o.map jF).flatten]/\g=q.length-i) (hn_ [1,2,3,9,10] Z) ⟨0,_,_,⟨Ow _,xA p q k K⟩,Z,Z,Z⟩ (fun fr av ax m _ n=>?_);obtain ⟨i,o,w,⟨hi,b⟩,rfl,rfl,rfl⟩:=n;refine C6 4 [1,2,3,9,10,17] Z<|R6 (fun z=>?_) fun z=>?_
 ·have A:i<q.length:=by simpa using z
  have ay:=b.len;refine G.loop (fun fr C' c g=>∃ (o2:List Int)(B:Value),((o2=o∨(o2=o++[0]/\o.length<=i)))/\fr=[(1,[],.slice M q.length c0),(2,[],.int .i64 k),(3,[],.int .i64 0),(9,[],B),(10,[],.int .i64 i)]/\c=[.arr B 3 1 o2.length (o2.map jF).flatten]/\g=i+1-o2.length) (hn_ [1,2,3,9,10] Z) ⟨o,w,.inl Z,Z,Z,Z⟩ (fun fr az aA m _ n=>?_);obtain ⟨o2,B,E,rfl,rfl,rfl⟩:=n;refine UN 0 Z (fun Y N he=>?_);subst he;have aB:o2.length<=50002:=by
   have h1:o2.length<=o.length+1:=by
    have h2:=E.imp (fun e=>congrArg List.length e) (fun e=>congrArg List.length e.1);rw [Oy,aV] at h2;omega
   omega
  refine R4 4 Z fun R a=>SH (((i:Nat):Int)) U4 om_ om_ om_ U2<|C4 1 [1,2,3,9,10,25] a Z<|R6 (fun F=>?_) fun F=>?_
  ·have O:o2.length<=i:=by
    have:(o2.length:Int)<=i:=by simpa using F
    omega
   have aa:o2=o:=by
    refine E.elim id fun h=>?_;have:=h.1 ▸ O;rw [Oy,aV] at this;omega
   subst aa;refine R4 1 Z fun R a=>Sr [jF 0] U12 fun aC _ _ ab=>D.append (j:=0) U11 ab Z aw (by show (o2.length+1)*8<=_;omega) fl_ fun Q=>C4 1 [1,2,3,9,10] a Z<|Sp (L':=[.arr Q 3 1 (o2++[0]).length ((o2++[0]).map jF).flatten]) (by simp [jF]) ?_;have aD:i+1-(o2++[0]).length<i+1-o2.length:=by rw [Oy,aV];omega
   refine Sj (m':=i+1-(o2++[0]).length) om_ mup (hn_ [1,2,3,9,10] Z) ⟨o2++[0],Q,.inr ⟨Z,O⟩,Z,Z,Z⟩
  have H:i<o2.length:=by
   have:¬ (o2.length:Int)<=i:=by simpa using F
   omega
  have ac:o2.length=max p.length (i+1)/\iw o2=(bI p:Nat)+k*(bI (q.take i):Nat)/\(∀ j,i<=j->gI o2 j=(gP p j:Nat))/\(∀ x∈o2, -100000000<=x/\x<=100000000):=by
   refine E.elim (fun h=>?_) fun h=>?_
   ·subst h;exact ⟨by omega,b.val,b.rest,b.lim⟩
   obtain ⟨h1,h2⟩:=h;subst h1;have h3:=b.zero h2;exact ⟨by rw [Oy,aV];omega,h3⟩
  obtain ⟨ad,ae,ag,S⟩:=ac;obtain ⟨ai,aj⟩:=oX (l:=q) (k:=i) A;have aE:gP q i<10000:=Ft L i;have aF:-99980001<=k*((gP q i:Nat):Int)/\k*((gP q i:Nat):Int)<=99980001:=by
   have h0:(0:Int)<=((gP q i:Nat):Int):=by omega
   have h1:k*((gP q i:Nat):Int)<=9999*((gP q i:Nat):Int):=QA f.2 h0;have h2:(-9999:Int)*((gP q i:Nat):Int)<=k*((gP q i:Nat):Int):=QA f.1 h0;omega
  have aG:=S _ (Oq (Ah H));refine Ui 0 (m:=o2.length-1) (v:=.slice Y o2.length N) (t:=3) (s:=1) (xs:=(o2.map jF).flatten) (by rw [show o2.length-1+1=o2.length by omega];rfl) (fun g0 cc ak=>?_);injection ak with am aH an;subst am an;refine Ss [0,1,2,3,4,5,6,7,8,9,10,11,12,13,14] [] Z kr_ fun R hB a=>R9 3 Z<|SH (((i:Nat):Int)) U4 om_ om_ om_ U2<|SC (i*1) U10 ah U2<|SS af U6 (fun _=>(by rw [ec tB (Ah H)];rfl)) U2<|R9 3 Z<|Sm d.m_ U10 om_ ai fl_ fun aI ao=>R5 ao U8<|Se _ U7<|Se _ U7<|SC (i*1) U10 ah U2<|SG (j:=0) U11 (by show i*1+1<=_;rw [bQ tB];omega)<|Sa [1,2,3,9,10] a Z<|R4 1 Z fun R a=>Se _ U7<|C4 1 [1,2,3,9,10] a Z<|Sp (L':=[.arr (.slice (some ⟨g0,0,none⟩) o2.length N) 3 1 (o2.set i (gI o2 i+k*((gP q i:Nat):Int))).length ((o2.set i (gI o2 i+k*((gP q i:Nat):Int))).map jF).flatten]) (by rw [<- bJ tB _ H,Pm];rfl)<|Sj (m':=q.length-(i+1)) om_ mup (hn_ [1,2,3,9,10] Z) ⟨i+1,_,_,⟨by omega,BU K L f aj ad ae ag S⟩,Z,Z,Z⟩
 have A:i=q.length:=by
  have:¬ i<q.length:=by simpa using z
  omega
 have T:iw o=(bI p:Int)+k*(bI q:Int):=by rw [b.val,A,OH]
 refine Sx [(1,3)] Z fun R a=>R7 U6<|D.call (Gc _ _ o Z (by rw [T];exact W) (fun x hx=>by have:=b.lim x hx;omega) (by have:=b.len;omega)) Z (.inr dc_) U6 (Ov _) fl_ (fun aJ _ aK _ ap=>?_);obtain ⟨rfl,U⟩:=ap;refine C4 1 [8] a Z<|Sb U2 ?_;rw [T] at U;exact ⟨Z,U⟩
theorem Mj (n:Nat):jH ([.int .i64 0]:List Value) n=((List.replicate n 0).map aQ).flatten:=by
 rw [dQ,Ro];rfl
theorem ur (h:j<l.length):bI (l.drop j)=gP l j+BP*bI (l.drop (j+1)):=by
 rw [OW h,(aF.1 (oX h).2).2];rfl
theorem sn (h:j<l.length):bI ((l.set j x).drop j)=x+BP*bI (l.drop (j+1)):=by
 rw [ur (by rw [Pm];exact h),List.drop_set_of_lt om_];congr 1;unfold gP;rw [ax,Rx h];rfl
theorem IG (h:DigP l)(a:x<BP):DigP (l.set j x):=fun y hy=>by
 rcases QQ hy with h1 | h1
 ·exact h y h1
 rw [h1];exact a
theorem zE (C:Mem)(O Q:Value)(p q:List Nat)(v:Sl C 1 O (p.map aQ))(g:Sl C 1 Q (q.map aQ))(ai:DigP p)(w:Be q)(i:0<bI q)(aG:p.length<=10000)(aH:q.length<=10000) :
  Pur cx.P 261 [O,Q] C fun u D=>∃ u1 S,u=.tuple #[u1,S]/\PieC D u1 (bI p / bI q)/\PieC D S (bI p % bI q):=by
 obtain ⟨T,c0,rfl,_⟩:=id v;obtain ⟨U,V,rfl,_⟩:=id g;simp only [al] at v g ⊢;refine Sc func261 58 U3 fun w0=>C6 2 [0,1] Z<|R4 2 Z fun R b=>S3 U9 (Oo _) (by show 8*p.length<=281474976710656;omega) (by simp only [maxLen];omega) fl_ fun d=>C4 1 [0,1,6] b Z<|C6 1 [0,1,6,7] Z<|R4 2 Z fun R b=>Se _ U7<|C4 1 [0,1,6,7,8] b Z<|Sp (L':=[.arr (qW d p.length p.length) 3 1 p.length ((List.replicate p.length 0).map aQ).flatten]) (by rw [<- Mj];rfl)<|G.loop (fun fr C' e z=>∃ (k:Nat)(o l:List Nat)(A:Value),(k<=p.length/\o.length=p.length/\DigP o/\bI (o.drop k)=bI (p.drop k) / bI q/\Sl C' 1 A (l.map aQ)/\Be l/\bI l=bI (p.drop k) % bI q)/\fr=[(0,[],.slice T p.length c0),(1,[],.slice U q.length V),(6,[],qW d p.length p.length),(7,[],A),(8,[],.int .i64 ((k:Int)-1))]/\e=[.arr (qW d p.length p.length) 3 1 p.length (o.map aQ).flatten]/\z=k+1) (hn_ [0,1,6,7,8] Z) ⟨p.length,List.replicate p.length 0,[],.slice none 0 0,⟨Oo _,P1,(fun x c=>by rw [Qo c];decide),by rw [Py,Q1 am];simp [bI],Sl.nil _ _,⟨fun x c=>(by cases c),by simp⟩,by rw [Py];simp [bI]⟩,Z,Z,Z⟩ (fun fr aI aJ m _ B=>?_);obtain ⟨k,o,l,A,⟨hk,W,X,Y,hs,E,F⟩,rfl,rfl,rfl⟩:=B;refine C6 2 [0,1,6,7,8,19] Z<|R6 (fun H=>?_) fun H=>?_
 ·have aa:0<k:=by
   have:(0:Int)<=(k:Int)-1:=by simpa using H
   omega
  obtain ⟨j,rfl⟩:∃ j,k=j+1:=⟨k-1,by omega⟩;rw [show ((j+1:Nat):Int)-1=(j:Int) by omega];obtain ⟨aj,aK⟩:=oX (l:=p) (k:=j) om_;have c:gP p j<BP:=Ft ai j;have aL:gP p j<10000:=c;have aM:l.length<=q.length:=mh E (by rw [F];exact Qz (Pd _ i) (lI w.1));have ak:DigP (gP p j::l):=fun y hy=>by
   rcases OE.1 hy with h | h
   ·rw [h];exact c
   exact E.1 y h
  refine Sx [(7,3)] Z fun R b=>R9 2 Z<|Sm v.m_ U10 om_ aj fl_ fun aN an=>R5 an U8<|Te [aQ (gP p j)] U12 fl_ fun aO=>R7 U6<|D.append (j:=0) U11 hs.m_ (by rw [OM];intro r hr;obtain ⟨y,_,rfl⟩:=OB.1 hr;rfl) (by rw [al];simp only [aV,maxLen];omega) (by rw [al];show (1+l.length)*8<=_;omega) fl_ fun aP=>D.call (tH _ _ (gP p j::l) (n:=1+(l.map aQ).length) (by rw [al];simp;omega)) Z (.inr dc_) U6 (Ov _) fl_ (fun ab ao aR _ ap=>?_);obtain ⟨rfl,I⟩:=ap;refine C4 1 [0,1,6,7,8] b Z ?_;obtain ⟨r,ac,J,ad,aS⟩:∃ r,Be r/\bI r=gP p j+BP*(bI (p.drop (j+1)) % bI q)/\Sl ao 1 ab (r.map aQ)/\r.length<=20000:=⟨vY (gP p j::l),lu ak,by rw [gU];show gP p j+BP*bI l=_;rw [F],I,by unfold vY;rw [OG,OI];omega⟩;have K:=FJ (t:=bI (p.drop (j+1))) (x:=gP p j) i;rw [<- ur om_,<- J] at K;have aq:bI r / bI q<BP:=by rw [J];exact vV i c
  have aT:bI r / bI q<10000:=aq;refine C6 2 [0,1,6,7,8,9,10] Z<|G.loop (fun fr C' e z=>∃ (low a:Nat),(low<=bI r / bI q/\bI r / bI q<=a/\a<=9999)/\fr=[(0,[],.slice T p.length c0),(1,[],.slice U q.length V),(6,[],qW d p.length p.length),(7,[],ab),(8,[],.int .i64 j),(9,[],.int .i64 low),(10,[],.int .i64 a)]/\e=[.arr (qW d p.length p.length) 3 1 p.length (o.map aQ).flatten]/\z=a-low) (hn_ [0,1,6,7,8,9,10] Z) ⟨0,9999,⟨Ow _,by omega,Oo _⟩,Z,Z,Z⟩ (fun fr aU aW m _ B=>?_);obtain ⟨low,a,⟨ar,au,av⟩,rfl,rfl,rfl⟩:=B;refine C6 3 [0,1,6,7,8,9,10,32] Z<|R6 (fun L=>?_) fun L=>?_
  ·have s:low<a:=by simpa using L
   obtain ⟨aw,ax⟩:=Ll i ar au s;refine R4 2 Z fun R b=>Se _ U7<|Se _ U7<|Tg ((((low+a+1) / 2:Nat):Int)) U6 om_ (by rw [QO om_];omega) (by rw [IntKind.wrap_i64];omega) U2<|C4 1 [0,1,6,7,8,9,10,11] b Z<|R4 3 Z fun R b=>SD (vH _ _ _ [] q ((((low+a+1) / 2:Nat):Int)) (Sl.nil _ _) g.m_ (fun x c=>(by cases c)) w.1 om_ (by rw [<- Pj];omega) am om_) U7 fl_ (fun aX _ _ ay=>?_);obtain ⟨l2,az,aA,aB⟩:=ay;have ae:bI l2=bI q*((low+a+1) / 2):=by
    have h0:((bI ([]:List Nat):Nat):Int)=0:=rfl;rw [aA,h0,Int.zero_add,<- Pj,Qk,Pe]
   refine Sg (HS _ _ _ r l2 ad.m_ aB.m_ ac az) U7<|Sa [0,1,6,7,8,9,10,11,42] b Z<|R6 (fun M=>?_) fun M=>?_
   ·have N:bI r<bI q*((low+a+1) / 2):=by
     rw [<- ae];simpa using M
    have f:=aw N;refine R4 1 Z fun R b=>Se _ U7<|C4 1 [0,1,6,7,8,9,10] b Z ?_;rw [show ((((low+a+1) / 2:Nat):Int))-1=(((low+a+1) / 2-1:Nat):Int) by omega];refine Sj (m':=(low+a+1) / 2-1-low) om_ mup (hn_ [0,1,6,7,8,9,10] Z) ⟨low,(low+a+1) / 2-1,⟨f.1,f.2,by omega⟩,Z,Z,Z⟩
   have N:¬ bI r<bI q*((low+a+1) / 2):=by
    rw [<- ae];simpa using M
   have f:=ax N;refine C6 2 [0,1,6,7,8,9,10] Z<|Sj (m':=a-(low+a+1) / 2) om_ mup (hn_ [0,1,6,7,8,9,10] Z) ⟨(low+a+1) / 2,a,⟨f.1,f.2,av⟩,Z,Z,Z⟩
  have s:low=bI r / bI q:=by
   have:¬ low<a:=by simpa using L
   omega
  have af:((bI r:Nat):Int) + -(low:Int)*((bI q:Nat):Int)=((bI r % bI q:Nat):Int):=by
   have h1:=Ri (bI r) (bI q);rw [<- s] at h1;have h2:((bI q*low+bI r % bI q:Nat):Int)=(bI r:Nat):=by rw [h1]
   rw [QX,Pj] at h2;rw [Int.neg_mul,Int.mul_comm (low:Int)];omega
  refine R4 3 Z fun R b=>SC (j*1) U10 ah U2<|SG (j:=0) U11 (by show j*1+1<=_;rw [bQ eS];omega)<|Sa [0,1,6,7,8,9] b Z<|R4 4 Z fun R b=>?_;rw [show IntKind.i64.wrap (0-(low:Int))=-(low:Int) by rw [IntKind.wrap_i64];omega];refine SD (vH _ _ _ r q (-(low:Int)) ad.m_ g.m_ ac.1 w.1 om_ (by rw [af];omega) om_ om_) U7 fl_ (fun aY _ _ aC=>?_);obtain ⟨l3,aD,ag,aE⟩:=aC;rw [af,Qk] at ag;refine C4 1 [0,1,6,7,8] b Z<|R4 1 Z fun R b=>Se _ U7<|C4 1 [0,1,6,7,8] b Z<|Sp (L':=[.arr (qW d p.length p.length) 3 1 p.length ((o.set j low).map aQ).flatten]) (by rw [<- bJ eS _ (by omega:j<o.length)];rfl)<|Sj (m':=j+1) om_ mup (hn_ [0,1,6,7,8] Z) ⟨j,o.set j low,l3,_,⟨by omega,by rw [Pm];exact W,IG X (by show low<BP;omega),by rw [sn om_,Y,K.1,s];omega,aE.mono mup,aD,by rw [ag,K.2,J]⟩,Z,Z,Z⟩
 have aa:k=0:=by
  have:¬ (0:Int)<=(k:Int)-1:=by simpa using H
  omega
 subst aa;refine Sx [(1,3)] Z fun R b=>R7 U6<|D.call (tH _ _ o W) Z (.inr dc_) U6 (Ov _) fl_ (fun aZ _ a0 _ aF=>?_);obtain ⟨rfl,I⟩:=aF;refine C4 3 [4,5] b Z<|Sh (G.dropAll (Sy U3 ?_));exact ⟨Z,_,_,Z,⟨vY o,lu X,by rw [gU,<- Pz (l:=o),Y,Pz],I⟩,⟨l,E,by rw [F,Pz],hs.mono mup⟩⟩
theorem di (z:Int):cC 45 (txt z)=(bj z.natAbs,decide (z<0)):=by
 unfold txt;split
 ·rename_i h;rw [OK h];rfl
 rename_i h;rw [OV h];unfold cC;rw [aA];intro h0;have h1:=(bA z.natAbs).1.1 45 (List.mem_of_mem_head? h0);revert h1;decide
theorem yO (z:Int):txt z=[48] ↔ z=0:=by
 constructor
 ·intro h;have h1:(cC 45 (txt z)).1=[48]:=by rw [h];rfl
  rw [di] at h1;have h2:=(bA z.natAbs).2;have h3:bj z.natAbs=[48]:=h1;rw [h3] at h2;have h4:bS [48]=0:=rfl;omega
 rintro rfl;unfold txt;rw [aA om_,show bj (0:Int).natAbs=bj 0 from rfl,bj];rfl
theorem kE (z:Int):((⟨(txt z).toArray⟩:ByteArray).data.toList == (⟨#[48]⟩:ByteArray).data.toList)=decide (z=0):=by
 show (txt z == [48])=_;rw [Ni,Pp];exact yO z
theorem cR (n:Nat):txt (n:Int)=bj n:=by
 unfold txt;rw [aA om_];rfl
theorem eZ (C:Mem)(z:Int):Gives cx.P 258 [ai (txt z)] C (.tuple #[.bool (decide (z<0)),ai (bj z.natAbs)]):=by
 have h:=split_fn C (txt z)
 rwa [di] at h
theorem FT {c:UInt8}(h:s[i]?=some c):bS (s.take (i+1))=10*bS (s.take i)+(c.toNat-48):=by
 rw [FU h];omega
theorem vX (a:∀ c∈s,eB c=true)(d:s.length<=17)(i:Nat):bS (s.take i)<100000000000000000:=by
 have h1:=dE (s:=s.take i) (fun c b=>a c (Pw b));have h2:10 ^ (s.take i).length<=10 ^ 17:=OO dc_ (by rw [OG];omega);omega
theorem Hf (C:Mem)(z:Int)(b:(bj z.natAbs).length<=17):Gives cx.P 287 [ai (txt z)] C (.tuple #[.int .i64 z,.bool true]):=by
 obtain ⟨s,k⟩:∃ s,bj z.natAbs=s:=⟨_,rfl⟩;have hs:=(bA z.natAbs).1.1;have d:=(bA z.natAbs).2;rw [k] at b hs d;refine Sc func287 45 U3 fun w0=>C6 2 [0] Z<|R4 1 Z fun R a=>Sk (by have h:=eZ C z;rw [k] at h;exact h) U7 fl_<|C4 5 [4,5] a Z<|C6 3 [4,5,16] Z<|R6 (fun l=>?_) fun l=>?_
 ·exfalso;have:(s.length:Int) > 19:=by simpa using l
  omega
 refine C6 1 [4,5,6] Z<|C6 1 [4,5,6,7] Z<|G.loop (fun fr C' p q=>∃ (i:Nat),(i<=s.length)/\fr=[(4,[],.bool (decide (z<0))),(5,[],ai s),(6,[],.int .i64 (-((bS (s.take i):Nat):Int))),(7,[],.int .i64 i)]/\p=[]/\q=s.length-i) (hn_ [4,5,6,7] Z) ⟨0,Ow _,Z,Z,Z⟩ (fun fr w x m _ r=>?_);obtain ⟨i,y,rfl,rfl,rfl⟩:=r;refine C6 4 [4,5,6,7,20] Z<|R6 (fun e=>?_) fun e=>?_
 ·have f:i<s.length:=by simpa using e
  obtain ⟨c,g⟩:∃ c,s[i]?=some c:=⟨s[i],ak f⟩;have t:=hs c (Oq g);have A:48<=c.toNat/\c.toNat<=57:=by simpa [eB] using t
  have B:=vX hs b i;have u:(-9223372036854775808+(((c.toNat:Nat):Int)-48)).tdiv 10=-((9223372036854775808-(((c.toNat:Nat):Int)-48)) / 10):=by
   rw [show (-9223372036854775808+(((c.toNat:Nat):Int)-48))=-(9223372036854775808-(((c.toNat:Nat):Int)-48)) by omega,Int.neg_tdiv,QO om_]
  refine R4 2 Z fun R a=>SY U8 (fun _=>⟨by omega,g⟩) U2<|SL (c:=((c.toNat:Nat):Int)) U8 (by rw [IntKind.wrap_i64];omega) fl_<|Se _ U7<|C4 1 [4,5,6,7,8] a Z<|R4 2 Z fun R a=>Se _ U7<|Tg (-((9223372036854775808-(((c.toNat:Nat):Int)-48)) / 10)) U6 om_ u (by rw [IntKind.wrap_i64];omega) U2<|C4 1 [4,5,6,7,8,32] a Z<|R6 (fun n=>?_) fun n=>?_
  ·exfalso;simp only [Oz] at n;omega
  refine R4 1 Z fun R a=>Se _ U7<|R7 U6<|Se _ U7<|C4 1 [4,5,6,7] a Z<|R4 1 Z fun R a=>Se _ U7<|C4 1 [4,5,6,7] a Z ?_;rw [show 10 * -((bS (s.take i):Nat):Int)-(((c.toNat:Nat):Int)-48)=-((bS (s.take (i+1)):Nat):Int) by rw [FT g];omega];refine Sj (m':=s.length-(i+1)) om_ mup (hn_ [4,5,6,7] Z) ⟨i+1,om_,Z,Z,Z⟩
 have f:i=s.length:=by
  have:¬ i<s.length:=by simpa using e
  omega
 rw [f,OH,d];refine C6 2 [6,37] Z<|R6 (fun j=>?_) fun j=>?_
 ·have v:z<0:=by simpa using j
  refine C6 3 [2,3] Z<|Sh (G.dropAll (Sy U3 ?_));refine ⟨?_,Z⟩;rw [show -((z.natAbs:Nat):Int)=z by omega]
 have v:¬ z<0:=by simpa using j
 have D:z.natAbs<100000000000000000:=by
  have:=vX hs b s.length
  rwa [OH,d] at this
 refine C6 3 [6,40] Z<|R6 (fun o=>?_) fun o=>?_
 ·exfalso;simp at o;omega
 refine C6 4 [2,3] Z<|Sh (G.dropAll (Sy U3 ?_));refine ⟨?_,Z⟩;rw [show IntKind.i64.wrap (0 - -((z.natAbs:Nat):Int))=z by rw [IntKind.wrap_i64];omega]
theorem AP (C:Mem)(z:Int):Gives cx.P 260 [ai (txt z)] C (.tuple #[.int .i64 (if (bj z.natAbs).length<=17 then z else 0),.bool (decide ((bj z.natAbs).length<=17))]):=by
 refine Sc func260 18 U3 fun w0=>C6 2 [0] Z<|R4 1 Z fun R b=>Sg (eZ C z) U7<|C4 5 [0,5] b Z<|C6 3 [0,13] Z<|R6 (fun c=>?_) fun c=>?_
 ·have a:¬ (bj z.natAbs).length<=17:=by
   have:((bj z.natAbs).length:Int) > 17:=by simpa using c
   omega
  refine C6 2 [2,3] Z<|Sh (G.dropAll (Sy U3 ?_));rw [aA a,OV a];exact ⟨Z,Z⟩
 have a:(bj z.natAbs).length<=17:=by
  have:¬ ((bj z.natAbs).length:Int) > 17:=by simpa using c
  omega
 refine R4 1 Z fun R b=>Sg (Hf _ z a) U7<|C4 4 [2,3] b Z<|Sh (G.dropAll (Sy U3 ?_));rw [aI a,OK a];exact ⟨Z,Z⟩
theorem kN (C:Mem)(a:Tabs C)(z:Int)(b:-9223372036854775808<=z)(c:z<=9223372036854775807):Gives cx.P 148 [.int .i64 z] C (ai (txt z)):=by
 exact Sc func148 5 U3 fun w0=>C6 1 [0] Z<|R4 1 Z fun R d=>Sg (iO _ a z b c) U7<|C4 1 [2] d Z<|Sb U2<|⟨Z,Z⟩
theorem xg (C:Mem)(z:Int):Gives cx.P 221 [ai (txt z)] C (.int .i64 (if z<0 then -1 else if z=0 then 0 else 1)):=by
 refine Sc func221 13 U3 fun w0=>C6 1 [0] Z<|R4 1 Z fun R e=>Sg (eZ C z) U7<|C4 5 [0,3] e Z<|C6 1 [0,10] Z<|R6 (fun b=>?_) fun b=>?_
 ·have c:z<0:=by simpa using b
  refine C6 1 [2] Z<|Sb U2 ?_;rw [aI c];exact ⟨Z,Z⟩
 have c:¬ z<0:=by simpa using b
 rw [aA c];refine C6 2 [12] Z<|R6 (fun a=>?_) fun a=>?_
 ·rw [kE] at a;have d:z=0:=by simpa using a
  refine C6 1 [2] Z<|Sb U2 ?_;rw [aI d];exact ⟨Z,Z⟩
 rw [kE] at a;have d:¬ z=0:=by simpa using a
 refine C6 1 [2] Z<|Sb U2 ?_;rw [aA d];exact ⟨Z,Z⟩
theorem rh (C:Mem)(z:Int)(d:(bj z.natAbs).length<=1000000):Gives cx.P 222 [ai (txt z)] C (ai (txt (-z))):=by
 refine Sc func222 18 U3 fun w0=>C6 1 [0] Z<|R4 1 Z fun R a=>Sg (eZ C z) U7<|C4 5 [0,3,4] a Z<|R4 4 Z fun R a=>SA U8<|Sa [4,14] a Z<|R6 (fun b=>?_) fun b=>?_
 ·rw [kE] at b;have c:z<=0:=by simp at b;omega
  refine C6 2 [2] Z<|Sb U2<|⟨?_,Z⟩;rw [show txt (-z)=bj z.natAbs by rw [show -z=((z.natAbs:Nat):Int) by omega,cR]]
 rw [kE] at b;have c:0<z:=by simp at b;omega
 refine R4 1 Z fun R a=>S1 U6 (fun _=>(by simp only [OI,O4];omega)) U2<|C4 1 [2] a Z<|Sb U2<|⟨?_,Z⟩;rw [show txt (-z)=45::bj z.natAbs by unfold txt;rw [aI om_];congr 2;omega];rfl
theorem rU (C:Mem)(z:Int):Gives cx.P 259 [ai (txt z)] C (ai (bj z.natAbs)):=by
 exact Sc func259 11 U3 fun w0=>C6 1 [0] Z<|R4 1 Z fun R a=>Sg (eZ C z) U7<|C4 5 [4] a Z<|C6 2 [2] Z<|Sb U2<|⟨Z,Z⟩
theorem Ot:BP ^ 200=10 ^ 800:=by decide +kernel
theorem gg (h:n<BP ^ 200):(bj n).length<=800:=ek (by rw [<- Ot];exact h) om_
theorem PieC.take {D:Mem}{u:Value}(h:PieC D u n)(a:n<BP ^ 201):∃ l,Be l/\bI l=n/\l.length<=201/\Sl D 1 u (l.map aQ):=by
 obtain ⟨l,h1,h2,h3⟩:=h;exact ⟨l,h1,h2,mh h1 (by rw [h2];exact a),h3⟩
theorem mV (C:Mem)(n:Nat)(h:n<BP ^ 200):Pur cx.P 262 [ai (bj n)] C fun u D=>∃ l,Be l/\bI l=n/\l.length<=200/\Sl D 1 u (l.map aQ) :=
 (Kj C (bj n) (bA n).1.1 (by have:=gg h;omega)).mono fun u D _ _ ⟨h0,l,h1,h2,h3⟩=>⟨h0,l,h1,by rw [h2,(bA n).2],mh h1 (by rw [h2,(bA n).2];exact h),h3⟩
theorem NB:BP ^ 200+BP ^ 200<BP ^ 201:=by decide +kernel
theorem AO (h:(bj z.natAbs).length<=17):z.natAbs<100000000000000000:=by
 have h1:=dE (bA z.natAbs).1.1;rw [(bA z.natAbs).2] at h1;have h2:10 ^ (bj z.natAbs).length<=10 ^ 17:=OO dc_ h;omega
theorem Ks (h:decide (z<0)=decide (w<0)):sgZ (decide (z<0)) (z.natAbs+w.natAbs)=z+w:=by
 rw [Pp] at h;unfold sgZ;by_cases a:z<0
 ·have:=h.1 a;rw [OK a,aI rfl];omega
 have:¬ w<0:=fun h1=>a (h.2 h1);rw [OV a,aA am];omega
theorem Kt (h:decide (z<0)≠decide (w<0))(b:¬ z.natAbs<w.natAbs):sgZ (decide (z<0)) (z.natAbs-w.natAbs)=z+w:=by
 rw [ne_eq,Pp] at h;unfold sgZ;by_cases a:z<0
 ·have:¬ w<0:=fun h1=>h ⟨fun _=>h1,fun _=>a⟩;rw [OK a,aI rfl];omega
 have:w<0:=O3 fun h1=>h ⟨fun h2=>absurd h2 a,fun h2=>absurd h2 h1⟩;rw [OV a,aA am];omega
theorem nT (C:Mem)(n:Nat):Gives cx.P 258 [ai (bj n)] C (.tuple #[.bool false,ai (bj n)]):=by
 have h:=eZ C (n:Int);rw [cR,OV om_] at h;exact h
theorem pC (C:Mem)(n:Nat):Gives cx.P 260 [ai (bj n)] C (.tuple #[.int .i64 (if (bj n).length<=17 then (n:Int) else 0),.bool (decide ((bj n).length<=17))]):=by
 have h:=AP C (n:Int);rw [cR] at h;exact h
theorem pD (h:(bj n).length<=17):n<100000000000000000:=AO (z:=(n:Int)) h
theorem EH (C:Mem)(a:Tabs C)(n:Nat)(h:n<=9223372036854775807):Gives cx.P 148 [.int .i64 n] C (ai (bj n)):=by
 have h:=kN C a (n:Int) om_ om_
 rwa [cR] at h
theorem sY (C:Mem)(a:Tabs C)(v:Value)(l:List Nat)(b:Sl C 1 v (l.map aQ))(c:DigP l)(d:l.length<=100000):Gives cx.P 264 [.bool false,v] C (ai (bj (bI l))):=by
 have h:=EU C a false v l b c d;rw [show sgZ false (bI l)=((bI l:Nat):Int) from rfl,cR] at h;exact h
theorem NN {q:Nat}(h:q<=9223372036854775807):IntKind.i64.wrap ((q:Nat):Int)=(q:Nat):=by rw [IntKind.wrap_i64];omega
theorem li (C:Mem)(d:Tabs C)(a b:Nat)(l:a<BP ^ 200)(m:b<BP ^ 200)(e:0<b):Gives cx.P 224 [ai (bj a),ai (bj b)] C (.tuple #[ai (bj (a / b)),ai (bj (a % b))]):=by
 have D:=NB;refine Sc func224 93 U3 fun w0=>C6 2 [0,1] Z<|R4 1 Z fun R c=>Sg (pC C a) U7<|C4 5 [0,1,6,7] c Z<|R4 1 Z fun R c=>Sg (pC _ b) U7<|C4 5 [0,1,6,7,8,9] c Z<|R4 3 Z fun R c=>Sv U8<|Sa [0,1,6,8,31] c Z<|R6 (fun f=>?_) fun f=>?_
 ·have hs:(bj a).length<=17/\(bj b).length<=17:=by simpa using f
  have h1:=pD hs.1;have h2:=pD hs.2;rw [aI hs.1,aI hs.2];have h0:=Pv a b;refine Ss [0,1,2,3,4,5,6,7] [] Z kr_ fun R E c=>R9 2 Z<|Tg (((a / b:Nat):Int)) U6 om_ (by rw [QO om_];rfl) (NN om_) U2<|R9 2 Z<|Tb U6 om_ om_ U2<|C4 2 [6,8,10,11] c Z<|C6 2 [6,8,10,11,39] Z<|R6 (fun g=>?_) fun g=>?_
  ·exfalso;have h3:=RI (a:Int) (show (b:Int)≠0 by omega);simp only [Oz] at g;omega
  rw [<- Int.natCast_emod];have h3:=Pv a b;have h4:=Pd a e;refine R4 1 Z fun R c=>Sk (EH _ d (a / b) om_) U7 fl_<|R7 U6<|Sk (EH _ d (a % b) om_) U7 fl_<|C4 2 [4,5] c Z<|Sh (G.dropAll (Sy U3 ?_));exact ⟨Z,Z⟩
 refine R4 1 Z fun R c=>Sg (nT _ a) U7<|C4 5 [1,12,13] c Z<|R4 1 Z fun R c=>Sg (nT _ b) U7<|C4 5 [12,13,14,15] c Z<|R4 1 Z fun R c=>SI (mV _ a l) U7 (fun F _ _ n=>?_);obtain ⟨lp,o,p,H,q⟩:=n;refine R7 U6<|SI (mV _ b m) U7 (fun I _ _ r=>?_);obtain ⟨s,t,u,J,v⟩:=r;refine SD (zE _ _ _ lp s q.m_ v.m_ o.1 t om_ om_ om_) U7 fl_ (fun K _ _ w=>?_);obtain ⟨u1,L,rfl,h,i⟩:=w;rw [p,u] at h i;obtain ⟨l1,x,y,M,z⟩:=PieC.take h (by have:=Pv a b;omega);obtain ⟨l2,A,B,N,j⟩:=PieC.take i (by have:=Pd a e;omega);obtain ⟨A2,c2,rfl,_⟩:=id j;refine C4 5 [12,14,15,16,17] c Z<|R4 5 Z fun R c=>Sv U8<|Sa [12,14,15,16,17,78] c Z<|R6 (fun k=>?_) fun k=>?_
 ·exfalso;simp at k
 refine R4 4 Z fun R c=>Sk (sY _ d.m_ _ l1 z.m_ x.1 om_) U7 fl_<|R7 U6<|Sk (sY _ d.m_ _ l2 j.m_ A.1 om_) U7 fl_<|C4 2 [4,5] c Z<|Sh (G.dropAll (Sy U3 ?_));rw [y,B];exact ⟨Z,Z⟩
theorem JW (n:Nat):((⟨(bj n).toArray⟩:ByteArray).data.toList == (⟨#[48]⟩:ByteArray).data.toList)=decide (n=0):=by
 have h:=kE (n:Int);rw [cR] at h;rw [h,Pp];omega
theorem Ca (C:Mem)(h:Tabs C)(z w:Int)(i:z.natAbs<BP ^ 200)(j:w.natAbs<BP ^ 200):Gives cx.P 223 [ai (txt z),ai (txt w)] C (ai (bj (Nat.gcd z.natAbs w.natAbs))):=by
 refine Sc func223 22 U3 fun w0=>C6 1 [0,1] Z<|R4 1 Z fun R e=>Sg (rU _ z) U7<|R7 U6<|Sg (rU _ w) U7<|C4 2 [0,1] e Z<|G.loop (fun fr C' k l=>∃ (a b:Nat),(a<BP ^ 200/\b<BP ^ 200/\Nat.gcd a b=Nat.gcd z.natAbs w.natAbs)/\fr=[(0,[],ai (bj a)),(1,[],ai (bj b))]/\k=[]/\l=b+1) (hn_ [0,1] Z) ⟨z.natAbs,w.natAbs,⟨i,j,Z⟩,Z,Z,Z⟩ (fun fr p q m _ n=>?_);obtain ⟨a,b,⟨o,f,g⟩,rfl,rfl,rfl⟩:=n;refine C6 2 [0,1,12] Z<|R6 (fun c=>?_) fun c=>?_
 ·have d:0<b:=by
   rw [JW] at c;have:b≠0:=by simpa using c
   omega
  have r:=Pd a d;refine R4 2 Z fun R e=>Sg (li _ h.m_ a b o f d) U7<|C4 5 [1,6] e Z<|C6 4 [0,1] Z<|Sj (m':=a % b+1) om_ mup (hn_ [0,1] Z) ⟨b,a % b,⟨f,by omega,by rw [<- g,Nh a b d]⟩,Z,Z,Z⟩
 have d:b=0:=by
  rw [JW] at c;simpa using c
 refine C6 2 [4] Z<|Sb U2<|⟨?_,Z⟩;rw [<- g,d,QZ]
def ij (s:Str):Int:=sgZ (cC 45 s).2 (bS (cC 45 s).1)
theorem wq {t:Str}(h:uj t):t.head?=some 48 ↔ bS t=0:=by
 constructor
 ·intro h0;have h1:=h.2.2 h0;cases t with
  | nil=>cases h0
  | cons b t =>
   have a:b=48:=by simpa using h0
   have d:t=[]:=by cases t with
    | nil=>rfl
    | cons c t=>simp at h1
   subst a d;rfl
 intro h0;have:=pA h (bA 0).1 (by rw [h0,(bA 0).2]);rw [this,bj];rfl
theorem wn :wo s=true ↔ uj (cC 45 s).1/\((cC 45 s).2=true->0<bS (cC 45 s).1):=by
 obtain ⟨t,neg,d⟩:∃ t b,cC 45 s=(t,b):=⟨_,_,rfl⟩;unfold wo;rw [d];simp only [OC,QC,PN,ne_eq,OM,Bool.and_eq_false_imp,PV,PR,OL];constructor
 ·rintro ⟨⟨h1,h2⟩,h3⟩;have a:uj t:=⟨h1,h2,fun h=>by
   have:=(h3 h).2;have:0<t.length:=O9.2 h2;omega⟩
  refine ⟨a,fun c=>?_⟩;rcases PM (bS t) with h | h
  ·have:=(h3 ((wq a).2 h)).1;rw [c] at this;cases this
  exact h
 rintro ⟨a,h⟩;refine ⟨⟨a.1,a.2.1⟩,fun h0=>?_⟩;have h1:=(wq a).1 h0;have h2:=a.2.2 h0;refine ⟨?_,by omega⟩;cases c:neg with
 | false=>rfl
 | true=>have:=h c;omega
theorem FI (s:Str):s=if (cC 45 s).2 then 45::(cC 45 s).1 else (cC 45 s).1:=by
 unfold cC;split
 ·rename_i h;cases s with
  | nil=>cases h
  | cons b s =>
   have a:b=45:=by simpa using h
   subst a;rfl
 rfl
theorem Gf (h:wo s=true):s=txt (ij s):=by
 obtain ⟨h1,h2⟩:=wn.1 h;unfold ij;rw [yP _ _ h2,<- nv h1];exact FI s
def ol (zn:Int):Option Str->Bool
 | none=>true
 | some b=>decide (1<ij b) && !(zn == 0) && (Nat.gcd zn.natAbs (ij b).natAbs == 1)
def bg (s:Str):Bool:=cA (jt 47 s).1 && cA ((jt 47 s).2.getD [49]) && ol (ij (jt 47 s).1) (jt 47 s).2
theorem qN :cA s=true ↔ okD (cC 45 s).1=true/\((cC 45 s).2=true->0<bS (cC 45 s).1):=by
 unfold cA;rw [OC,wn,xt,Oz];constructor
 ·rintro ⟨⟨h1,h2⟩,h3⟩;exact ⟨⟨h1,h3⟩,h2⟩
 rintro ⟨⟨h1,h3⟩,h2⟩;exact ⟨⟨h1,h2⟩,h3⟩
theorem II (s:Str):(ij s).natAbs=bS (cC 45 s).1:=by
 unfold ij sgZ;split <;> omega
theorem Eb (h:s.length<=n):(jt 47 s).1.length<=n/\((jt 47 s).2.getD [49]).length<=n+1:=by
 rcases gj 47 s with ⟨h1,_⟩ | ⟨a,post,h1,h2,_⟩
 ·rw [h1];exact ⟨h,by simp⟩
 have e:=congrArg List.length h2;rw [Oy,OI] at e;rw [h1];simp only [Pu];omega
theorem one_val:([49]:Str)=txt 1:=by
 unfold txt;rw [aA om_,show bj (1:Int).natAbs=bj 1 from rfl,bj];rfl
theorem rL (n:Nat):((⟨(bj n).toArray⟩:ByteArray).data.toList == (⟨#[49]⟩:ByteArray).data.toList)=(n == 1):=by
 show (bj n == [49])=_;rw [Ni,RQ,Oz,PV];constructor
 ·intro h;have h2:=(bA n).2;rw [h] at h2;exact h2.symm
 rintro rfl;rw [bj];rfl
theorem Ew (C:Mem)(s:Str)(d:∀ c∈s,eB c=true)(e:s≠[])(f:s.length<=18):Gives cx.P 251 [ai s,.int .i64 10,.int .i64 64] C (.tuple #[.int .u64 (bS s),.nilIface]):=by
 refine Sc func251 26 U3 fun w0=>C6 2 [0,1,2] Z<|R4 3 Z fun R a=>Sk (Eu Tryz.parseU s d e f _ kr_) U7 fl_<|C4 5 [0,1,2,8,9] a Z<|R4 1 Z fun R a=>TY false Z Z Z Z Z (.inr ⟨Z,Z⟩) kr_ Z Z<|Sa [0,1,2,8,9,18] a Z<|R6 (fun b=>?_) fun b=>?_
 ·cases b
 refine C6 3 [6,7] Z<|Sh (G.dropAll (Sy U3 ?_));exact ⟨Z,Z⟩
theorem Bq (C:Mem)(i:Nat)(h:i<100):Gives cx.P 269 [.int .i64 i] C (ai (bj i)):=by
 have h1:=Gives.ofCalls (f:=269) (args:=[.int .i64 i]) (P:=cx.P) kr_ (fun w=>Any.internal_strconv_small Tryz.small10 i h w) C;rw [dy] at h1;exact h1
theorem zP (u:Nat):Lib.nDigits u=(bj u).length:=by rw [<- dy,Lib.decDigits_length]
theorem Cb (C:Mem)(l:Tabs C)(u:Nat)(s:u<9223372036854775808):Gives cx.P 286 [.int .u64 u,.int .i64 10] C (ai (bj u)):=by
 refine Sc func286 32 U3 fun w0=>C6 1 [0,1] Z<|C6 2 [0,1,10] Z<|R6 (fun g=>?_) fun g=>?_
 ·refine C6 2 [0,12] Z<|R6 (fun e=>?_) fun e=>?_
  ·have h:u<100:=by
    have:(u:Int)<100:=by simpa using e
    omega
   exact R4 1 Z fun R a=>SL (c:=(u:Int)) U8 (by rw [IntKind.wrap_i64];omega) fl_<|Sg (Bq _ u h) U7<|C4 1 [4] a Z<|Sb U2<|⟨Z,Z⟩
  have h:100<=u:=by
   have:¬ (u:Int)<100:=by simpa using e
   omega
  have t:Lib.nDigits u<=19:=by
   rw [zP];exact ek om_ om_
  refine R8 fun R a=>Sq U5 fun i=>Sa [0,5] a Z<|R4 1 Z fun R a=>Sk (vv Tryz.nDig u om_ om_ _ l.pow.m_ kr_) U7 fl_<|C4 1 [0,5,6] a Z<|Sx [(3,3)] Z fun R a=>R7 U6<|TO 0 (Lib.nDigits u) 24 U12 (fun _=>⟨.inl ⟨Z,Z⟩,.inr ⟨_,Z⟩,.inl ⟨Z,Z⟩,by omega,by omega,by decide⟩) U2<|R7 U6<|D.call (xG Tryz.fmt10 i 24 u 372 (List.replicate 24 (Value.int .u8 0)) om_ (fun j d=>(by rw [Qr,aI om_])) om_ _ kr_) Z (.inr dc_) U6 (Ov _) fl_ fun w _ z _ m=>Sa [5,6] a Z ?_;obtain ⟨_,rfl,cs,rfl,A,n⟩:=m;refine G.freeze 0 Z (fun o _ p=>?_);have q:(bj u).length=Lib.nDigits u:=(zP u).symm;have k:Sl o 1 (.slice (some ⟨i,0,none⟩) ((bj u).map fun b=>[Value.int .u8 b.toNat]).length 24) ((bj u).map fun b=>[Value.int .u8 b.toNat]) :=
   Sl.ofBlock p (by intro r hr;obtain ⟨y,_,rfl⟩:=OB.1 hr;rfl) (fun j v d=>by
    rw [fO,Ou] at d;cases f:(bj u)[j]? with
    | none=>rw [f] at d;cases d
    | some x=>rw [f] at d;cases d;simpa using n j x f) ap (by simp [maxLen])
  rw [al,q] at k;exact R4 1 Z fun R a=>TO 0 (Lib.nDigits u) 24 U12 (fun _=>⟨.inl ⟨Z,Z⟩,.inr ⟨_,Z⟩,.inl ⟨Z,Z⟩,by omega,by omega,by decide⟩) U2<|Tw k.m_ U11 fl_<|C4 1 [4] a Z<|Sb U2<|⟨Z,Z⟩
 exact absurd g dc_
theorem Cc (C:Mem)(a:Tabs C)(u:Nat)(b:u<9223372036854775808):Gives cx.P 255 [.int .u64 u,.int .i64 10] C (ai (bj u)):=by
 exact Sc func255 8 U3 fun w0=>C6 1 [0,1] Z<|R4 2 Z fun R c=>Sg (Cb _ a.m_ u b) U7<|C4 1 [4] c Z<|Sb U2<|⟨Z,Z⟩
theorem jh (C:Mem)(z:Int)(m:Nat)(d:m<=18):Gives cx.P 213 [ai (txt z),.int .i64 m] C (.tuple #[.int .i64 (if (txt z).length<=m then z else 0),.bool (decide ((txt z).length<=m))]):=by
 refine Sc func213 20 U3 fun w0=>C6 2 [0,1] Z<|C6 4 [0,11] Z<|R6 (fun b=>?_) fun b=>?_
 ·have a:¬ (txt z).length<=m:=by
   have:(m:Int)<((txt z).length:Int):=by simpa using b
   omega
  refine C6 2 [4,5] Z<|Sh (G.dropAll (Sy U3 ?_));exact ⟨by rw [aA a,OV a],Z⟩
 have a:(txt z).length<=m:=by
  have:¬ (m:Int)<((txt z).length:Int):=by simpa using b
  omega
 refine R4 1 Z fun R c=>Sk (yj Tryz.atoi z om_ _ kr_) U7 fl_<|C4 5 [6,7] c Z<|Ss [0,1,2,3,4] [] Z kr_ fun R e c=>R9 2 Z<|TY true Z Z Z Z Z (.inl ⟨Z,Z⟩) kr_ Z Z<|C4 2 [4,5] c Z<|Sh (G.dropAll (Sy U3 ?_));exact ⟨by rw [aI a,OK a],Z⟩
theorem iI (C:Mem)(z:Int)(t:(bj z.natAbs).length<=1000000):Pur cx.P 214 [ai (txt z)] C fun u D=>∃ p,u=.agg ⟨[.bool (decide (z<0)),p]⟩/\NineC D p z.natAbs:=by
 obtain ⟨S,hS⟩:∃ S,bj z.natAbs=S:=⟨_,rfl⟩;have b:=(bA z.natAbs).1;have i:=(bA z.natAbs).2;rw [hS] at t b i;refine Sc func214 44 U3 fun w0=>R8 fun R a=>Sq U5 fun d=>Sa [0,2] a Z<|R4 1 Z fun R a=>Sg (F0 _ (txt z) 45) U7 ?_;rw [di,hS];refine C4 5 [2,3,4] a Z<|R4 2 Z fun R a=>S9 (S.length) (9) U6 om_ (.inl ⟨Z,by omega⟩) U2<|SH (((S.length / 9+1:Nat):Int)) U4 om_ om_ om_ U2<|S3 U9 (Ow _) (by show 8*(S.length / 9+1)<=281474976710656;omega) (by simp only [maxLen];omega) fl_ fun L=>C4 1 [2,3,4,5] a Z ?_;rw [show (ai S:Value)=ai (S.take S.length) by rw [OH]];refine G.loop (fun fr C' k v=>∃ (q j:Nat)(out:List Nat)(w:Value),(q<=S.length/\(q=0∨q+9*j=S.length)/\out.length=j/\j<=S.length/\(q=0∨j<S.length)/\Dig9 out/\bq out=bS (S.drop q))/\fr=[(2,[],.pointer (some ⟨d,0,none⟩)),(3,[],ai (S.take q)),(4,[],.bool (decide (z<0))),(5,[],w)]/\k=[.arr w 160 1 j (out.map bZ).flatten,.obj d (.cells ⟨[.bool false,.slice none 0 0]⟩ 307 (0,0))]/\v=q+1) (hn_ [2,3,4,5] Z) ⟨S.length,0,[],_,⟨Oo _,by omega,Z,Ow _,by have:=O9.2 b.2.1;omega,(fun x y=>(by cases y)),by rw [Py];rfl⟩,Z,Z,Z⟩ (fun fr M N m _ A=>?_);obtain ⟨q,j,out,w,⟨O,Q,e,T,U,l,f⟩,rfl,rfl,rfl⟩:=A;refine C6 3 [2,3,4,5,21] Z<|R6 (fun g=>?_) fun g=>?_
 ·have B:(⟨(S.take q).toArray⟩:ByteArray).data.toList.length=q:=by
   show (S.take q).length=q;rw [OG];omega
  have E:(S.take q).length=q:=B;have o:0<q:=by
   have h:(0:Int)<(((⟨(S.take q).toArray⟩:ByteArray).data.toList.length:Nat):Int):=by simpa using g
   omega
  have F:(gi S (q-9) q).length<=9/\0<(gi S (q-9) q).length:=by
   unfold gi;rw [Qv,OG];omega
  have H:∀ c∈gi S (q-9) q,eB c=true:=fun c I=>b.1 c (Pw (Q7 I));refine R4 2 Z fun R a=>SH (((q:Int)-9)) U4 om_ om_ om_ U2<|D.max (((q-9:Nat):Int)) U6 om_ U2<|C4 1 [2,3,4,5,6] a Z<|R4 2 Z fun R a=>S2 (q-9) (S.take q).length U9 (fun _=>⟨.inr ⟨_,Z⟩,.inl ⟨Z,Z⟩,.inl ⟨Z,Z⟩,by omega,Oo _,Oo _⟩) U2 ?_;rw [show (((S.take q).take (S.take q).length).drop (q-9))=gi S (q-9) q from by rw [OH];rfl];refine Sk (Ew _ (gi S (q-9) q) H (O9.1 F.2) om_) U7 fl_<|C4 5 [2,3,4,5,6,7] a Z<|Ss [0,1,4,5,6,2,3,7,8] [] Z kr_ fun R V a=>R9 4 Z<|S2 0 (q-9) U9 (fun _=>⟨.inl ⟨Z,Z⟩,.inr ⟨_,Z⟩,.inl ⟨Z,Z⟩,by omega,by omega,Oo _⟩) U2<|Sr [bZ (bS (gi S (q-9) q))] U12 fun W _ _ J=>D.append (j:=0) U11 J Z aw (by show (j+1)*8<=_;omega) fl_ fun r=>C4 2 [2,3,4,5] a Z ?_;rw [show ((S.take q).take (q-9)).drop 0=S.take (q-9) from by rw [Pz,Rq,PK om_]];refine Sp (L':=[.arr r 160 1 (j+1) ((out++[bS (gi S (q-9) q)]).map bZ).flatten,.obj d (.cells ⟨[.bool false,.slice none 0 0]⟩ 307 (0,0))]) (by simp [bZ])<|Sj (m':=q-9+1) om_ mup (hn_ [2,3,4,5] Z) ⟨q-9,j+1,out++[bS (gi S (q-9) q)],r,⟨by omega,by omega,by simp [e],by omega,by omega,l.snoc (IK b.1 om_),Bj om_ e om_ f⟩,Z,Z,Z⟩
 have o:q=0:=by
  have E:(S.take q).length=q:=by rw [OG];omega
  have h:¬ (0:Int)<(((S.take q).length:Nat):Int):=by simpa using g
  omega
 subst o;rw [Pz,i] at f;refine Sx [(2,3)] Z fun R a=>R9 2 Z<|D.call (fT _ _ out (n:=j) e) Z (.inr dc_) U6 (Ov _) fl_ (fun X _ Y _ K=>?_);obtain ⟨rfl,s⟩:=K;obtain ⟨Au,cu,rfl,_⟩:=id s;refine Sn [.bool (decide (z<0)),_] U8<|Sf (j:=0) U12<|Sa [2] a Z<|Sh (SV af U4 ?_);exact ⟨Z,_,Z,De out,gW l,by rw [gV,f],s⟩
theorem Cs (k:Nat)(s:Str):bS (List.replicate k 48++s)=bS s:=by
 induction k with
 | zero=>rfl
 | succ k a=>rw [PH,PZ,dm,a];simp
theorem KY (h:x<1000000000):lG 9 x=List.replicate (9-(bj x).length) 48++bj x:=by
 obtain ⟨h1,h2,h3⟩:=jY 9 x h;obtain ⟨h4,h5⟩:=bA x;have b:(bj x).length<=9:=ek om_ om_;refine xT h2 (fun c a=>?_) (by rw [h1];simp;omega) (by rw [h3,Cs,h5]);rcases OJ.1 a with a | a
 ·rw [Qo a];rfl
 exact h4.1 c a
def Jb (l:List Nat)(j:Nat)(s:Str):Prop:=(j=0/\s=[])∨(0<j/\uj s/\bS s=bq (l.drop (l.length-j))/\0<bS s)
theorem BS (b:wR l)(d:j<l.length)(h:Jb l j s):Jb l (j+1) (s++if j=0 then bj (g9 l (l.length-1-j)) else lG 9 (g9 l (l.length-1-j))):=by
 have a:l[l.length-1-j]?=some (g9 l (l.length-1-j)):=vN om_;refine .inr ⟨by omega, ?_⟩;rw [show l.length-(j+1)=l.length-1-j by omega];rcases h with ⟨rfl,rfl⟩ | ⟨h0,h1,h2,h3⟩
 ·rw [aI rfl,P7];obtain ⟨h4,h5⟩:=bA (g9 l (l.length-1-0));have c:bq (l.drop (l.length-1-0))=g9 l (l.length-1-0):=by
   rw [OW om_,show l.length-1-0+1=l.length by omega,Py];rw [ak om_] at a;rw [PS a];show _+B9*0=_;omega
  refine ⟨h4,by rw [h5,c], ?_⟩;rw [h5];rcases PM (g9 l (l.length-1-0)) with h | h
  ·rw [h] at a;exact absurd (by rw [Qx];exact a) b.2
  exact h
 rw [aA om_];rw [show l.length-j=l.length-1-j+1 by omega] at h2;exact B8 b.1 a h1 h2 h3
theorem ju (C:Mem)(W:Tabs C)(m:Bool)(v:Value)(n:Nat)(X:NineC C v n)(Y:n<B9 ^ 100000):Gives cx.P 216 [.agg ⟨[.bool m,v]⟩] C (ai (txt (sgZ m n))):=by
 obtain ⟨ls,K,L,ak,hs⟩:=X.get Y;obtain ⟨A,c,rfl,_⟩:=id hs;simp only [al] at hs ⊢;refine Tp kr_ func216 Z 34 Z Z fun w0=>R8 fun R a=>So U6 fun M=>C4 1 [1] a Z<|G.freeze 0 Z fun _ _ o=>R4 1 Z fun R a=>R5 (PtrTo.block (Mem.get o mup) _) U8<|C4 2 [1,10] a Z<|R6 (fun y=>?_) fun y=>?_
 ·have N:ls=[]:=by
   have:(ls.length:Int)=0:=by simpa using y
   exact O6 om_
  refine C6 1 [2] Z<|Sh (Tc (Jv Z Z) ?_ IC);subst N;refine ⟨?_,Z⟩;rw [<- L,(yO (sgZ m (bq []))).2 (by cases m <;> rfl)];rfl
 have N:0<ls.length:=by
  have:¬ (ls.length:Int)=0:=by simpa using y
  omega
 obtain ⟨d,g⟩:∃ d:Str,(if m then [45] else [])=d:=⟨_,rfl⟩;have an:d.length<=1:=by rw [<- g];split <;> simp
 refine R8 fun R a=>Sq U5 fun b=>Sa [1,3] a Z<|G.nilArr 5 1<|G.perm (L':=[.obj b (.cells ⟨[.pointer none,.slice none 0 0]⟩ 354 (0,0)),.arr (.slice none 0 0) 5 1 0 []]) (List.Perm.swap _ _ _)<|R4 1 Z fun R a=>R5 (PtrTo.block (Mem.get o mup) _) U8<|Sa [1,3,12] a Z<|G.cut (fun fr C' e z=>∃ (q:Option Addr)(w:Value),(q=none∨q=some ⟨b,0,none⟩)/\fr=[(1,[],.pointer (some ⟨M,0,none⟩)),(3,[],.pointer (some ⟨b,0,none⟩))]/\e=[.obj b (.cells ⟨[.pointer q,w]⟩ 354 (0,0)),.arr w 5 1 d.length (u8s d)]) ?_ (fun fr _ ao z _ f=>?_)
 ·refine R6 (fun B=>?_) fun B=>?_
  ·rw [aI B] at g;subst g;refine Sx [(0,3)] Z fun R a=>D.call (uk _ b none (.slice none 0 0) [] 45 (.inl Z) am) Z (.inr dc_) U6 (Ov _) fl_ fun aq _ ar _ aa=>Sa [1,3] a Z ?_;obtain ⟨E,rfl⟩:=aa;refine Si 0 mup (hn_ [1,3] Z) ⟨some ⟨b,0,none⟩,E,.inr Z,Z,Z⟩
  rw [aA (by rw [B];decide)] at g;subst g;refine Si 0 mup (hn_ [1,3] Z) ⟨none,.slice none 0 0,.inl Z,Z,Z⟩
 obtain ⟨q ,w,hq,rfl,rfl⟩:=f;refine R4 1 Z fun R a=>R5 (PtrTo.block (Mem.get o mup) _) U8<|SI (AR _ A ls.length c) U7 fun au _ _ ab=>Sa [1,3,16] a Z ?_;obtain ⟨bb,rfl,ac⟩:=ab;refine Sp (L':=[.obj b (.cells ⟨[.pointer q,w]⟩ 354 (0,0)),.arr w 5 1 (d++[]).length (u8s (d++[]))]) (by rw [OX])<|G.rangeFunc Z Z Z kr_ (rS _ bb _ _ ls ac hs.m_ om_) (fun j e=>∃ (q:Option Addr)(w:Value)(s:Str),((q=none∨q=some ⟨b,0,none⟩)/\Jb ls j s/\s.length<=9*j)/\e=[.obj b (.cells ⟨[.pointer q,w]⟩ 354 (0,0)),.arr w 5 1 (d++s).length (u8s (d++s))]) ⟨q,w,[],⟨hq,.inl ⟨Z,Z⟩,by simp⟩,Z⟩ Z (fun _ _=>rfl) (fun u v=>[(1,[],.pointer (some ⟨M,0,none⟩)),(3,[],.pointer (some ⟨b,0,none⟩)),(4,[],u),(5,[],v)]) (fun l u v W1 e=>?_) (fun l j u v e W1 f F=>?_) (fun bD e f=>?_)
 ·exact C6 1 [1,3,4,18] Z<|C6 1 [1,3,4,5] Z<|Ug ⟨Z,Z,Z,Z,trivial⟩
 ·obtain ⟨q,w,s,⟨H,p,O⟩,rfl⟩:=f;have Q:j<ls.length:=by have:=(aF.1 F).1;rwa [fu] at this
  rw [tU Q] at F;cases F
  have S:=BS K Q p;obtain ⟨x,I⟩:∃ x,g9 ls (ls.length-1-j)=x:=⟨_,rfl⟩;have i:x<B9:=by rw [<- I];exact kc K.1 _
  rw [show ls.getD (ls.length-1-j) 0=x from I];rw [I] at S;have av:(bj x).length<=9:=ek (by rw [B9v] at i;omega) om_;have ad:=KY (x:=x) (by rw [B9v] at i;exact i);have aw:(lG 9 x).length=9:=(jY 9 x (by rw [B9v] at i;omega)).1;refine R4 1 Z fun R a=>Sk (Cc _ W.m_ x (by rw [B9v] at i;omega)) U7 fl_<|C4 1 [1,3,4,6] a Z<|R4 2 Z fun R a=>R5 (PtrTo.block (Mem.get o mup) _) U8<|R7 U6<|Se _ U7<|C4 1 [3,6,26] a Z<|G.cut (fun fr C' e z=>∃ (k:Option Addr)(r:Value)(t:Str),((k=none∨k=some ⟨b,0,none⟩)/\t++bj x=d++(s++if j=0 then bj x else lG 9 x)/\t.length<=9*j+10)/\fr=[(3,[],.pointer (some ⟨b,0,none⟩)),(6,[],ai (bj x))]/\e=[.obj b (.cells ⟨[.pointer k,r]⟩ 354 (0,0)),.arr r 5 1 t.length (u8s t)]) ?_ (fun fr _ ax z _ f=>?_)
  ·refine R6 (fun J=>?_) fun J=>?_
   ·have T:0<j:=by
     have:((ls.length-1-j:Nat):Int)<(ls.length:Int)-1:=by simpa using J
     omega
    refine Sx [(3,3)] Z fun R a=>R9 2 Z<|S2 (bj x).length 9 U9 (fun _=>⟨.inr ⟨_,Z⟩,.inl ⟨Z,Z⟩,.inl ⟨Z,Z⟩,by omega,Oo _,Oo _⟩) U2 ?_;rw [show ((([48,48,48,48,48,48,48,48,48]:Str).take 9).drop (bj x).length)=List.replicate (9-(bj x).length) 48 from by rw [show (([48,48,48,48,48,48,48,48,48]:Str).take 9)=List.replicate 9 48 from rfl,List.drop_replicate]];refine D.call (jI _ b q w (d++s) (List.replicate (9-(bj x).length) 48) H ap) Z (.inr dc_) U6 (Ov _) fl_ fun ay _ az _ ae=>Sa [3,6] a Z ?_;obtain ⟨E,rfl⟩:=ae;refine Si 0 mup (hn_ [3,6] Z) ⟨some ⟨b,0,none⟩,E,_,⟨.inr Z,by rw [aA om_,ad];simp [],by simp;omega⟩,Z,Z⟩
   have T:j=0:=by
    have:¬ ((ls.length-1-j:Nat):Int)<(ls.length:Int)-1:=by simpa using J
    omega
   refine Si 0 mup (hn_ [3,6] Z) ⟨q,w,d++s,⟨H,by rw [aI T,OU],by simp;omega⟩,Z,Z⟩
  obtain ⟨k ,r ,t,⟨af,ag,aB⟩,rfl,rfl⟩:=f;refine Sx [(1,3)] Z fun R a=>R7 U6<|D.call (jI _ b k r t (bj x) af om_) Z (.inr dc_) U6 (Ov _) fl_ fun aC _ aD _ ah=>Ta [] trivial (a _ _ _ Z ?_);obtain ⟨w4,rfl⟩:=ah;rw [ag];exact TL (R:=fun e=>∃ (q:Option Addr)(w:Value)(s:Str),((q=none∨q=some ⟨b,0,none⟩)/\Jb ls (j+1) s/\s.length<=9*(j+1))/\e=[.obj b (.cells ⟨[.pointer q,w]⟩ 354 (0,0)),.arr w 5 1 (d++s).length (u8s (d++s))]) (Ov _) ⟨some ⟨b,0,none⟩,w4,_,⟨.inr Z,S,by rw [Oy];split <;> omega⟩,Z⟩
 obtain ⟨q,w,s,⟨H,p,O⟩,rfl⟩:=f;rw [fu] at p;obtain ⟨aE,U,V,aG⟩:0<ls.length/\uj s/\bS s=bq (ls.drop (ls.length-ls.length))/\0<bS s:=p.elim (fun h=>by omega) id;rw [QK,Pz,L] at V;refine G.perm (L':=[.obj b (.cells ⟨[.pointer q,w]⟩ 354 (0,0)),.arr w 5 1 (d++s).length (u8s (d++s)),.obj bD (.deferred (some []))]) (pkL [1,1,0] Z)<|Sx [(0,3)] Z fun R a=>D.call (CF _ b q w (d++s) (fun h=>U.2.1 (Rv.1 h).2) (by simp;rw [fu] at O;omega)) Z (.inr dc_) U6 (Ov _) fl_ fun aH _ aJ _ aj=>C4 1 [2] a Z ?_;obtain ⟨rfl,rfl⟩:=aj;refine Sh (Uf (Jv Z Z) ?_);refine ⟨?_,Z⟩;have es:s=bj n:=by rw [<- V];exact nv U
 rw [yP m n (fun _=>by omega),es,<- g];cases m <;> rfl
theorem rH (a:0<Q):(x+B9*t) / Q=B9*(t / Q)+(x+B9*(t % Q)) / Q/\(x+B9*t) % Q=(x+B9*(t % Q)) % Q:=by
 have h:x+B9*t=(x+B9*(t % Q))+Q*(B9*(t / Q)):=by
  have h1:=Rj t Q;have h2:B9*t=B9*(t % Q)+B9*(Q*(t / Q)):=by rw [<- PC,h1]
  rw [h2,RX];omega
 rw [h,Q8 _ _ a,Nat.add_mul_mod_self_left];exact ⟨by omega,Z⟩
theorem lj (a:0<Q)(b:x<B9):(x+B9*(t % Q)) / Q<B9:=by
 rw [Qm a];have h1:=Pd t a;have h2:B9*(t % Q+1)<=B9*Q:=PO _ h1;rw [PC] at h2;omega
theorem eU (h:j<l.length):bq (l.drop j)=g9 l j+B9*bq (l.drop (j+1)):=by
 rw [OW h,bq,xE (ak h)]
theorem kD (h:j<l.length):bq ((l.set j x).drop j)=x+B9*bq (l.drop (j+1)):=by
 rw [OW (by simpa using h),bq,List.getElem_set_self,List.drop_set_of_lt om_]
theorem rG (C:Mem)(Y M:Value)(m d:Nat)(ha:NineC C Y m)(hm:m<B9 ^ 200000)(F:Sl C 1 M ([d].map bZ))(H:0<d)(hd:d<B9) :
  Pur cx.P 248 [Y,M] C fun u D=>∃ q r,u=.tuple #[q,r]/\NineC D q (m / d)/\NineC D r (m % d):=by
 have aa:NineC C M d:=⟨[d],⟨fun x o=>(by rw [OP.1 o];exact hd),by simp;omega⟩,by show d+B9*0=d;omega,F⟩;have N:=ha;obtain ⟨a,ao,ab,aG,O⟩:=ha.get hm;obtain ⟨A0,c0,rfl,_⟩:=id O;obtain ⟨B0,d0,rfl,aH⟩:=id F;simp only [al,aV] at F aa O N ⊢;have p:=B9v;refine Tp kr_ func248 Z 146 Z Z fun w0=>R8 fun R b=>So U6 fun b3=>Sq U5 fun g=>C4 1 [0,3,4,5] b Z<|G.freeze 1 Z fun _ _ K=>R4 1 Z fun R b=>R5 (PtrTo.block (Mem.get K mup) _) U8<|Sg (oD _ N.m_ aa.m_) U7<|C4 1 [0,3,4,5,17] b Z<|R6 (fun Q=>?_) fun Q=>?_
 ·have S:m<d:=by
   have:ji m d<0:=by simpa using Q
   exact iH.1 this
  refine R4 1 Z fun R b=>Sf (j:=0) U12<|C4 1 [4,5] b Z<|Sh (Tc (zk af Z Z Z Z Z) ?_ IC);refine ⟨Z,_,_,Z, ?_, ?_⟩
  ·rw [QG S];exact NineC.zero _
  rw [QU S];exact N.mono mup
 have S:d<=m:=by
  have h:¬ ji m d<0:=by simpa using Q
  rw [iH] at h;omega
 obtain ⟨n,hn⟩:∃ n,a.length=n:=⟨_,rfl⟩;refine R8 fun R b=>R5 (PtrTo.block (Mem.get K mup) _) U8<|C4 2 [0,3,4,5,21] b Z<|R6 (fun ad=>?_) fun ad=>?_
 ·refine R4 2 Z fun R b=>S3 U9 (Oo _) (by show 8*a.length<=281474976710656;omega) (by simp only [maxLen];omega) fl_ fun f=>Sf (j:=1) U12<|Sa [0,3,4] b Z<|R8 fun R b=>Sq U5 fun k=>Sf (j:=0) U12<|Sa [0,3,4,6] b Z<|R4 1 Z fun R b=>SI (AR _ A0 a.length c0) U7 fun aI _ _ ap=>Sa [3,4,6,26] b Z ?_;obtain ⟨bb,rfl,aq⟩:=ap;refine Sp (L':=[.obj k (.cells ⟨[.int .u64 ((bq (a.drop (a.length-0)) % d:Nat):Int)]⟩ 160 (0,0)),.obj g (.cells ⟨[qU f a.length a.length]⟩ 305 (0,0)),.arr (qU f a.length a.length) 160 1 a.length ((List.replicate a.length 0).map bZ).flatten]) (by rw [<- Dg,Q4,Py,show bq []=0 from Z,Nat.zero_mod];rfl)<|G.rangeFunc Z Z Z kr_ (rS _ bb _ _ a aq O.m_ om_) (fun j e=>∃ (c:List Nat),(c.length=a.length/\Dig9 c/\bq (c.drop (a.length-j))=bq (a.drop (a.length-j)) / d)/\e=[.obj k (.cells ⟨[.int .u64 ((bq (a.drop (a.length-j)) % d:Nat):Int)]⟩ 160 (0,0)),.obj g (.cells ⟨[qU f a.length a.length]⟩ 305 (0,0)),.arr (qU f a.length a.length) 160 1 a.length (c.map bZ).flatten]) ⟨List.replicate a.length 0,⟨P1,(fun x o=>by rw [Qo o];decide),by rw [Q4,Py,Q1 am];simp [bq]⟩,Z⟩ Z (fun _ _=>rfl) (fun u v=>[(3,[],.pointer (some ⟨b3,0,none⟩)),(4,[],.pointer (some ⟨g,0,none⟩)),(6,[],.pointer (some ⟨k,0,none⟩)),(7,[],u),(8,[],v)]) (fun l u v W1 e=>?_) (fun l j u v e W1 s U=>?_) (fun bD e s=>?_)
  ·exact C6 1 [3,4,6,7,28] Z<|C6 1 [3,4,6,7,8] Z<|Ug ⟨Z,Z,Z,Z,Z,trivial⟩
  ·obtain ⟨c,⟨I,L,B⟩,rfl⟩:=s;have ar:j<a.length:=by have:=(aF.1 U).1;rwa [fu] at this
   rw [tU ar] at U;cases U
   obtain ⟨i,hi⟩:∃ i,a.length-1-j=i:=⟨_,rfl⟩;have ag:a.length-j=i+1:=by omega
   obtain ⟨T,hT⟩:∃ T,bq (a.drop (i+1))=T:=⟨_,rfl⟩;have au:=kc ao.1 i;have aJ:=Pd T H;have hX:T % d*B9+g9 a i<18446744073709551616:=by
    have:=Po B9 (show T % d<=999999999 by omega);rw [p] at this ⊢;omega
   rw [hi,ag,hT,show a.getD i 0=g9 a i from rfl];rw [ag,hT] at B;have av:T % d*B9+g9 a i=g9 a i+B9*(T % d):=by rw [Pe,QJ]
   have V:=rH (t:=T) (x:=g9 a i) H;have ai:=lj (t:=T) H au;rw [<- av] at V ai;refine R8 fun R b=>Sd af U9<|D.int (((T % d*B9:Nat):Int)) U4 (by rw [show (1000000000:Int)=((B9:Nat):Int) from Z,<- Pj,IntKind.wrap_u64];omega) U2<|R7 U6<|D.int (((T % d*B9+g9 a i:Nat):Int)) U4 (by rw [IntKind.wrap_u64];omega) U2<|Sf (j:=0) U12<|Sa [3,4,6,7] b Z<|G.cut (fun fr C' e W=>(True)/\fr=[]/\e=[.obj k (.cells ⟨[.int .u64 (((T % d*B9+g9 a i) % d:Nat):Int)]⟩ 160 (0,0)),.arr (qU f a.length a.length) 160 1 a.length (aD (c.map bZ).flatten [Value.int .u64 (((T % d*B9+g9 a i) / d:Nat):Int)] (i*1)),.obj g (.cells ⟨[qU f a.length a.length]⟩ 305 (0,0))]) ?_ (fun fr aK aL W aM s=>?_)
   ·refine SR (.cut [0,1,2,3,4,5,6,8,9,10,12] (.alt 7 (.fin [11,13,14]) (.alt 13 (.fin [7,11,14]) .stop))) [] Z Z kr_ fun R p b w=>Sd ae U9<|R7 U6<|Sd af U9<|R5 (PtrTo.block (Mem.get K mup) _) U8<|Sm F.m_ U10 om_ (rfl:([d].map bZ)[(0:Int).toNat]?=some (bZ d)) fl_ fun aN aw=>R5 aw U8<|S9 (T % d*B9+g9 a i) (d) U6 om_ (.inr ⟨Z,by omega⟩) U2<|R5 (PtrTo.block (Mem.get K mup) _) U8<|Sm F.m_ U10 om_ (rfl:([d].map bZ)[(0:Int).toNat]?=some (bZ d)) fl_ fun aO ax=>R5 ax U8<|SC (i*1) U10 ah U2<|SE w Z ⟨?_, ?_,trivial⟩
    ·first | refine To af U9 ?_ | refine To ae U9 ?_
     refine SZ (T % d*B9+g9 a i) (d) U6 om_ U2<|SG (j:=2) U11 (by show i*1+1<=_;rw [bQ eg,I];omega)<|Sf (j:=1) U12<|Ta [] trivial (b _ _ _ Z ?_);clear b p w R;exact Si 0 (Mem.le.refl _) (fr':=[]) trivial ⟨trivial,Z,Z⟩
    refine SG (j:=2) U11 (by show i*1+1<=_;rw [bQ eg,I];omega) ?_
    first | refine To af U9 ?_ | refine To ae U9 ?_
    refine SZ (T % d*B9+g9 a i) (d) U6 om_ U2<|Sf (j:=1) U12<|Ta [] trivial (b _ _ _ Z ?_);clear b p w R;exact Si 0 (Mem.le.refl _) (fr':=[]) trivial ⟨trivial,Z,Z⟩
   obtain ⟨_,rfl,rfl⟩:=s;refine G.perm (L':=[.obj k (.cells ⟨[.int .u64 (((T % d*B9+g9 a i) % d:Nat):Int)]⟩ 160 (0,0)),.obj g (.cells ⟨[qU f a.length a.length]⟩ 305 (0,0)),.arr (qU f a.length a.length) 160 1 a.length (aD (c.map bZ).flatten [Value.int .u64 (((T % d*B9+g9 a i) / d:Nat):Int)] (i*1))]) (pkL [0,1,0] Z) ?_;have aj:bq (a.drop i)=g9 a i+B9*T:=by rw [eU om_,hT]
   have ay:bq (a.drop (a.length-(j+1))) % d=(T % d*B9+g9 a i) % d:=by rw [show a.length-(j+1)=i by omega,aj,V.2]
   exact Sp (L':=[.obj k (.cells ⟨[.int .u64 ((bq (a.drop (a.length-(j+1))) % d:Nat):Int)]⟩ 160 (0,0)),.obj g (.cells ⟨[qU f a.length a.length]⟩ 305 (0,0)),.arr (qU f a.length a.length) 160 1 a.length ((c.set i ((T % d*B9+g9 a i) / d)).map bZ).flatten]) (by rw [ay,<- bJ eg _ (by omega:i<c.length)];rfl)<|TL (R:=fun e=>∃ (c:List Nat),(c.length=a.length/\Dig9 c/\bq (c.drop (a.length-(j+1)))=bq (a.drop (a.length-(j+1))) / d)/\e=[.obj k (.cells ⟨[.int .u64 ((bq (a.drop (a.length-(j+1))) % d:Nat):Int)]⟩ 160 (0,0)),.obj g (.cells ⟨[qU f a.length a.length]⟩ 305 (0,0)),.arr (qU f a.length a.length) 160 1 a.length (c.map bZ).flatten]) (Ov _) ⟨c.set i ((T % d*B9+g9 a i) / d),⟨by simp [I],L.set ai,by rw [show a.length-(j+1)=i by omega,aj,kD om_,B,V.1];omega⟩,Z⟩
  obtain ⟨c,⟨I,L,B⟩,rfl⟩:=s;rw [fu,QK,Pz,Pz,ab] at B;rw [fu,QK,Pz,ab];refine G.freezeArr 3 (c.map bZ) rfl rfl (by intro r hr;obtain ⟨y,_,rfl⟩:=OB.1 hr;rfl) (by rw [al,I]) fun Cq aP ak=>G.cut (fun fr C' e W=>∃ (E z:Value),(NineC C' E (m / d)/\NineC C' z (m % d))/\fr=[(4,[],.pointer (some ⟨g,0,none⟩)),(5,[],z)]/\e=[.obj g (.cells ⟨[E]⟩ 305 (0,0)),.obj bD (.deferred (some [])),.obj k (.cells ⟨[.int .u64 ((m % d:Nat):Int)]⟩ 160 (0,0))]) ?_ (fun fr aQ aR W aS s=>?_)
  ·refine SR (.cut [0,2] (.alt 1 (.fin [3,4,5,6]) (.alt 3 (.fin [1,4,5,6]) .stop))) [] Z Z kr_ fun R p b w=>Sd ac U9<|Sd ae U9<|SE w Z ⟨?_, ?_,trivial⟩
   ·refine SI (uB _ L ak.m_) U7 fun E az _ A=>Sr [bZ (m % d)] U12 fun aA aB _ X=>SD (uB _ (l:=[m % d]) (fun x o=>by rw [OP.1 o];have:=Pd m H;omega) X.m_) U7 fl_ (fun z aC _ J=>?_);obtain ⟨A7,m7,c7,rfl⟩:=A.form;refine Sf (j:=2) U12<|R7 U6<|Sa [4,5] b Z ?_;clear b p w R;rw [show bq [m % d]=m % d from (by show m % d+B9*0=m % d;omega)] at J;rw [B] at A;exact Si 0 mup (hn_ [4,5] Z) ⟨_,z,⟨A.mono mup,J.mono mup⟩,Z,Z⟩
   refine Sr [bZ (m % d)] U12 fun aA aB _ X=>SI (uB _ L ak.m_) U7 fun E az _ A=>SD (uB _ (l:=[m % d]) (fun x o=>by rw [OP.1 o];have:=Pd m H;omega) X.m_) U7 fl_ (fun z aC _ J=>?_);obtain ⟨A7,m7,c7,rfl⟩:=A.form;refine Sf (j:=2) U12<|R7 U6<|Sa [4,5] b Z ?_;clear b p w R;rw [show bq [m % d]=m % d from (by show m % d+B9*0=m % d;omega)] at J;rw [B] at A;exact Si 0 mup (hn_ [4,5] Z) ⟨_,z,⟨A.mono mup,J.mono mup⟩,Z,Z⟩
  obtain ⟨E,z,⟨an,aE⟩,rfl,rfl⟩:=s;refine G.perm (L':=[.obj bD (.deferred (some [])),.obj g (.cells ⟨[E]⟩ 305 (0,0)),.obj k (.cells ⟨[.int .u64 ((m % d:Nat):Int)]⟩ 160 (0,0))]) (pkL [1,0,0] Z) ?_;obtain ⟨A7,m7,c7,rfl⟩:=an.form;refine Sh (Uf (zk af Z Z Z Z Z) ?_);exact ⟨Z,_,_,Z,an,aE⟩
 exact absurd ad dc_
theorem uu (h:Dig9 l)(a:k<=l.length):bq l / B9 ^ k=bq (l.drop k):=by
 have e:bq l=bq (l.take k)+B9 ^ k*bq (l.drop k):=by
  conv=>lhs;rw [<- Pq k l]
  rw [eX,OG,PK a]
 have h1:=iz (h.take k);rw [OG,PK a] at h1;rw [e,Q8 _ _ (QI dc_),QG h1,PJ]
theorem tq {b a:List Nat}(f:wR b)(c:wR a)(j:0<a.length)(m:a.length<=b.length):bq b / bq a<=bq (b.drop (a.length-1)) / g9 a (a.length-1)/\0<g9 a (a.length-1):=by
 have d:bq (a.drop (a.length-1))=g9 a (a.length-1):=by
  rw [eU om_,show a.length-1+1=a.length by omega,Py];show _+B9*0=_;omega
 have h1:=uu c.1 (k:=a.length-1) om_;have h2:=uu f.1 (k:=a.length-1) om_;have e:0<g9 a (a.length-1):=by
  rcases PM (g9 a (a.length-1)) with h | h
  ·have h3:=vN (l:=a) (i:=a.length-1) om_;rw [h] at h3;exact absurd (by rw [Qx];exact h3) c.2
  exact h
 refine ⟨?_,e⟩;rw [<- h2,<- d,<- h1,Nat.div_div_eq_div_mul];have g:0<B9 ^ (a.length-1):=QI dc_;rw [d] at h1;refine Nat.div_le_div_left (Nat.mul_div_le _ _) ?_;rw [h1];exact QR g e
theorem zX (h:l.length=k+1):bq (l.drop k)=g9 l k:=by
 rw [eU om_,show k+1=l.length by omega,Py];show _+B9*0=_;omega
theorem Ic (h:l.length=k+2):bq (l.drop k)=g9 l (k+1)*B9+g9 l k:=by
 rw [eU om_,zX (k:=k+1) om_,Pe];omega
theorem yg (c:wR a)(d:wR b)(h:bq b<=bq a):b.length<=a.length:=by
 rcases OZ a.length b.length with h1 | h1
 ·have:=sZ c.1 d h1;omega
 exact h1
theorem wt (c:wR a)(d:wR b)(h:bq a<B9*bq b):a.length<=b.length+1:=by
 have h2:=iz d.1;refine rR c (PD h ?_);rw [PE,Pe];exact Po _ (Nat.le_of_lt h2)
theorem ja {f:Nat}(a:m<B9 ^ k)(b:f<B9):m*f<B9 ^ (k+1):=by
 rw [PE];exact Qf a b
theorem Np {a:Nat}(h:x<B9*a)(b:a<B9 ^ k):x<B9 ^ (k+1):=by
 rw [PE,Pe _ B9];exact Qz h (Nat.mul_lt_mul_of_pos_left b dc_)
theorem I9 (l:List Nat):(l.map bZ).all (fun r=>r.all oF)=true:=by
 rw [List.all_map,OM];intro x _;rfl
theorem Cp (C:Mem)(va vb:Value)(m n:Nat)(ha:NineC C va m)(hb:NineC C vb n)(hm:m<B9 ^ 100000)(aF:B9<=n) :
  Pur cx.P 248 [va,vb] C fun u D=>∃ q r,u=.tuple #[q,r]/\NineC D q (m / n)/\NineC D r (m % n):=by
 have aG:0<n:=PD dc_ aF;have ac:=ha;have ad:=hb;obtain ⟨B,Q,hbv,ag⟩:=hb;obtain ⟨A0,a0,c0,rfl⟩:=ha.form;obtain ⟨B0,d0,rfl,a2,bE,_⟩:=id ag;simp only [al] at ag ad a2 ⊢;have bF:maxLen<=9223372036854775807:=by simp [maxLen]
 have S:=B9v;have bG:2<=B.length:=by
  rcases OZ B.length 2 with h | h
  ·have h2:=iz Q.1;have h3:B9 ^ B.length<=B9 ^ 1:=OO dc_ om_;rw [Nat.pow_one] at h3;omega
  exact h
 refine Tp kr_ func248 Z 146 Z Z (fun w0=>?_);refine R8 fun R a=>?_;refine So U6 (fun b3=>?_);refine Sq U5 (fun e=>?_);refine C4 1 [0,3,4,5] a Z ?_;clear a R;refine R4 1 Z fun R a=>?_
 skip
 refine Sd ae U9 ?_;refine Sg (oD _ ac.m_ ad.m_) U7 ?_;refine C4 1 [0,3,4,5,17] a Z ?_;clear a R;refine R6 (fun ah=>?_) fun ah=>?_
 ·have U:m<n:=by
   have:ji m n<0:=by simpa using ah
   exact iH.1 this
  refine R4 1 Z fun R a=>?_;refine Sf (j:=0) U12 ?_;refine C4 1 [4,5] a Z ?_;clear a R;refine Sh (Tc (zk af Z Z Z Z Z) ?_ IC);refine ⟨Z,_,_,Z, ?_, ?_⟩
  ·rw [QG U];exact NineC.zero _
  rw [QU U];exact ac.mono mup
 have U:n<=m:=by
  have h:¬ ji m n<0:=by simpa using ah
  rw [iH] at h;omega
 refine R8 fun R a=>?_;refine Sd ae U9 ?_;refine C4 2 [0,3,4,5,21] a Z ?_;clear a R;refine R6 (fun aH=>?_) fun aH=>?_
 ·exact absurd aH ap
 have bH:=kc Q.1 (B.length-1);have a3:(B.map bZ)[((B.length:Int)-1).toNat]?=some (bZ (g9 B (B.length-1))):=by
  rw [show ((B.length:Int)-1).toNat=B.length-1 by omega];exact iQ om_
 obtain ⟨f,hf⟩:∃ f,B9 / (g9 B (B.length-1)+1)=f:=⟨_,rfl⟩;refine R8 fun R a=>?_;refine Sd ae U9 ?_;refine Sd ae U9 ?_;refine R7 U6 ?_;refine Se _ U7 ?_;refine Sm ag.m_ U10 om_ a3 fl_ (fun bI a4=>?_);refine R5 a4 U8 ?_;refine D.int (((g9 B (B.length-1)+1:Nat):Int)) U4 (by rw [IntKind.wrap_u64];omega) U2 ?_;refine S9 (B9) (g9 B (B.length-1)+1) U6 om_ (.inr ⟨Z,by omega⟩) U2 ?_;refine C4 1 [0,3,4,5,9] a Z ?_;clear a R;rw [hf];have w:0<f:=by rw [<- hf];exact Nat.div_pos om_ om_
 have o:f<B9:=by
  rw [<- hf];have h1:=(tq Q Q om_ (Oo _)).2;exact Nat.div_lt_self dc_ om_
 have y:n<B9 ^ 100000:=Pk U hm;refine Ss [0,1,3,4,2,5,6,7] [] Z kr_ (fun R S a=>?_);refine R9 2 Z ?_;refine Sd ae U9 ?_;refine R7 U6 ?_;refine SD (xe (k:=100000) _ ac.m_ hm o om_) U7 fl_ (fun bK _ _ a5=>?_);refine SD (xe (k:=100000) _ ad.m_ y o om_) U7 fl_ (fun bL _ a6 aI=>?_);refine R7 U6 ?_;obtain ⟨a7,bM,a8,rfl⟩:=aI.form;refine Sf (j:=1) U12 ?_;refine Sa [0,3,4,5,9] a Z ?_;clear a S R;have aJ:=a5.mono a6;have aK:=aI;refine G.freeze 0 Z (fun C3 aL v=>?_);obtain ⟨P,a9,ai,bN,aj⟩:=(aJ.mono aL).get (ja hm o);obtain ⟨W,p,z,bO,V⟩:=(aK.mono aL).get (ja y o);obtain ⟨PA,pc,rfl,_⟩:=id aj;obtain ⟨bP,bR,ba,_⟩:=id V;cases ba
 simp only [al] at aj V v aJ aK ⊢;have ak:NineC C3 (.slice a7 W.length a8) (n*f):=⟨W,p,z,V⟩;have A:0<n*f:=QR aG w;have an:n*f<B9 ^ 100001:=df (k:=100001) (n:=100000+1) (ja (k:=100000) y o) (Oo _);have bS:2<=W.length:=by
  have h1:B9<=bq W:=by rw [z];exact OQ aF (Qp _ w)
  rcases OZ W.length 2 with h | h
  ·have h2:=iz p.1;have h3:B9 ^ W.length<=B9 ^ 1:=OO dc_ om_;rw [Nat.pow_one] at h3;omega
  exact h
 have bT:1<=P.length:=by
  rcases PM P.length with h | h
  ·have:P=[]:=O6 h;subst this;have h1:m*f=0:=by rw [<- ai];rfl
   have h2:0<m*f:=QR om_ w;omega
  exact h
 have bb:=(tq p p om_ (Oo _)).2;have bU:=kc p.1 (W.length-1);refine R4 2 Z fun R a=>?_;refine S3 U9 (Oo _) (by show 8*P.length<=281474976710656;omega) (by simp only [maxLen];omega) fl_ (fun d=>?_);refine Sf (j:=1) U12 ?_;refine Sa [0,3,4,5,9] a Z ?_;clear a R;refine R8 fun R a=>?_;refine R5 (PtrTo.block (Mem.get v mup) _) U8 ?_;refine R5 (PtrTo.block (Mem.get v mup) _) U8 ?_;refine R7 U6 ?_;refine Se _ U7 ?_;refine Sm V.m_ U10 om_ (by rw [show ((W.length:Int)-1).toNat=W.length-1 by omega];exact iQ om_:(W.map bZ)[((W.length:Int)-1).toNat]?=some (bZ (g9 W (W.length-1)))) fl_ (fun bV bc=>?_);refine R5 bc U8 ?_;refine C4 1 [0,3,4,5,9,10] a Z ?_;clear a R;refine R4 2 Z fun R a=>?_;refine Se _ U7 ?_;refine C4 1 [0,3,4,5,9,10,11] a Z ?_;clear a R;refine Sp (L':=[.obj e (.cells ⟨[qU d P.length P.length]⟩ 305 (0,0)),.arr (qU d P.length P.length) 160 1 P.length ((List.replicate P.length 0).map bZ).flatten]) (by rw [<- Dg];rfl) ?_;refine G.loop (fun fr C' g E=>∃ (i:Nat)(c:List Nat)(v5:Value),(i<=P.length/\c.length=P.length/\Dig9 c/\bq (c.drop i)=bq (P.drop i) / (n*f)/\NineC C' v5 (bq (P.drop i) % (n*f))/\∀ j,j<i->g9 c j=0)/\fr=[(0,[],.slice PA P.length pc),(3,[],.pointer (some ⟨b3,0,none⟩)),(4,[],.pointer (some ⟨e,0,none⟩)),(5,[],v5),(9,[],.int .u64 f),(10,[],.int .u64 (g9 W (W.length-1))),(11,[],.int .i64 ((i:Int)-1))]/\g=[.obj e (.cells ⟨[qU d P.length P.length]⟩ 305 (0,0)),.arr (qU d P.length P.length) 160 1 P.length (c.map bZ).flatten]/\E=i+1) (hn_ [0,3,4,5,9,10,11] Z) ⟨P.length,List.replicate P.length 0,_,⟨Oo _,P1,(fun x hx=>by rw [Qo hx];decide),by rw [Py,Q1 am];simp [bq],by rw [Py,show bq []=0 from Z,Nat.zero_mod];exact NineC.zero _,fun j _=>Ai _ j⟩,Z,Z,Z⟩ (fun fr bW bX m _ F=>?_);obtain ⟨i,c,v5,⟨hi,Y,ao,H,aa,aq⟩,rfl,rfl,rfl⟩:=F;refine C6 2 [0,3,4,5,9,10,11,78] Z ?_;refine R6 (fun ar=>?_) fun ar=>?_
 ·have aM:0<i:=by
   have:(0:Int)<=(i:Int)-1:=by simpa using ar
   omega
  obtain ⟨j,rfl⟩:∃ j,i=j+1:=⟨i-1,by omega⟩;obtain ⟨T,hT⟩:∃ T,bq (P.drop (j+1))=T:=⟨_,rfl⟩;rw [hT] at H aa;have aN:=Pd T A;obtain ⟨I,bd,be,bY,aO⟩:=aa.get (m:=100001) (Qz aN (df (k:=100001) (n:=100000+1) (ja (k:=100000) y o) (Oo _)));obtain ⟨RA,rc,aP,_⟩:=id aO;rw [al] at aP;subst aP;obtain ⟨X,hX⟩:∃ X,g9 P j+B9*(T % (n*f))=X:=⟨_,rfl⟩;have aQ:=kc a9.1 j;have bf:bq (g9 P j::I)=X:=by rw [bq,be,hX]
  have J:=rH (t:=T) (x:=g9 P j) A;have bg:=lj (t:=T) A aQ;rw [hX] at J bg;have ab:bq (P.drop j)=g9 P j+B9*T:=by rw [eU om_,hT]
  refine Sx [(7,3)] Z (fun R a=>?_);refine R9 2 Z ?_;refine Sm aj.m_ U10 om_ (by rw [show ((((j+1:Nat):Int)-1)).toNat=j by omega];exact iQ om_:(P.map bZ)[((((j+1:Nat):Int)-1)).toNat]?=some (bZ (g9 P j))) fl_ (fun b0 bh=>?_);refine R5 bh U8 ?_;refine Te [bZ (g9 P j)] U12 fl_ (fun b1=>?_);refine R7 U6 ?_;refine D.append (j:=0) U11 aO.m_ (I9 I) (by simp only [al,aV,maxLen];omega) (by simp only [al,aV];omega) fl_ (fun b2=>?_);refine D.call (fT _ _ (g9 P j::I) (n:=1+(I.map bZ).length) (by rw [al];simp;omega)) Z (.inr dc_) U6 (Ov _) fl_ (fun bi bj b5 _ bk=>?_);refine C4 1 [0,3,4,5,9,10,11] a Z ?_;clear a R;obtain ⟨rfl,hu⟩:=bk;have K:NineC bj bi X:=⟨De (g9 P j::I),gW (fun x hx=>(OE.1 hx).elim (fun h=>by rw [h];exact aQ) (bd.1 x)),by rw [gV,bf],hu⟩;have aR:X<B9*(n*f):=by
   have h1:B9*(T % (n*f)+1)<=B9*(n*f):=PO _ aN;rw [PC] at h1;omega
  have aS:X<B9 ^ 100002:=df (k:=100002) (n:=100001+1) (Np (k:=100001) aR an) (Oo _);obtain ⟨b,L,au,b6,av⟩:=K.get aS;obtain ⟨XA,xc,aT,_⟩:=id av;rw [al] at aT;subst aT;refine R4 1 Z fun R a=>?_;refine R5 (PtrTo.block (Mem.get v mup) _) U8 ?_;refine Sg (oD _ K.m_ ak.m_) U7 ?_;refine C4 1 [0,3,4,5,9,10,11,92] a Z ?_;clear a R;refine R6 (fun aw=>?_) fun aw=>?_
  ·have aU:X<n*f:=by
    have:ji X (n*f)<0:=by simpa using aw
    exact iH.1 this
   refine R4 1 Z fun R a=>?_;refine Se _ U7 ?_;refine C4 1 [0,3,4,5,9,10,11] a Z ?_;clear a R;rw [show ((j+1:Nat):Int)-1-1=(j:Int)-1 by omega];refine Sj (m':=j+1) om_ mup (hn_ [0,3,4,5,9,10,11] Z) ⟨j,c,_,⟨by omega,Y,ao,by rw [eU (l:=c) om_,aq j om_,H,ab,J.1,QG aU];omega,by rw [ab,J.2,QU aU];exact K.mono mup,fun j' h=>aq j' om_⟩,Z,Z,Z⟩
  have bl:n*f<=X:=by
   have h:¬ ji X (n*f)<0:=by simpa using aw
   rw [iH] at h;omega
  have bm:=yg L p (by rw [au,z];exact bl);have b7:=wt L p (by rw [au,z];exact aR);have ax:=(tq L p om_ bm).1;obtain ⟨s,ay⟩:∃ s,bq (b.drop (W.length-1))=s:=⟨_,rfl⟩;rw [au,z,ay] at ax;have b8:=kc L.1 (b.length-1);have b9:=kc L.1 (b.length-2);refine R4 3 Z fun R a=>?_;refine Se _ U7 ?_;refine Sm av.m_ U10 om_ (by rw [show ((b.length:Int)-1).toNat=b.length-1 by omega];exact iQ om_:(b.map bZ)[((b.length:Int)-1).toNat]?=some (bZ (g9 b (b.length-1)))) fl_ (fun ca bn=>?_);refine R5 bn U8 ?_;refine C4 1 [0,3,4,5,9,10,11,12] a Z ?_;clear a R;refine R4 2 Z fun R a=>?_;refine R5 (PtrTo.block (Mem.get v mup) _) U8 ?_;refine C4 2 [0,3,4,5,9,10,11,12,103] a Z ?_;clear a R;refine G.cut (fun fr C' g E=>(s<1000000000000000000)/\fr=[(0,[],.slice PA P.length pc),(3,[],.pointer (some ⟨b3,0,none⟩)),(4,[],.pointer (some ⟨e,0,none⟩)),(5,[],.slice XA b.length xc),(9,[],.int .u64 f),(10,[],.int .u64 (g9 W (W.length-1))),(11,[],.int .i64 (((j+1:Nat):Int)-1)),(12,[],.int .u64 (s:Nat))]/\g=[.obj e (.cells ⟨[qU d P.length P.length]⟩ 305 (0,0)),.arr (qU d P.length P.length) 160 1 P.length (c.map bZ).flatten]) ?_ (fun fr _ cb E _ F=>?_)
  ·refine R6 (fun az=>?_) fun az=>?_
   ·have bo:b.length=W.length-1+2:=by
     have:(W.length:Int)<(b.length:Int):=by simpa using az
     omega
    have M:=Ic bo;rw [ay,show W.length-1+1=b.length-1 by omega,show W.length-1=b.length-2 by omega] at M;have bp:g9 b (b.length-1)*B9<=999999999*B9:=Po _ om_;rw [show 999999999*B9=999999999000000000 from rfl] at bp;refine R4 1 Z fun R a=>?_;refine D.int (((g9 b (b.length-1)*B9:Nat):Int)) U4 (by rw [show (1000000000:Int)=((B9:Nat):Int) from Z,<- Pj,IntKind.wrap_u64];omega) U2 ?_;refine R9 3 Z ?_;refine Se _ U7 ?_;refine Sm av.m_ U10 om_ (by rw [show ((b.length:Int)-2).toNat=b.length-2 by omega];exact iQ om_:(b.map bZ)[((b.length:Int)-2).toNat]?=some (bZ (g9 b (b.length-2)))) fl_ (fun cc br=>?_);refine R5 br U8 ?_;refine D.int (((s:Nat):Int)) U4 (by rw [M,IntKind.wrap_u64];omega) U2 ?_;refine C4 1 [0,3,4,5,9,10,11,12] a Z ?_;clear a R;refine Si 0 mup (hn_ [0,3,4,5,9,10,11,12] Z) ⟨by omega,Z,Z⟩
   have bs:b.length=W.length-1+1:=by
    have:¬ (W.length:Int)<(b.length:Int):=by simpa using az
    omega
   have M:=zX bs;rw [ay,show W.length-1=b.length-1 by omega] at M;rw [<- M];refine Si 0 mup (hn_ [0,3,4,5,9,10,11,12] Z) ⟨by omega,Z,Z⟩
  obtain ⟨cd,rfl,rfl⟩:=F;obtain ⟨N,aA⟩:∃ N,s / g9 W (W.length-1)=N:=⟨_,rfl⟩;rw [aA] at ax;have ce:N<=s:=by rw [<- aA];exact Pv _ _
  refine R4 2 Z fun R a=>?_;refine S9 (s) (g9 W (W.length-1)) U6 bb (.inr ⟨Z,by omega⟩) U2 ?_;rw [aA];refine D.min (((min N 999999999:Nat):Int)) Z Z Z Z Z Z om_ Z Z ?_;refine C4 1 [0,3,4,5,9,10,11,12] a Z ?_;clear a R;refine R8 fun R a=>?_;refine R5 (PtrTo.block (Mem.get v mup) _) U8 ?_;refine R7 U6 ?_;refine SD (xe (k:=100001) _ ak.m_ an om_ om_) U7 fl_ (fun bt _ _ bu=>?_);refine C4 1 [0,3,4,5,9,10,11,12,13] a Z ?_;clear a R;refine G.loop (fun fr C' g E=>∃ (dd:Nat)(aB:Value),(X / (n*f)<=dd/\dd<B9/\NineC C' aB (n*f*dd))/\fr=[(0,[],.slice PA P.length pc),(3,[],.pointer (some ⟨b3,0,none⟩)),(4,[],.pointer (some ⟨e,0,none⟩)),(5,[],.slice XA b.length xc),(9,[],.int .u64 f),(10,[],.int .u64 (g9 W (W.length-1))),(11,[],.int .i64 (((j+1:Nat):Int)-1)),(12,[],.int .u64 (dd:Nat)),(13,[],aB)]/\g=[.obj e (.cells ⟨[qU d P.length P.length]⟩ 305 (0,0)),.arr (qU d P.length P.length) 160 1 P.length (c.map bZ).flatten]/\E=dd+1) (hn_ [0,3,4,5,9,10,11,12,13] Z) ⟨min N 999999999,bt,⟨by have h:=Nat.le_min.2 ⟨ax,(by omega:X / (n*f)<=999999999)⟩;exact h,by omega,bu.mono mup⟩,Z,Z,Z⟩ (fun fr cf cg m _ F=>?_);obtain ⟨dd,aB,⟨bv,aW,aC⟩,rfl,rfl,rfl⟩:=F;refine R4 2 Z fun R a=>?_;refine Sg (oD _ aC.m_ K.m_) U7 ?_;refine C4 1 [0,3,4,5,9,10,11,12,13,123] a Z ?_;clear a R;refine R6 (fun aE=>?_) fun aE=>?_
  ·have O:X<n*f*dd:=by
    have:0<ji (n*f*dd) X:=by simpa using aE
    exact EC.1 this
   have bw:1<=dd:=by
    rcases PM dd with h | h
    ·rw [h] at O;omega
    exact h
   refine R4 1 Z fun R a=>?_;refine R5 (PtrTo.block (Mem.get v mup) _) U8 ?_;refine SD (sX (k:=100002) _ aC.m_ ak.m_ (df (k:=100002) (n:=100001+1) (ja (k:=100001) an aW) (Oo _)) (Qp _ bw) om_) U7 fl_ (fun bx _ _ aX=>?_);refine C4 1 [0,3,4,5,9,10,11,12,13] a Z ?_;clear a R;refine R4 1 Z fun R a=>?_;refine D.int (((dd-1:Nat):Int)) U4 (by rw [IntKind.wrap_u64];omega) U2 ?_;refine C4 1 [0,3,4,5,9,10,11,12,13] a Z ?_;clear a R;rw [show n*f*dd-n*f=n*f*(dd-1) from by rw [Nat.mul_sub,Qi]] at aX;refine Sj (m':=dd-1+1) om_ mup (hn_ [0,3,4,5,9,10,11,12,13] Z) ⟨dd-1,bx,⟨by have h:=(Qm A).2 (by rw [Pe];exact O);omega,by omega,aX.mono mup⟩,Z,Z,Z⟩
  have O:n*f*dd<=X:=by
   have h:¬ 0<ji (n*f*dd) X:=by simpa using aE
   rw [EC] at h;omega
  have aY:dd=X / (n*f):=Nat.le_antisymm ((Nat.le_div_iff_mul_le A).2 (by rw [Pe];exact O)) bv;have bz:X-n*f*dd=X % (n*f):=by rw [aY];have:=Rj X (n*f);omega
  refine Ss [0,1,2,3,4,5,6,7,8] [] Z kr_ (fun R S a=>?_);refine Sd af U9 ?_;refine R9 4 Z ?_;refine SD (sX (k:=100002) _ K.m_ aC.m_ aS O om_) U7 fl_ (fun bA _ _ aZ=>?_);refine SC (j*1) U10 (fun _=>⟨by omega,by omega,(by rw [show (((j+1:Nat):Int)-1).toNat=j by omega])⟩) U2 ?_;refine SG (j:=1) U11 (by show j*1+1<=_;rw [bQ eg,Y];omega) ?_;refine R7 U6 ?_;refine Sa [0,3,4,5,9,10,11] a Z ?_;clear a S R;refine R4 1 Z fun R a=>?_;refine Se _ U7 ?_;refine C4 1 [0,3,4,5,9,10,11] a Z ?_;clear a R;rw [show ((j+1:Nat):Int)-1-1=(j:Int)-1 by omega];refine G.perm (L':=[.obj e (.cells ⟨[qU d P.length P.length]⟩ 305 (0,0)),.arr (qU d P.length P.length) 160 1 P.length (aD (c.map bZ).flatten (bZ dd) (j*1))]) (List.Perm.swap _ _ _) ?_;refine Sp (L':=[.obj e (.cells ⟨[qU d P.length P.length]⟩ 305 (0,0)),.arr (qU d P.length P.length) 160 1 P.length ((c.set j dd).map bZ).flatten]) (by rw [<- bJ eg _ (by omega:j<c.length)]) ?_;rw [bz] at aZ;refine Sj (m':=j+1) om_ mup (hn_ [0,3,4,5,9,10,11] Z) ⟨j,c.set j dd,bA,⟨by omega,by simp [Y],ao.set aW,by rw [kD om_,H,ab,J.1,aY];omega,by rw [ab,J.2];exact aZ.mono mup,fun j' h=>by rw [oY om_];exact aq j' om_⟩,Z,Z,Z⟩
 have aM:i=0:=by
  have:¬ (0:Int)<=(i:Int)-1:=by simpa using ar
  omega
 subst aM;rw [Pz,Pz,ai,Nat.mul_div_mul_right _ _ w] at H;rw [Pz,ai,Nat.mul_mod_mul_right] at aa;refine R4 2 Z fun R a=>?_;refine Sr [bZ f] U12 (fun ch _ _ bB=>?_);refine SD (rG _ _ _ (m % n*f) f aa.m_ (by
  have h1:=ja (k:=100000) (Qz (Pd m aG) y) o;exact df (k:=200000) (n:=100000+1) h1 dc_) bB.m_ w o) U7 fl_ (fun ci _ _ bC=>?_)
 obtain ⟨q2,r2,rfl,a1,cj⟩:=bC;rw [Nat.mul_div_cancel _ w] at a1;refine C4 4 [4,5] a Z ?_;clear a R;refine G.perm (L':=[.arr (qU d P.length P.length) 160 1 P.length (c.map bZ).flatten,.obj e (.cells ⟨[qU d P.length P.length]⟩ 305 (0,0))]) (List.Perm.swap _ _ _) ?_;refine Sx [(1,3)] Z (fun R a=>?_);refine Sd ae U9 ?_;refine D.call (fT _ _ c Y) Z (.inr dc_) U6 (Ov _) fl_ (fun ck _ cl _ bD=>?_);refine R7 U6 ?_;obtain ⟨rfl,hu⟩:=bD;obtain ⟨Au,cu,rfl,_⟩:=id hu;refine Sf (j:=0) U12 ?_;refine C4 1 [4,5] a Z ?_;clear a R;refine Sh (Tc (zk af Z Z Z Z Z) ?_ IC);exact ⟨Z,_,_,Z,⟨De c,gW ao,by rw [gV,H],hu⟩,a1.mono mup⟩
theorem vU (C:Mem)(a b:Value)(m n:Nat)(g:NineC C a m)(h:NineC C b n)(i:m<B9 ^ 100000)(f:0<n) :
  Pur cx.P 248 [a,b] C fun u D=>∃ q r,u=.tuple #[q,r]/\NineC D q (m / n)/\NineC D r (m % n):=by
 rcases OZ n B9 with c | c
 ·obtain ⟨l,h1,h2,h3,h4⟩:=h.get (m:=1) (by rw [Nat.pow_one];exact c);have j:l≠[]:=fun e=>by rw [e] at h2;rw [<- h2] at f;exact absurd f dc_
  obtain ⟨d,rfl⟩:∃ d,l=[d]:=by
   cases l with
   | nil=>exact absurd rfl j
   | cons d l=>cases l with
    | nil=>exact ⟨d,rfl⟩
    | cons e l=>simp at h3
  have o:d=n:=by rw [<- h2];show d=d+B9*0;omega
  subst o;exact rG C a b m d g (df (k:=200000) (n:=100000) i dc_) h4 f c
 exact Cp C a b m n g h i c
theorem Io (C:Mem)(s:Str)(c:UInt8):Gives cx.P 249 [ai s,ai [c]] C (.bool (cC c s).2):=by
 exact Sc func249 8 U3 fun w0=>C6 1 [0,1] Z<|R4 2 Z fun R a=>Sg (xC _ s c) U7<|C4 1 [4] a Z<|Sb U2<|⟨Z,Z⟩
theorem Dv (C:Mem)(s:Str)(c:UInt8):Gives cx.P 266 [ai s,ai [c]] C (ai (cC c s).1):=by
 refine Sc func266 13 U3 fun w0=>C6 1 [0,1] Z<|R4 2 Z fun R d=>Sg (xC _ s c) U7<|Sa [0,1,7] d Z<|R6 (fun a=>?_) fun a=>?_
 ·have h:s.head?=some c:=O3 fun h=>by unfold cC at a;rw [aA h] at a;cases a
  have e:1<=s.length:=by cases s with
   | nil=>cases h
   | cons b s=>simp
  refine R4 3 Z fun R d=>S2 1 s.length U9 (fun _=>⟨.inr ⟨_,Z⟩,.inl ⟨Z,Z⟩,.inl ⟨Z,Z⟩,by omega,Oo _,Oo _⟩) U2<|C4 1 [4] d Z<|Sb U2 ?_;unfold cC;rw [aI h];refine ⟨?_,Z⟩;rw [OH,List.drop_one];rfl
 have h:¬ s.head?=some c:=fun h=>by unfold cC at a;rw [aI h] at a;cases a
 refine C6 2 [4] Z<|Sb U2 ?_;unfold cC;rw [aA h];exact ⟨Z,Z⟩
theorem yQ (C:Mem)(s:Str)(c:UInt8):Gives cx.P 232 [ai s,ai [c]] C (ai (cC c s).1):=by
 exact Sc func232 8 U3 fun w0=>C6 1 [0,1] Z<|R4 2 Z fun R a=>Sg (Dv _ s c) U7<|C4 1 [4] a Z<|Sb U2<|⟨Z,Z⟩
def eL (z:Int):Int:=if z<0 then -1 else if z=0 then 0 else 1
theorem kV (C:Mem)(z:Int):Gives cx.P 209 [ai (txt z)] C (.int .i64 (eL z)):=by
 refine Sc func209 9 U3 fun w0=>C6 1 [0] Z ?_
 skip
 refine C6 3 [0,3] Z<|R6 (fun h3=>?_) fun h3=>?_
 ·have b:z=0:=by
   have h:=kE z;rw [h] at h3;exact NM h3
  exact C6 1 [2] Z<|Sb U2<|⟨by rw [b];rfl,Z⟩
 have b:z≠0:=by
  have h:=kE z;rw [h] at h3;exact Ox h3
 refine R4 1 Z fun R d=>Sg (Io _ (txt z) 45) U7<|C4 1 [6] d Z<|R6 (fun a=>?_) fun a=>?_
 ·have c:z<0:=by
   rw [di] at a;exact NM a
  exact C6 1 [2] Z<|Sb U2<|⟨by rw [eL,aI c],Z⟩
 have c:¬ z<0:=by
  rw [di] at a;exact Ox a
 exact C6 1 [2] Z<|Sb U2<|⟨by rw [eL,aA c,aA b],Z⟩
theorem rt (C:Mem)(a:Tabs C)(z:Int)(b:-9223372036854775808<=z)(c:z<=9223372036854775807):Gives cx.P 79 [.int .i64 z] C (ai (txt z)):=by
 exact Sc func79 5 U3 fun w0=>C6 1 [0] Z<|R4 1 Z fun R d=>Sg (iO _ a.m_ z b c) U7<|C4 1 [2] d Z<|Sb U2<|⟨Z,Z⟩
theorem lL (z:Int):(txt z).length<=(bj z.natAbs).length+1:=by unfold txt;split <;> simp
theorem tj (C:Mem)(z:Int)(e:(bj z.natAbs).length<=1000000):Gives cx.P 210 [ai (txt z)] C (ai (txt (-z))):=by
 have f:=lL z;refine Sc func210 14 U3 fun w0=>C6 1 [0] Z<|R4 1 Z fun R a=>Sg (kV _ z) U7<|Sa [0,4] a Z<|C6 2 [0,4,5] Z<|R6 (fun h5=>?_) fun h5=>?_
 ·have d:0<z:=by
   have h:eL z=1:=by simpa using h5
   unfold eL at h;split at h
   ·cases h
   split at h
   ·cases h
   omega
  refine R4 1 Z fun R a=>S1 U6 (fun _=>(by simp only [OI,O4];omega)) U2<|C4 1 [2] a Z<|Sb U2<|⟨?_,Z⟩;unfold txt;rw [aA om_,aI om_,Rr];rfl
 have d:¬ 0<z:=fun h=>by
  have h2:eL z=1:=by unfold eL;rw [aA om_,aA om_]
  rw [h2] at h5;cases h5
 refine C6 2 [0,9] Z<|R6 (fun b=>?_) fun b=>?_
 ·have c:z<0:=by
   have h:eL z=-1:=by simpa using b
   unfold eL at h;split at h
   ·assumption
   split at h <;> cases h
  refine R4 1 Z fun R a=>S2 1 (txt z).length U9 (fun _=>⟨.inr ⟨_,Z⟩,.inl ⟨Z,Z⟩,.inl ⟨Z,Z⟩,(by unfold txt;rw [aI c];simp),Oo _,Oo _⟩) U2<|C4 1 [2] a Z<|Sb U2<|⟨?_,Z⟩;rw [OH];unfold txt;rw [aI c,aA om_,Rr];rfl
 have c:¬ z<0:=fun h=>by
  have h2:eL z=-1:=by unfold eL;rw [aI h]
  rw [h2] at b;cases b
 refine C6 2 [2] Z<|Sb U2<|⟨?_,Z⟩;rw [show z=0 by omega];rfl
theorem F5:∀ {s t:Str},(∀ c∈s,eB c=true)->(∀ c∈t,eB c=true)->s.length=t.length->Lib.compareBytes s t=ji (bS s) (bS t)
 | [],[],_,_,_=>rfl
 | [],_::_,_,_,h=>by simp at h
 | _::_,[],_,_,h=>by simp at h
 | c::s,d::t,hs,g,k=>by
  have e:s.length=t.length:=by simpa using k
  have i:∀ x∈s,eB x=true:=fun x f=>hs x (by simp [f]);have j:∀ x∈t,eB x=true:=fun x f=>g x (by simp [f]);have l:=F5 i j e;have h1:=dE i;have h2:=dE j;have m:=hs c am;have n:=g d am;simp only [eB,Oz] at m n;rw [dm,dm,e];rw [e] at h1;simp only [Lib.compareBytes];obtain ⟨p,o⟩:∃ p,10 ^ t.length=p:=⟨_,rfl⟩;rw [o] at h1 h2 ⊢;by_cases a:c<d
  ·rw [aI a];have r:c.toNat<d.toNat:=a;have h3:(c.toNat-48+1)*p<=(d.toNat-48)*p:=Po _ om_;rw [P9] at h3;unfold ji;rw [aI om_]
  rw [aA a];by_cases b:d<c
  ·rw [aI b];have u:d.toNat<c.toNat:=b;have h3:(d.toNat-48+1)*p<=(c.toNat-48)*p:=Po _ om_;rw [P9] at h3;unfold ji;rw [aA om_,aI om_]
  rw [aA b,l];have q:c.toNat=d.toNat:=by
   have h3:¬ c.toNat<d.toNat:=a;have h4:¬ d.toNat<c.toNat:=b;omega
  rw [q];unfold ji;split <;> rename_i h5
  ·rw [aI om_]
  split <;> rename_i v
  ·rw [aA om_,aI om_]
  rw [aA om_,aA om_]
theorem pl {a b:Nat}(h:(bj a).length<(bj b).length):a<b:=by
 obtain ⟨h1,h2⟩:=bA a;obtain ⟨h3,h4⟩:=bA b;have c:=O9.2 h1.2.1;have h5:=dE h1.1;have d:=nu h3 om_;have e:10 ^ (bj a).length<=10 ^ ((bj b).length-1):=OO dc_ om_;omega
theorem LK {a b:Nat}(h:(bj a).length=(bj b).length):Lib.compareBytes (bj a) (bj b)=ji a b:=by
 obtain ⟨h1,h2⟩:=bA a;obtain ⟨h3,h4⟩:=bA b;rw [F5 h1.1 h3.1 h,h2,h4]
def uh (z w:Int):Int:=if z<w then -1 else if w<z then 1 else 0
theorem dT (z:Int):(z<0/\eL z=-1)∨(z=0/\eL z=0)∨(0<z/\eL z=1):=by
 unfold eL;split
 ·exact .inl ⟨by assumption,Z⟩
 split
 ·exact .inr (.inl ⟨by assumption,Z⟩)
 exact .inr (.inr ⟨by omega,Z⟩)
theorem yc (h:eL z=eL w):uh z w=eL z*ji z.natAbs w.natAbs:=by
 have hw:=dT w;rw [<- h] at hw;unfold uh ji;rcases dT z with ⟨h1,h2⟩ | ⟨h1,h2⟩ | ⟨h1,h2⟩ <;> rw [h2] at hw ⊢
 ·have h3:w<0:=by omega
  split <;> split <;> (try split) <;> omega
 ·have h3:w=0:=by omega
  subst h1 h3;simp
 have h3:0<w:=by omega
 split <;> split <;> (try split) <;> omega
theorem Hp (z:Int):IntKind.i64.wrap (-(eL z))=-(eL z):=by
 rcases dT z with ⟨h1,h2⟩ | ⟨h1,h2⟩ | ⟨h1,h2⟩ <;> rw [h2] <;> rfl
theorem DI (C:Mem)(a b:Str):Gives cx.P 233 [ai a,ai b] C (.int .i64 (Lib.compareBytes a b)):=xk Tryz.scmp a b C kr_
theorem oV (C:Mem)(z w:Int)(_m:(bj z.natAbs).length<=1000000)(_n:(bj w.natAbs).length<=1000000):Gives cx.P 161 [ai (txt z),ai (txt w)] C (.int .i64 (uh z w)):=by
 have ez:(cC 45 (txt z)).1=bj z.natAbs:=by rw [di]
 have j:(cC 45 (txt w)).1=bj w.natAbs:=by rw [di]
 refine Sc func161 41 U3 fun w0=>C6 1 [0,1] Z<|R4 1 Z fun R b=>Sg (kV _ z) U7<|R7 U6<|Sg (kV _ w) U7<|C4 2 [0,1,5,6] b Z<|C6 3 [0,1,5,6,15] Z<|R6 (fun c=>?_) fun c=>?_
 ·have k:eL z≠eL w:=by simpa using c
  refine C6 3 [18] Z<|R6 (fun d=>?_) fun d=>?_
  ·have a:eL z<eL w:=by simpa using d
   refine C6 1 [4] Z<|Sb U2<|⟨?_,Z⟩;rw [uh,aI (by unfold eL at a;split at a <;> split at a <;> (try split at a) <;> omega)]
  have a:¬ eL z<eL w:=by simpa using d
  refine C6 1 [4] Z<|Sb U2<|⟨?_,Z⟩;have h:w<z:=by
   have h2:eL w<eL z:=by omega
   unfold eL at h2;split at h2 <;> split at h2 <;> (try split at h2) <;> omega
  rw [uh,aA om_,aI h]
 have f:eL z=eL w:=by simpa using c
 refine R4 1 Z fun R b=>Sg (yQ _ (txt z) 45) U7<|R7 U6<|Sg (yQ _ (txt w) 45) U7 ?_;rw [ez,j];refine C4 2 [5,7,8] b Z<|C6 5 [5,7,8,27] Z<|R6 (fun g=>?_) fun g=>?_
 ·have k:(bj z.natAbs).length≠(bj w.natAbs).length:=fun e=>by
   have h:(((bj z.natAbs).length:Nat):Int)≠(((bj w.natAbs).length:Nat):Int):=by simpa using g
   exact h (by rw [e])
  refine C6 5 [5,32] Z<|R6 (fun i=>?_) fun i=>?_
  ·have a:z.natAbs<w.natAbs:=pl (by
    have h:(((bj z.natAbs).length:Nat):Int)<(((bj w.natAbs).length:Nat):Int):=by simpa using i
    omega)
   refine C6 3 [4] Z<|Sb U2<|⟨?_,Z⟩;rw [Int.zero_sub,Hp,yc f,show ji z.natAbs w.natAbs=-1 from aI a];congr 1;omega
  have a:w.natAbs<z.natAbs:=pl (by
   have h:¬ (((bj z.natAbs).length:Nat):Int)<(((bj w.natAbs).length:Nat):Int):=by simpa using i
   omega)
  refine C6 2 [4] Z<|Sb U2<|⟨?_,Z⟩;rw [yc f,show ji z.natAbs w.natAbs=1 from by unfold ji;rw [aA om_,aI a]];congr 1;omega
 have l:(bj z.natAbs).length=(bj w.natAbs).length:=by
  have h:(((bj z.natAbs).length:Nat):Int)=(((bj w.natAbs).length:Nat):Int):=by simpa using g
  omega
 refine R4 3 Z fun R b=>Sg (DI _ (bj z.natAbs) (bj w.natAbs)) U7 ?_;rw [LK l];refine SH ((uh z w)) U4 (by rw [yc f]) (by unfold uh;split <;> (try split) <;> omega) (by unfold uh;split <;> (try split) <;> omega) U2 ?_
 exact C4 1 [4] b Z<|Sb U2<|⟨Z,Z⟩
def pU (b:Bool):Int:=if b then 0 else 2
theorem vK (C:Mem)(s:Str):Gives cx.P 207 [ai s] C (.int .i64 (pU (cA s))):=by
 obtain ⟨t,neg,p⟩:∃ t b,cC 45 s=(t,b):=⟨_,_,rfl⟩;have g:cA s=(t.all eB && !(t == []) && !(t.head? == some 48 && (neg || decide (1<t.length))) && decide (t.length<=200)):=by unfold cA wo;rw [p]
 refine Sc func207 47 U3 fun w0=>C6 1 [0] Z<|R4 1 Z fun R a=>Sk (by have h:=F0 C s 45;rw [p] at h;exact h) U7 fl_<|C4 5 [3,4] a Z<|R4 6 Z fun R a=>SA U8<|R9 2 Z<|SY (b:=t.headD 0) U8 (fun r=>⟨by omega,(by
  cases t with
  | nil=>exact Bool.noConfusion (show true=false from r.1)
  | cons b t=>rfl)⟩) U2 ?_
 refine R9 7 Z<|SA U8<|Sv U8<|SA U8<|Sa [3,30] a Z<|R6 (fun d=>?_) fun d=>?_
 ·have j:cA s=false:=by
   rw [g];cases t with
   | nil=>simp
   | cons b t =>
    simp at d;rcases d with h | ⟨h,h2⟩
    ·simp;intro _ _;omega
    have e:b=48:=RH.1 (by show b.toNat=48;omega);subst e;have u:(neg || decide (1<((48:UInt8)::t).length))=true:=by
     rcases h2 with h2 | h2
     ·rw [OK ap];simp
     rw [h2];rfl
    rw [u];simp
  exact C6 1 [2] Z<|Sb U2<|⟨by rw [j];rfl,Z⟩
 have v:t.length<=200:=by
  simp at d;omega
 refine C6 3 [3,32,33] Z<|G.loop (fun fr C' w y=>∃ (i:Nat),(i<=t.length/\∀ c∈t.take i,eB c=true)/\fr=[(3,[],ai t),(32,[],.int .i64 t.length),(33,[],.int .i64 i)]/\w=[]/\y=t.length-i) (hn_ [3,32,33] Z) ⟨0,⟨Ow _,by simp⟩,Z,Z,Z⟩ (fun fr E F m _ z=>?_);obtain ⟨i,⟨H,k⟩,rfl,rfl,rfl⟩:=z;refine C6 1 [3,32,33,34] Z<|R6 (fun l=>?_) fun l=>?_
 ·have n:i<t.length:=by simpa using l
  obtain ⟨c,f⟩:∃ c,t[i]?=some c:=⟨t[i],ak n⟩;refine C6 2 [3,5,32,33] Z<|R4 2 Z fun R a=>SY U8 (fun _=>⟨by omega,f⟩) U2<|R9 4 Z<|SY U8 (fun _=>⟨by omega,f⟩) U2<|R7 U6<|SA U8<|Sa [3,32,33,45] a Z<|R6 (fun o=>?_) fun o=>?_
  ·have j:cA s=false:=by
    have h1:t.all eB=false:=by
     rw [Q3];refine ⟨c,Oq f, ?_⟩;simp at o;unfold eB;simp;omega
    rw [g,h1];rfl
   exact C6 1 [2] Z<|Sb U2<|⟨by rw [j];rfl,Z⟩
  have A:eB c=true:=by
   simp at o;unfold eB;simp;omega
  refine R8 fun R a=>Se _ U7<|C4 1 [3,32,33] a Z<|Sj (m':=t.length-(i+1)) om_ mup (hn_ [3,32,33] Z) ⟨i+1,⟨by omega,fun x q=>by
   rw [OS,f] at q;rcases OJ.1 q with h | h
   ·exact k x h
   simp at h;subst h;exact A⟩,rfl,rfl,rfl⟩
 have n:t.length<=i:=by
  have:¬ i<t.length:=by simpa using l
  omega
 rw [Pa n] at k;have B:t.all eB=true:=OM.2 k;have D:cA s=true:=by
  rw [g,B,OK v];cases t with
  | nil=>simp at d
  | cons b t =>
   simp at d;simp;by_cases e:b=48
   ·subst e;have h5:=d.2;simp at h5;exact .inr ⟨h5.2,O6 om_⟩
   exact .inl e
 exact C6 1 [2] Z<|Sb U2<|⟨by rw [D];rfl,Z⟩
end Go.Proofs.YthnpijdjlddpmaaGreatDoor
