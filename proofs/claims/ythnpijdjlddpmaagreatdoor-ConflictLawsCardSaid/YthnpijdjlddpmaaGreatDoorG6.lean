/- Laws that the proofs of this seat share, part 6. -/
import Derived.Test.YthnpijdjlddpmaaGreatDoorG5
import Derived.Test.YthnpijdjlddpmaaGreatDoorShelf
set_option maxHeartbeats 4000000
namespace Go.Proofs.YthnpijdjlddpmaaGreatDoor
open Go.Proofs.Tryz
open Go Go.Jog
set_option maxRecDepth 100000
variable {Q:Nat}{a b:List Nat}{i j k:Nat}{l:List Nat}{m n:Nat}{o p:List Int}{q:List Nat}{s:Str}{t:Nat}{w:Int}{x:Nat}{z:Int}
theorem GJ (C:Mem)(a:Tabs C)(n:Nat)(h:n<=1000000000000000000):Gives cx.P 123 [.int .i64 n] C (ah (bl n)):=by
 have h1:=Lv C a (n:Int) om_ om_
 rwa [JT] at h1
theorem ji (C:Mem)(a:Tabs C)(z:Int)(b:-9223372036854775808<=z)(c:z<=9223372036854775807):Gives cx.P 123 [.int .i64 z] C (ah (txt z)):=by
 have h:=Lv C a z b c
 rwa [JS] at h
theorem Ng (C:Mem)(a:Tabs C)(x:Nat)(b:x<10000):Gives cx.P 123 [.int .i64 (10000+x:Nat)] C (ah (49::mF 4 x)):=by
 have h:=GJ C a (10000+x) om_
 rwa [tenK b] at h
theorem eH (h:n<10 ^ k)(a:0<k):(bl n).length<=k:=by
 apply QM;intro b;have h1:=om (bC n).1 om_;rw [(bC n).2] at h1;have h2:10 ^ k<=10 ^ ((bl n).length-1):=QH dc_ om_;omega
theorem uP (h:DigP l):(bl (bN l)).length<=4*l.length+1:=by
 refine eH ?_ om_;have h1:=mH h;rw [<- Lf] at h1;have h2:10 ^ (4*l.length)<=10 ^ (4*l.length+1):=QH dc_ om_;omega
theorem pV (h:k<l.length):(l.map aO)[k]?=some (aO (gP l k))/\l[k]?=some (gP l k):=by
 have e:l[k]?=some (gP l k):=by
  unfold gP;rw [al,ak h];rfl
 exact ⟨by rw [Ql,e];rfl,e⟩
theorem GW (C:Mem)(f:Tabs C)(v:Value)(l:List Nat)(b:Sl C 1 v (l.map aO))(g:CD l)(N:l.length<=100000):Gives cx.P 291 [v] C (ah (bl (bN l))):=by
 obtain ⟨s,c0,rfl,_⟩:=id b;simp only [aw] at b ⊢;have c:=g.1;refine Uk func291 34 U3 fun w0=>Ua 1 [0] Z<|Ua 3 [0,8] Z<|Ud (fun d=>?_) fun d=>?_
 ·have h0:l=[]:=by
   have:(l.length:Int)=0:=by simpa using d
   exact Q1 om_
  refine Ua 1 [2] Z<|Ui U2<|⟨?_,Z⟩;rw [h0,show bl (bN [])=[48] by rw [bl];rfl];rfl
 have h0:0<l.length:=by
  have:¬ (l.length:Int)=0:=by simpa using d
  omega
 have t:(l.map aO)[((l.length:Int)-1).toNat]?=some (aO (gP l (l.length-1))):=by rw [show ((l.length:Int)-1).toNat=l.length-1 by omega];exact (pV om_).1
 have u:gP l (l.length-1)<10000:=GY c _;have w:bN (l.drop (l.length-1))=gP l (l.length-1):=by
  rw [QS om_,S6 om_];have h1:=(pV (l:=l) (k:=l.length-1) om_).2;rw [(aF.1 h1).2];simp [bN]
 have x:0<gP l (l.length-1):=by
  have h1:=(pV (l:=l) (k:=l.length-1) om_).2;have h2:=g.2;rw [Sv,h1] at h2;rcases RJ (gP l (l.length-1)) with h | h
  ·rw [h] at h2;exact absurd rfl h2
  exact h
 refine Ub 3 Z fun R a=>Ul _ U7<|Us b.m_ U10 om_ t fl_ fun O y=>Uc y U8<|Ur (GJ _ f.m_ (gP l (l.length-1)) om_) U7 fl_<|C4 1 [0,3] a Z<|Ub 2 Z fun R a=>Ul _ U7<|C4 1 [0,3,4] a Z ?_;rw [show (l.length:Int)-2=((l.length-1:Nat):Int)-1 by omega];refine G.loop (fun fr C' z A=>∃ (k:Nat)(o:Str),(k<l.length/\vB o/\bU o=bN (l.drop k)/\0<bU o/\o.length<=25+4*(l.length-k))/\fr=[(0,[],.slice s l.length c0),(3,[],ah o),(4,[],.int .i64 ((k:Int)-1))]/\z=[]/\A=k+1) (hn_ [0,3,4] Z) ⟨l.length-1,bl (gP l (l.length-1)),⟨by omega,(bC _).1,by rw [(bC _).2,w],by rw [(bC _).2];exact x,by
  have h2:=eH (k:=4) (n:=gP l (l.length-1)) u om_;omega⟩,rfl,rfl,rfl⟩ (fun fr Q S m _ B=>?_)
 obtain ⟨k,o,⟨T,i,p,D,U⟩,rfl,rfl,rfl⟩:=B;refine Ua 2 [0,3,4,20] Z<|Ud (fun e=>?_) fun e=>?_
 ·have q:0<k:=by
   have:(0:Int)<=(k:Int)-1:=by simpa using e
   omega
  obtain ⟨j,rfl⟩:∃ j,k=j+1:=⟨k-1,by omega⟩;rw [show ((j+1:Nat):Int)-1=(j:Int) by omega];obtain ⟨E,F⟩:=pV (l:=l) (k:=j) om_;have r:=GY c j;have H:gP l j<10000:=r;have I:=(kK 4 (gP l j) r).1;refine Ub 2 Z fun R a=>Us b.m_ U10 om_ E fl_ fun V J=>Uc J U8<|UN (((10000+gP l j:Nat):Int)) U4 om_ om_ om_ U2<|Uo (Ng _ f.m_ _ H) U7<|C4 1 [0,3,4,5] a Z<|Ub 2 Z fun R a=>Vb 1 (49::mF 4 (gP l j)).length U9 (fun _=>⟨.inr ⟨_,Z⟩,.inl ⟨Z,Z⟩,.inl ⟨Z,Z⟩,by simp,Qj _,Qj _⟩) U2<|Va U6 (fun _=>(by simp only [Sm,Qz,QC];omega)) U2<|C4 1 [0,3,4] a Z<|Ub 1 Z fun R a=>Ul _ U7<|C4 1 [0,3,4] a Z ?_;rw [Qv,List.drop_one,List.tail_cons];obtain ⟨K,L,M⟩:=GV c F i p D;refine Up (m':=j+1) om_ mup (hn_ [0,3,4] Z) ⟨j,o++mF 4 (gP l j),⟨by omega,K,L,M,by rw [Qp,I];omega⟩,Z,Z,Z⟩
 have q:k=0:=by
  have:¬ (0:Int)<=(k:Int)-1:=by simpa using e
  omega
 subst q;refine Ua 2 [2] Z<|Ui U2<|⟨?_,Z⟩;rw [oo i,p,Ru]
def sgZ (m:Bool)(n:Nat):Int:=if m then -(n:Int) else n
theorem zZ (m:Bool)(n:Nat)(h:m=true->0<n):txt (sgZ m n)=if m then 45::bl n else bl n:=by
 unfold txt sgZ;cases m with
 | false=>simp
 | true=>have:=h rfl;simp;omega
theorem Gn (C:Mem)(e:Tabs C)(m:Bool)(v:Value)(l:List Nat)(i:Sl C 1 v (l.map aO))(j:DigP l)(k:l.length<=100000):Gives cx.P 264 [.bool m,v] C (ah (txt (sgZ m (bN l)))):=by
 have c:=mj j;have f:(xr l).length<=100000:=by unfold xr;rw [Qz];omega
 have g:(xr l).length=0 ↔ bN l=0:=by rw [<- ip,B6 c,Ts]
 refine Uk func264 18 U3 fun w0=>Ua 1 [0,1] Z<|Ub 1 Z fun R a=>UM (BS _ _ l i) U7 (fun n _ _ d=>?_);obtain ⟨o,p,rfl,_⟩:=id d;rw [aw] at d;rw [aw];refine C4 1 [0,1] a Z<|Ub 5 Z fun R a=>UD U8<|Ug [1,12] a Z<|Ud (fun b=>?_) fun b=>?_
 ·have hm:m=true/\0<bN l:=by
   simp at b;refine ⟨b.1, ?_⟩;have h2:=b.2;rcases RJ (bN l) with h | h
   ·have:=g.2 h;omega
   exact h
  refine Ub 1 Z fun R a=>Uo (GW _ e.m_ _ (xr l) d.m_ c f) U7<|Va U6 (fun _=>(by have:=uP c.1;simp only [QC,QW];omega)) U2<|C4 1 [4] a Z<|Ui U2<|⟨?_,Z⟩;rw [zZ m _ (fun _=>hm.2),aH hm.1,ip];rfl
 have hm:m=true->bN l=0:=fun h=>by
  rcases RJ (xr l).length with h0 | h0
  ·exact g.1 h0
  exfalso;have h1:decide ((0:Int)<((xr l).length:Nat))=true:=QD om_;rw [h,h1] at b;cases b
 refine Ub 1 Z fun R a=>Uo (GW _ e.m_ _ (xr l) d.m_ c f) U7<|C4 1 [4] a Z<|Ui U2<|⟨?_,Z⟩;rw [ip];congr 1;cases m with
 | false=>rw [zZ false _ (fun h=>by cases h)];rfl
 | true=>rw [hm rfl];rfl
def gI (p:List Int)(i:Nat):Int:=p.getD i 0
theorem G1 (h:k<p.length):(p.map me)[k]?=some (me (gI p k))/\p[k]?=some (gI p k):=by
 have e:p[k]?=some (gI p k):=by
  unfold gI;rw [al,ak h];rfl
 exact ⟨by rw [Ql,e];rfl,e⟩
theorem sk (h:p.length<=k):gI p k=0:=by
 unfold gI;rw [al,Qr h];rfl
theorem LU (p:List Int)(k:Nat):iM (p.take (k+1))=iM (p.take k)+(10000:Int) ^ k*gI p k:=by
 rcases QQ k p.length with h | h
 ·exact EG (G1 h).2
 rw [sk h,Q0 h,Q0 om_];simp
theorem Fz (o:Int):(o-o % 10000).tdiv 10000=(o-o % 10000) / 10000:=Int.tdiv_eq_ediv_of_dvd (Int.dvd_of_emod_eq_zero om_)
theorem KC (C:Mem)(v:Value)(p:List Int)(g:Sl C 1 v (p.map me))(F:0<=iM p)(H:∀ x∈p, -1000000000000<=x/\x<=1000000000000)(N:p.length<=100000):Pur cx.P 290 [v] C fun u D=>PieC D u (iM p).toNat:=by
 obtain ⟨k,c0,rfl,_⟩:=id g;simp only [aw] at g ⊢;refine Uk func290 43 U3 fun w0=>Ua 1 [0] Z<|Ua 1 [0,3] Z<|Ua 1 [0,3,4] Z<|Ua 1 [0,3,4,5] Z<|G.nilArr 3 1<|G.loop (fun fr C' b c=>∃ (i:Nat)(o:Int)(out:List Nat)(w:Value),(out.length=i/\DigP out/\-1000000000000<=o/\o<=1000000000000/\iM (p.take i)=(bN out:Nat)+(10000:Int) ^ i*o/\(p.length<=i->(i:Int)+o<=1000000100000))/\fr=[(0,[],.slice k p.length c0),(3,[],w),(4,[],.int .i64 o),(5,[],.int .i64 i)]/\b=[.arr w 3 1 i (out.map aO).flatten]/\c=(p.length-i)*4611686018427387904+o.natAbs) (hn_ [0,3,4,5] Z) ⟨0,0,[],_,⟨Z,(fun x I=>(by cases I)),by omega,by omega,by simp [iM,bN],fun h=>by omega⟩,Z,Z,Z⟩ (fun fr O Q m _ d=>?_);obtain ⟨i,o,out,w,⟨e,l,S,T,n,B⟩,rfl,rfl,rfl⟩:=d;have q:p.length<=i->0<=o:=fun h=>by
  refine Jp e l (V:=iM p) F ?_;rw [<- n,Q0 h]
 have U:(i:Int)<=1000000100000:=by
  rcases QQ i p.length with h | h
  ·omega
  have:=q h;have:=B h;omega
 refine Ub 7 Z fun R a=>UF U8<|Ug [0,3,4,5,14] a Z<|Ud (fun r=>?_) fun r=>?_
 ·have s:i<p.length∨o≠0:=by
   simp at r;omega
  have W:-1000000000000<=gI p i/\gI p i<=1000000000000:=by
   rcases QQ i p.length with h | h
   ·exact H _ (Qi (G1 h).2)
   rw [sk h];omega
  refine Ua 4 [0,3,4,5,20] Z<|G.cut (fun fr C' b c=>(True)/\fr=[(0,[],.slice k p.length c0),(3,[],w),(4,[],.int .i64 (o+gI p i)),(5,[],.int .i64 i)]/\b=[.arr w 3 1 i (out.map aO).flatten]) ?_ (fun fr _ X c _ d=>?_)
  ·refine Ud (fun t=>?_) fun t=>?_
   ·have f:i<p.length:=by simpa using t
    refine Ub 3 Z fun R a=>Us g.m_ U10 om_ (G1 f).1 fl_ fun Y J=>Uc J U8<|Ul _ U7<|C4 1 [0,3,4,5] a Z<|Uq 0 (Mem.le.refl _) (hn_ [0,3,4,5] Z) ⟨trivial,Z,Z⟩
   have f:p.length<=i:=by
    have:¬ i<p.length:=by simpa using t
    omega
   rw [show o=o+gI p i by rw [sk f,Int.add_zero]];refine Uq 0 (Mem.le.refl _) (hn_ [0,3,4,5] Z) ⟨trivial,by rw [sk f];simp,Z⟩
  obtain ⟨_,rfl,rfl⟩:=d;refine Ub 1 Z fun R a=>Wz (Int.tmod (o+gI p i) 10000) Z Z Z Z Z Z om_ Z Z Z<|C4 1 [0,3,4,5,6] a Z ?_;have y:=I3 (o+gI p i);have aa:-10000<=Int.tmod (o+gI p i) 10000/\Int.tmod (o+gI p i) 10000<10000:=by
   have:=TG (o+gI p i) (show (10000:Int)≠0 by decide);have:=Int.emod_lt_of_pos (o+gI p i) (show (0:Int)<10000 by decide);split at y <;> omega
  refine Ua 2 [0,3,4,5,6,30] Z<|G.cut (fun fr C' b c=>(True)/\fr=[(0,[],.slice k p.length c0),(3,[],w),(4,[],.int .i64 (o+gI p i)),(5,[],.int .i64 i),(6,[],.int .i64 (((o+gI p i) % 10000).toNat:Nat))]/\b=[.arr w 3 1 i (out.map aO).flatten]) ?_ (fun fr _ ab c _ d=>?_)
  ·refine Ud (fun z=>?_) fun z=>?_
   ·have A:Int.tmod (o+gI p i) 10000<0:=by simpa using z
    rw [aH A] at y;refine Ub 1 Z fun R a=>UN (((((o+gI p i) % 10000).toNat:Nat):Int)) U4 om_ om_ om_ U2<|C4 1 [0,3,4,5,6] a Z<|Uq 0 (Mem.le.refl _) (hn_ [0,3,4,5,6] Z) ⟨trivial,Z,Z⟩
   have A:¬ Int.tmod (o+gI p i) 10000<0:=by simpa using z
   rw [aA A] at y;rw [show Int.tmod (o+gI p i) 10000=((((o+gI p i) % 10000).toNat:Nat):Int) by omega];refine Uq 0 (Mem.le.refl _) (hn_ [0,3,4,5,6] Z) ⟨trivial,Z,Z⟩
  obtain ⟨_,rfl,rfl⟩:=d;refine Ub 2 Z fun R a=>Ux [aO (((o+gI p i) % 10000).toNat)] U12 fun ac _ _ K=>D.append (j:=0) U11 K Z ax (by show (i+1)*8<=_;omega) fl_ fun E=>C4 1 [0,3,4,5,6] a Z<|Ub 2 Z fun R a=>UN ((o+gI p i-(o+gI p i) % 10000)) U4 om_ om_ om_ U2<|Vq ((o+gI p i-(o+gI p i) % 10000) / 10000) U6 om_ (Fz _) (by rw [IntKind.wrap_i64];omega) U2<|C4 1 [0,3,4,5] a Z<|Ub 1 Z fun R a=>Ul _ U7<|C4 1 [0,3,4,5] a Z ?_;have hm:(p.length-(i+1))*4611686018427387904+((o+gI p i-(o+gI p i) % 10000) / 10000).natAbs<(p.length-i)*4611686018427387904+o.natAbs:=by
   rcases QQ i p.length with h2 | h2
   ·omega
   have h3:=q h2;rw [sk h2];omega
  refine Ut (L':=[.arr E 3 1 (i+1) ((out++[((o+gI p i) % 10000).toNat]).map aO).flatten]) (by simp [aO])<|Up (m':=(p.length-(i+1))*4611686018427387904+((o+gI p i-(o+gI p i) % 10000) / 10000).natAbs) om_ mup (hn_ [0,3,4,5] Z) ⟨i+1,(o+gI p i-(o+gI p i) % 10000) / 10000,out++[((o+gI p i) % 10000).toNat],E,⟨by simp [e],l.snoc (by show ((o+gI p i) % 10000).toNat<10000;omega),by omega,by omega,by
   refine HE e ?_;rw [LU,n,Tw];omega,fun h=>by
   rcases QQ i p.length with h2 | h2
   ·omega
   have h3:=q h2;have h4:=B h2;rw [sk h2] at *;omega⟩,rfl,rfl,rfl⟩
 have s:p.length<=i/\o=0:=by
  simp at r;omega
 refine UB [(1,3)] Z fun R a=>Ue U6<|D.call (uQ _ _ out e) Z (.inr dc_) U6 (Qo _) fl_ (fun ad _ ae _ L=>?_);obtain ⟨rfl,M⟩:=L;refine C4 1 [2] a Z<|Ui U2<|⟨Z,xr out,mj l, ?_,M⟩;rw [Q0 s.1,s.2] at n;rw [ip];omega
theorem zT:∀ (l:List Int)(i:Nat)(x:Int),i<l.length->iM (l.set i x)=iM l+(10000:Int) ^ i*(x-gI l i)
 | [],i,x,h=>by simp at h
 | a::l,0,x,_=>by
  show x+10000*iM l=a+10000*iM l+1*(x-a);omega
 | a::l,i+1,x,h=>by
  have b:=zT l i x (by simpa using h);show a+10000*iM (l.set i x)=a+10000*iM l+(10000:Int) ^ (i+1)*(x-gI l i);rw [b,Tw,<- Int.mul_assoc,Int.pow_succ,Int.mul_comm ((10000:Int) ^ i) 10000];omega
theorem EF (l:List Int):iM (l++[0])=iM l:=by rw [vG];omega
structure Joins (p q:List Nat)(k:Int)(i:Nat)(o:List Int):Prop where
 len:o.length=max p.length i
 val:iM o=(bN p:Nat)+k*(bN (q.take i):Nat)
 rest:∀ j,i<=j->gI o j=(gP p j:Nat)
 lim:∀ x∈o, -100000000<=x/\x<=100000000
theorem O8 (p:List Nat)(j:Nat):gI (p.map fun x:Nat=>(x:Int)) j=(gP p j:Nat):=by
 unfold gI gP;rw [al,al,Ql];cases p[j]? <;> rfl
theorem yD (p q:List Nat)(k:Int)(a:DigP p):Joins p q k 0 (p.map fun x:Nat=>(x:Int)):=by
 refine ⟨by simp,by rw [zU];simp [bN],fun j _=>O8 p j,fun x b=>?_⟩;obtain ⟨y,hy,rfl⟩:=Qt.1 b;have:y<10000:=a y hy;omega
theorem Joins.zero {p:List Nat}{k:Int}(h:Joins p q k i o)(c:o.length<=i):iM (o++[0])=(bN p:Nat)+k*(bN (q.take i):Nat)/\(∀ j,i<=j->gI (o++[0]) j=(gP p j:Nat))/\(∀ x∈o++[0], -100000000<=x/\x<=100000000):=by
 refine ⟨by rw [EF,h.val],fun j a=>?_,fun x b=>?_⟩
 ·have h1:=h.rest j a;have h2:gI o j=0:=by unfold gI;rw [al,Qr om_];rfl
  rw [<- h1,h2];unfold gI;rw [al,QV om_];cases j-o.length <;> rfl
 rcases Qy.1 b with h1 | h1
 ·exact h.lim x h1
 simp at h1;subst h1;omega
theorem GZ {x:Int}(h:i≠j):gI (o.set i x) j=gI o j:=by
 unfold gI;rw [al,al,TL h]
theorem Du {p:List Nat}{k:Int}{y:Nat}(d:DigP p)(f:DigP q)(a:-9999<=k/\k<=9999)(b:q[i]?=some y)(g:o.length=max p.length (i+1))
  (h:iM o=(bN p:Nat)+k*(bN (q.take i):Nat)) (c:∀ j,i<=j->gI o j=(gP p j:Nat)) (l:∀ x∈o, -100000000<=x/\x<=100000000) :
  Joins p q k (i+1) (o.set i (gI o i+k*(y:Nat))):=by
 have n:y<10000:=f y (Qi b);have r:gP p i<10000:=GY d i;have s:-99980001<=k*(y:Int)/\k*(y:Int)<=99980001:=by
  have h0:(0:Int)<=y:=by omega
  have h1:k*(y:Int)<=9999*(y:Int):=SA a.2 h0;have h2:(-9999:Int)*(y:Int)<=k*(y:Int):=SA a.1 h0;omega
 refine ⟨by rw [Ra];exact g, ?_,fun j t=>?_,fun x m=>?_⟩
 ·rw [zT o i _ om_,h,iL b];have e:((bN (q.take i)+BP ^ i*y:Nat):Int)=(bN (q.take i):Nat)+(10000:Int) ^ i*(y:Int):=by
   rw [S2,Rc,Int.natCast_pow];rfl
  rw [e,Tw,show gI o i+k*(y:Int)-gI o i=k*(y:Int) by omega,Int.mul_left_comm];omega
 ·rw [GZ om_];exact c j om_
 rcases SS m with h1 | h1
 ·exact l x h1
 subst h1;rw [c i (Qj _)];omega
theorem BF (h:k<p.length):p[k]?=some (gI p k):=by
 unfold gI;rw [al,ak h];rfl
theorem nh (h:CD l)(a:bN l<BP ^ m):l.length<=m:=by
 apply QM;intro b;have h1:=vf h om_;have h2:BP ^ m<=BP ^ (l.length-1):=QH dc_ om_;omega
theorem uK (x:Int):(me x).length=1:=rfl
theorem fx (x:Nat):(aO x).length=1:=rfl
theorem HF (C:Mem)(v:Value)(p:List Int)(a:p.length=n)(b:0<=iM p)(c:∀ x∈p, -1000000000000<=x/\x<=1000000000000)(d:p.length<=100000):Jog.Fn cx.P 290 [v] C [.arr v 3 1 n (p.map me).flatten] fun u C' e=>e=[]/\PieC C' u (iM p).toNat :=
 Jog.Fn.give (p.map me) kr_ (by intro r hr;obtain ⟨y,_,rfl⟩:=Qt.1 hr;rfl) (by rw [aw,a]) (fun C' _ hs=>KC C' v p hs b c d)
theorem wX (C:Mem)(I J:Value)(p q:List Nat)(k:Int)(V:Sl C 1 I (p.map aO))(d:Sl C 1 J (q.map aO))(K:DigP p)(L:DigP q)(f:-9999<=k/\k<=9999)(W:0<=(bN p:Int)+k*(bN q:Int))(ap:p.length<=50000)(aq:q.length<=50000) :
  Pur cx.P 263 [I,J,.int .i64 k,.int .i64 0] C fun u D=>PieC D u ((bN p:Int)+k*(bN q:Int)).toNat:=by
 obtain ⟨M,c0,rfl,_⟩:=id d;simp only [aw] at d ⊢;refine Uk func263 45 U3 fun w0=>Ua 1 [0,1,2,3] Z<|Uf fun R a=>Vo [] U12 fl_ fun ar=>Ue U6<|D.append (j:=0) U11 V (by rw [Qx];intro r hr;obtain ⟨y,_,rfl⟩:=Qt.1 hr;rfl) (by rw [aw];simp only [QW,maxLen];omega) (by rw [aw];show (0+p.length)*8<=_;omega) fl_ fun X=>C4 1 [1,2,3,9] a Z<|Ua 1 [1,2,3,9,10] Z<|Ut (L':=[.arr X 3 1 (p.map fun x:Nat=>(x:Int)).length (((p.map fun x:Nat=>(x:Int)).map me).flatten)]) (by rw [Q6];simp;rfl)<|G.loop (fun fr C' c g=>∃ (i:Nat)(o:List Int)(w:Value),(i<=q.length/\Joins p q k i o)/\fr=[(1,[],.slice M q.length c0),(2,[],.int .i64 k),(3,[],.int .i64 0),(9,[],w),(10,[],.int .i64 i)]/\c=[.arr w 3 1 o.length (o.map me).flatten]/\g=q.length-i) (hn_ [1,2,3,9,10] Z) ⟨0,_,_,⟨Qn _,yD p q k K⟩,Z,Z,Z⟩ (fun fr au av m _ n=>?_);obtain ⟨i,o,w,⟨hi,b⟩,rfl,rfl,rfl⟩:=n;refine Ua 4 [1,2,3,9,10,17] Z<|Ud (fun z=>?_) fun z=>?_
 ·have A:i<q.length:=by simpa using z
  have ay:=b.len;refine G.loop (fun fr C' c g=>∃ (o2:List Int)(B:Value),((o2=o∨(o2=o++[0]/\o.length<=i)))/\fr=[(1,[],.slice M q.length c0),(2,[],.int .i64 k),(3,[],.int .i64 0),(9,[],B),(10,[],.int .i64 i)]/\c=[.arr B 3 1 o2.length (o2.map me).flatten]/\g=i+1-o2.length) (hn_ [1,2,3,9,10] Z) ⟨o,w,.inl Z,Z,Z,Z⟩ (fun fr az aA m _ n=>?_);obtain ⟨o2,B,E,rfl,rfl,rfl⟩:=n;refine WN 0 Z (fun Y N he=>?_);subst he;have aB:o2.length<=50002:=by
   have h1:o2.length<=o.length+1:=by
    have h2:=E.imp (fun e=>congrArg List.length e) (fun e=>congrArg List.length e.1);rw [Qp,PH] at h2;omega
   omega
  refine Ub 4 Z fun R a=>UN (((i:Nat):Int)) U4 om_ om_ om_ U2<|C4 1 [1,2,3,9,10,25] a Z<|Ud (fun F=>?_) fun F=>?_
  ·have O:o2.length<=i:=by
    have:(o2.length:Int)<=i:=by simpa using F
    omega
   have aa:o2=o:=by
    refine E.elim id fun h=>?_;have:=h.1 ▸ O;rw [Qp,PH] at this;omega
   subst aa;refine Ub 1 Z fun R a=>Ux [me 0] U12 fun aC _ _ ab=>D.append (j:=0) U11 ab Z ax (by show (o2.length+1)*8<=_;omega) fl_ fun Q=>C4 1 [1,2,3,9,10] a Z<|Ut (L':=[.arr Q 3 1 (o2++[0]).length ((o2++[0]).map me).flatten]) (by simp [me]) ?_;have aD:i+1-(o2++[0]).length<i+1-o2.length:=by rw [Qp,PH];omega
   refine Up (m':=i+1-(o2++[0]).length) om_ mup (hn_ [1,2,3,9,10] Z) ⟨o2++[0],Q,.inr ⟨Z,O⟩,Z,Z,Z⟩
  have H:i<o2.length:=by
   have:¬ (o2.length:Int)<=i:=by simpa using F
   omega
  have ac:o2.length=max p.length (i+1)/\iM o2=(bN p:Nat)+k*(bN (q.take i):Nat)/\(∀ j,i<=j->gI o2 j=(gP p j:Nat))/\(∀ x∈o2, -100000000<=x/\x<=100000000):=by
   refine E.elim (fun h=>?_) fun h=>?_
   ·subst h;exact ⟨by omega,b.val,b.rest,b.lim⟩
   obtain ⟨h1,h2⟩:=h;subst h1;have h3:=b.zero h2;exact ⟨by rw [Qp,PH];omega,h3⟩
  obtain ⟨ad,ae,ag,S⟩:=ac;obtain ⟨ah,aj⟩:=pV (l:=q) (k:=i) A;have aE:gP q i<10000:=GY L i;have aF:-99980001<=k*((gP q i:Nat):Int)/\k*((gP q i:Nat):Int)<=99980001:=by
   have h0:(0:Int)<=((gP q i:Nat):Int):=by omega
   have h1:k*((gP q i:Nat):Int)<=9999*((gP q i:Nat):Int):=SA f.2 h0;have h2:(-9999:Int)*((gP q i:Nat):Int)<=k*((gP q i:Nat):Int):=SA f.1 h0;omega
  have aG:=S _ (Qi (BF H));refine Wf 0 (m:=o2.length-1) (v:=.slice Y o2.length N) (t:=3) (s:=1) (xs:=(o2.map me).flatten) (by rw [show o2.length-1+1=o2.length by omega];rfl) (fun g0 cc ak=>?_);injection ak with al aH am;subst al am;refine Uy [0,1,2,3,4,5,6,7,8,9,10,11,12,13,14] [] Z kr_ fun R hB a=>Uh 3 Z<|UN (((i:Nat):Int)) U4 om_ om_ om_ U2<|UI (i*1) U10 ai U2<|UX af U6 (fun _=>(by rw [eE uK (BF H)];rfl)) U2<|Uh 3 Z<|Us d.m_ U10 om_ ah fl_ fun aI an=>Uc an U8<|Ul _ U7<|Ul _ U7<|UI (i*1) U10 ai U2<|UK (j:=0) U11 (by show i*1+1<=_;rw [bR uK];omega)<|Ug [1,2,3,9,10] a Z<|Ub 1 Z fun R a=>Ul _ U7<|C4 1 [1,2,3,9,10] a Z<|Ut (L':=[.arr (.slice (some ⟨g0,0,none⟩) o2.length N) 3 1 (o2.set i (gI o2 i+k*((gP q i:Nat):Int))).length ((o2.set i (gI o2 i+k*((gP q i:Nat):Int))).map me).flatten]) (by rw [<- bO uK _ H,Ra];rfl)<|Up (m':=q.length-(i+1)) om_ mup (hn_ [1,2,3,9,10] Z) ⟨i+1,_,_,⟨by omega,Du K L f aj ad ae ag S⟩,Z,Z,Z⟩
 have A:i=q.length:=by
  have:¬ i<q.length:=by simpa using z
  omega
 have T:iM o=(bN p:Int)+k*(bN q:Int):=by rw [b.val,A,Qv]
 refine UB [(1,3)] Z fun R a=>Ue U6<|D.call (HF _ _ o Z (by rw [T];exact W) (fun x hx=>by have:=b.lim x hx;omega) (by have:=b.len;omega)) Z (.inr dc_) U6 (Qo _) fl_ (fun aJ _ aK _ ao=>?_);obtain ⟨rfl,U⟩:=ao;refine C4 1 [8] a Z<|Ui U2 ?_;rw [T] at U;exact ⟨Z,U⟩
theorem N9 (n:Nat):kl ([.int .i64 0]:List Value) n=((List.replicate n 0).map aO).flatten:=by
 rw [eh,Tp];rfl
theorem vF (h:j<l.length):bN (l.drop j)=gP l j+BP*bN (l.drop (j+1)):=by
 rw [QS h,(aF.1 (pV h).2).2];rfl
theorem tE (h:j<l.length):bN ((l.set j x).drop j)=x+BP*bN (l.drop (j+1)):=by
 rw [vF (by rw [Ra];exact h),List.drop_set_of_lt om_];congr 1;unfold gP;rw [al,Tx h];rfl
theorem Kg (h:DigP l)(a:x<BP):DigP (l.set j x):=fun y hy=>by
 rcases SS hy with h1 | h1
 ·exact h y h1
 rw [h1];exact a
theorem Bf (C:Mem)(O Q:Value)(p q:List Nat)(v:Sl C 1 O (p.map aO))(g:Sl C 1 Q (q.map aO))(ah:DigP p)(w:CD q)(i:0<bN q)(aG:p.length<=10000)(aH:q.length<=10000) :
  Pur cx.P 261 [O,Q] C fun u D=>∃ u1 S,u=.tuple #[u1,S]/\PieC D u1 (bN p / bN q)/\PieC D S (bN p % bN q):=by
 obtain ⟨T,c0,rfl,_⟩:=id v;obtain ⟨U,V,rfl,_⟩:=id g;simp only [aw] at v g ⊢;refine Uk func261 58 U3 fun w0=>Ua 2 [0,1] Z<|Ub 2 Z fun R b=>Vd U9 (Qj _) (by show 8*p.length<=281474976710656;omega) (by simp only [maxLen];omega) fl_ fun d=>C4 1 [0,1,6] b Z<|Ua 1 [0,1,6,7] Z<|Ub 2 Z fun R b=>Ul _ U7<|C4 1 [0,1,6,7,8] b Z<|Ut (L':=[.arr (qW d p.length p.length) 3 1 p.length ((List.replicate p.length 0).map aO).flatten]) (by rw [<- N9];rfl)<|G.loop (fun fr C' e z=>∃ (k:Nat)(o l:List Nat)(A:Value),(k<=p.length/\o.length=p.length/\DigP o/\bN (o.drop k)=bN (p.drop k) / bN q/\Sl C' 1 A (l.map aO)/\CD l/\bN l=bN (p.drop k) % bN q)/\fr=[(0,[],.slice T p.length c0),(1,[],.slice U q.length V),(6,[],qW d p.length p.length),(7,[],A),(8,[],.int .i64 ((k:Int)-1))]/\e=[.arr (qW d p.length p.length) 3 1 p.length (o.map aO).flatten]/\z=k+1) (hn_ [0,1,6,7,8] Z) ⟨p.length,List.replicate p.length 0,[],.slice none 0 0,⟨Qj _,RK,(fun x c=>by rw [Sn c];decide),by rw [Rr,S6 am];simp [bN],Sl.nil _ _,⟨fun x c=>(by cases c),by simp⟩,by rw [Rr];simp [bN]⟩,Z,Z,Z⟩ (fun fr aI aJ m _ B=>?_);obtain ⟨k,o,l,A,⟨hk,W,X,Y,hs,E,F⟩,rfl,rfl,rfl⟩:=B;refine Ua 2 [0,1,6,7,8,19] Z<|Ud (fun H=>?_) fun H=>?_
 ·have aa:0<k:=by
   have:(0:Int)<=(k:Int)-1:=by simpa using H
   omega
  obtain ⟨j,rfl⟩:∃ j,k=j+1:=⟨k-1,by omega⟩;rw [show ((j+1:Nat):Int)-1=(j:Int) by omega];obtain ⟨aj,aK⟩:=pV (l:=p) (k:=j) om_;have c:gP p j<BP:=GY ah j;have aL:gP p j<10000:=c;have aM:l.length<=q.length:=nh E (by rw [F];exact Sz (Q2 _ i) (mH w.1));have ak:DigP (gP p j::l):=fun y hy=>by
   rcases Qw.1 hy with h | h
   ·rw [h];exact c
   exact E.1 y h
  refine UB [(7,3)] Z fun R b=>Uh 2 Z<|Us v.m_ U10 om_ aj fl_ fun aN al=>Uc al U8<|Vo [aO (gP p j)] U12 fl_ fun aP=>Ue U6<|D.append (j:=0) U11 hs.m_ (by rw [Qx];intro r hr;obtain ⟨y,_,rfl⟩:=Qt.1 hr;rfl) (by rw [aw];simp only [PH,maxLen];omega) (by rw [aw];show (1+l.length)*8<=_;omega) fl_ fun aQ=>D.call (uQ _ _ (gP p j::l) (n:=1+(l.map aO).length) (by rw [aw];simp;omega)) Z (.inr dc_) U6 (Qo _) fl_ (fun ab an aR _ ao=>?_);obtain ⟨rfl,I⟩:=ao;refine C4 1 [0,1,6,7,8] b Z ?_;obtain ⟨r,ac,J,ad,aS⟩:∃ r,CD r/\bN r=gP p j+BP*(bN (p.drop (j+1)) % bN q)/\Sl an 1 ab (r.map aO)/\r.length<=20000:=⟨xr (gP p j::l),mj ak,by rw [ip];show gP p j+BP*bN l=_;rw [F],I,by unfold xr;rw [Qz,QC];omega⟩;have K:=Hc (t:=bN (p.drop (j+1))) (x:=gP p j) i;rw [<- vF om_,<- J] at K;have ap:bN r / bN q<BP:=by rw [J];exact xm i c
  have aT:bN r / bN q<10000:=ap;refine Ua 2 [0,1,6,7,8,9,10] Z<|G.loop (fun fr C' e z=>∃ (low a:Nat),(low<=bN r / bN q/\bN r / bN q<=a/\a<=9999)/\fr=[(0,[],.slice T p.length c0),(1,[],.slice U q.length V),(6,[],qW d p.length p.length),(7,[],ab),(8,[],.int .i64 j),(9,[],.int .i64 low),(10,[],.int .i64 a)]/\e=[.arr (qW d p.length p.length) 3 1 p.length (o.map aO).flatten]/\z=a-low) (hn_ [0,1,6,7,8,9,10] Z) ⟨0,9999,⟨Qn _,by omega,Qj _⟩,Z,Z,Z⟩ (fun fr aU aV m _ B=>?_);obtain ⟨low,a,⟨aq,ar,au⟩,rfl,rfl,rfl⟩:=B;refine Ua 3 [0,1,6,7,8,9,10,32] Z<|Ud (fun L=>?_) fun L=>?_
  ·have s:low<a:=by simpa using L
   obtain ⟨av,ax⟩:=Nn i aq ar s;refine Ub 2 Z fun R b=>Ul _ U7<|Ul _ U7<|Vq ((((low+a+1) / 2:Nat):Int)) U6 om_ (by rw [SR om_];omega) (by rw [IntKind.wrap_i64];omega) U2<|C4 1 [0,1,6,7,8,9,10,11] b Z<|Ub 3 Z fun R b=>UH (wX _ _ _ [] q ((((low+a+1) / 2:Nat):Int)) (Sl.nil _ _) g.m_ (fun x c=>(by cases c)) w.1 om_ (by rw [<- Rc];omega) am om_) U7 fl_ (fun aW _ _ ay=>?_);obtain ⟨l2,az,aA,aB⟩:=ay;have ae:bN l2=bN q*((low+a+1) / 2):=by
    have h0:((bN ([]:List Nat):Nat):Int)=0:=rfl;rw [aA,h0,Int.zero_add,<- Rc,Sb,Q5]
   refine Uo (Jn _ _ _ r l2 ad.m_ aB.m_ ac az) U7<|Ug [0,1,6,7,8,9,10,11,42] b Z<|Ud (fun M=>?_) fun M=>?_
   ·have N:bN r<bN q*((low+a+1) / 2):=by
     rw [<- ae];simpa using M
    have f:=av N;refine Ub 1 Z fun R b=>Ul _ U7<|C4 1 [0,1,6,7,8,9,10] b Z ?_;rw [show ((((low+a+1) / 2:Nat):Int))-1=(((low+a+1) / 2-1:Nat):Int) by omega];refine Up (m':=(low+a+1) / 2-1-low) om_ mup (hn_ [0,1,6,7,8,9,10] Z) ⟨low,(low+a+1) / 2-1,⟨f.1,f.2,by omega⟩,Z,Z,Z⟩
   have N:¬ bN r<bN q*((low+a+1) / 2):=by
    rw [<- ae];simpa using M
   have f:=ax N;refine Ua 2 [0,1,6,7,8,9,10] Z<|Up (m':=a-(low+a+1) / 2) om_ mup (hn_ [0,1,6,7,8,9,10] Z) ⟨(low+a+1) / 2,a,⟨f.1,f.2,au⟩,Z,Z,Z⟩
  have s:low=bN r / bN q:=by
   have:¬ low<a:=by simpa using L
   omega
  have af:((bN r:Nat):Int) + -(low:Int)*((bN q:Nat):Int)=((bN r % bN q:Nat):Int):=by
   have h1:=Tk (bN r) (bN q);rw [<- s] at h1;have h2:((bN q*low+bN r % bN q:Nat):Int)=(bN r:Nat):=by rw [h1]
   rw [S2,Rc] at h2;rw [Int.neg_mul,Int.mul_comm (low:Int)];omega
  refine Ub 3 Z fun R b=>UI (j*1) U10 ai U2<|UK (j:=0) U11 (by show j*1+1<=_;rw [bR fx];omega)<|Ug [0,1,6,7,8,9] b Z<|Ub 4 Z fun R b=>?_;rw [show IntKind.i64.wrap (0-(low:Int))=-(low:Int) by rw [IntKind.wrap_i64];omega];refine UH (wX _ _ _ r q (-(low:Int)) ad.m_ g.m_ ac.1 w.1 om_ (by rw [af];omega) om_ om_) U7 fl_ (fun aX _ _ aC=>?_);obtain ⟨l3,aD,ag,aE⟩:=aC;rw [af,Sb] at ag;refine C4 1 [0,1,6,7,8] b Z<|Ub 1 Z fun R b=>Ul _ U7<|C4 1 [0,1,6,7,8] b Z<|Ut (L':=[.arr (qW d p.length p.length) 3 1 p.length ((o.set j low).map aO).flatten]) (by rw [<- bO fx _ (by omega:j<o.length)];rfl)<|Up (m':=j+1) om_ mup (hn_ [0,1,6,7,8] Z) ⟨j,o.set j low,l3,_,⟨by omega,by rw [Ra];exact W,Kg X (by show low<BP;omega),by rw [tE om_,Y,K.1,s];omega,aE.mono mup,aD,by rw [ag,K.2,J]⟩,Z,Z,Z⟩
 have aa:k=0:=by
  have:¬ (0:Int)<=(k:Int)-1:=by simpa using H
  omega
 subst aa;refine UB [(1,3)] Z fun R b=>Ue U6<|D.call (uQ _ _ o W) Z (.inr dc_) U6 (Qo _) fl_ (fun aY _ aZ _ aF=>?_);obtain ⟨rfl,I⟩:=aF;refine C4 3 [4,5] b Z<|Un (G.dropAll (UC U3 ?_));exact ⟨Z,_,_,Z,⟨xr o,mj X,by rw [ip,<- Ru (l:=o),Y,Ru],I⟩,⟨l,E,by rw [F,Ru],hs.mono mup⟩⟩
theorem dC (z:Int):cM 45 (txt z)=(bl z.natAbs,decide (z<0)):=by
 unfold txt;split
 ·rename_i h;rw [QD h];rfl
 rename_i h;rw [QK h];unfold cM;rw [aA];intro h0;have h1:=(bC z.natAbs).1.1 45 (List.mem_of_mem_head? h0);revert h1;decide
theorem zY (z:Int):txt z=[48] ↔ z=0:=by
 constructor
 ·intro h;have h1:(cM 45 (txt z)).1=[48]:=by rw [h];rfl
  rw [dC] at h1;have h2:=(bC z.natAbs).2;have h3:bl z.natAbs=[48]:=h1;rw [h3] at h2;have h4:bU [48]=0:=rfl;omega
 rintro rfl;unfold txt;rw [aA om_,show bl (0:Int).natAbs=bl 0 from rfl,bl];rfl
theorem lk (z:Int):((⟨(txt z).toArray⟩:ByteArray).data.toList == (⟨#[48]⟩:ByteArray).data.toList)=decide (z=0):=by
 show (txt z == [48])=_;rw [Pb,Q7];exact zY z
theorem de (n:Nat):txt (n:Int)=bl n:=by
 unfold txt;rw [aA om_];rfl
theorem fE (C:Mem)(z:Int):Gives cx.P 258 [ah (txt z)] C (.tuple #[.bool (decide (z<0)),ah (bl z.natAbs)]):=by
 have h:=split_fn C (txt z)
 rwa [dC] at h
theorem Hm {c:UInt8}(h:s[i]?=some c):bU (s.take (i+1))=10*bU (s.take i)+(c.toNat-48):=by
 rw [Hn h];omega
theorem xp (a:∀ c∈s,eP c=true)(d:s.length<=17)(i:Nat):bU (s.take i)<100000000000000000:=by
 have h1:=dU (s:=s.take i) (fun c b=>a c (Rw b));have h2:10 ^ (s.take i).length<=10 ^ 17:=QH dc_ (by rw [Qz];omega);omega
theorem IG (C:Mem)(z:Int)(b:(bl z.natAbs).length<=17):Gives cx.P 287 [ah (txt z)] C (.tuple #[.int .i64 z,.bool true]):=by
 obtain ⟨s,k⟩:∃ s,bl z.natAbs=s:=⟨_,rfl⟩;have hs:=(bC z.natAbs).1.1;have d:=(bC z.natAbs).2;rw [k] at b hs d;refine Uk func287 45 U3 fun w0=>Ua 2 [0] Z<|Ub 1 Z fun R a=>Ur (by have h:=fE C z;rw [k] at h;exact h) U7 fl_<|C4 5 [4,5] a Z<|Ua 3 [4,5,16] Z<|Ud (fun l=>?_) fun l=>?_
 ·exfalso;have:(s.length:Int) > 19:=by simpa using l
  omega
 refine Ua 1 [4,5,6] Z<|Ua 1 [4,5,6,7] Z<|G.loop (fun fr C' p q=>∃ (i:Nat),(i<=s.length)/\fr=[(4,[],.bool (decide (z<0))),(5,[],ah s),(6,[],.int .i64 (-((bU (s.take i):Nat):Int))),(7,[],.int .i64 i)]/\p=[]/\q=s.length-i) (hn_ [4,5,6,7] Z) ⟨0,Qn _,Z,Z,Z⟩ (fun fr w x m _ r=>?_);obtain ⟨i,y,rfl,rfl,rfl⟩:=r;refine Ua 4 [4,5,6,7,20] Z<|Ud (fun e=>?_) fun e=>?_
 ·have f:i<s.length:=by simpa using e
  obtain ⟨c,g⟩:∃ c,s[i]?=some c:=⟨s[i],ak f⟩;have t:=hs c (Qi g);have A:48<=c.toNat/\c.toNat<=57:=by simpa [eP] using t
  have B:=xp hs b i;have u:(-9223372036854775808+(((c.toNat:Nat):Int)-48)).tdiv 10=-((9223372036854775808-(((c.toNat:Nat):Int)-48)) / 10):=by
   rw [show (-9223372036854775808+(((c.toNat:Nat):Int)-48))=-(9223372036854775808-(((c.toNat:Nat):Int)-48)) by omega,Int.neg_tdiv,SR om_]
  refine Ub 2 Z fun R a=>UZ U8 (fun _=>⟨by omega,g⟩) U2<|UQ (c:=((c.toNat:Nat):Int)) U8 (by rw [IntKind.wrap_i64];omega) fl_<|Ul _ U7<|C4 1 [4,5,6,7,8] a Z<|Ub 2 Z fun R a=>Ul _ U7<|Vq (-((9223372036854775808-(((c.toNat:Nat):Int)-48)) / 10)) U6 om_ u (by rw [IntKind.wrap_i64];omega) U2<|C4 1 [4,5,6,7,8,32] a Z<|Ud (fun n=>?_) fun n=>?_
  ·exfalso;simp only [Qs] at n;omega
  refine Ub 1 Z fun R a=>Ul _ U7<|Ue U6<|Ul _ U7<|C4 1 [4,5,6,7] a Z<|Ub 1 Z fun R a=>Ul _ U7<|C4 1 [4,5,6,7] a Z ?_;rw [show 10 * -((bU (s.take i):Nat):Int)-(((c.toNat:Nat):Int)-48)=-((bU (s.take (i+1)):Nat):Int) by rw [Hm g];omega];refine Up (m':=s.length-(i+1)) om_ mup (hn_ [4,5,6,7] Z) ⟨i+1,om_,Z,Z,Z⟩
 have f:i=s.length:=by
  have:¬ i<s.length:=by simpa using e
  omega
 rw [f,Qv,d];refine Ua 2 [6,37] Z<|Ud (fun j=>?_) fun j=>?_
 ·have v:z<0:=by simpa using j
  refine Ua 3 [2,3] Z<|Un (G.dropAll (UC U3 ?_));refine ⟨?_,Z⟩;rw [show -((z.natAbs:Nat):Int)=z by omega]
 have v:¬ z<0:=by simpa using j
 have D:z.natAbs<100000000000000000:=by
  have:=xp hs b s.length
  rwa [Qv,d] at this
 refine Ua 3 [6,40] Z<|Ud (fun o=>?_) fun o=>?_
 ·exfalso;simp at o;omega
 refine Ua 4 [2,3] Z<|Un (G.dropAll (UC U3 ?_));refine ⟨?_,Z⟩;rw [show IntKind.i64.wrap (0 - -((z.natAbs:Nat):Int))=z by rw [IntKind.wrap_i64];omega]
theorem Cb (C:Mem)(z:Int):Gives cx.P 260 [ah (txt z)] C (.tuple #[.int .i64 (if (bl z.natAbs).length<=17 then z else 0),.bool (decide ((bl z.natAbs).length<=17))]):=by
 refine Uk func260 18 U3 fun w0=>Ua 2 [0] Z<|Ub 1 Z fun R b=>Uo (fE C z) U7<|C4 5 [0,5] b Z<|Ua 3 [0,13] Z<|Ud (fun c=>?_) fun c=>?_
 ·have a:¬ (bl z.natAbs).length<=17:=by
   have:((bl z.natAbs).length:Int) > 17:=by simpa using c
   omega
  refine Ua 2 [2,3] Z<|Un (G.dropAll (UC U3 ?_));rw [aA a,QK a];exact ⟨Z,Z⟩
 have a:(bl z.natAbs).length<=17:=by
  have:¬ ((bl z.natAbs).length:Int) > 17:=by simpa using c
  omega
 refine Ub 1 Z fun R b=>Uo (IG _ z a) U7<|C4 4 [2,3] b Z<|Un (G.dropAll (UC U3 ?_));rw [aH a,QD a];exact ⟨Z,Z⟩
theorem lJ (C:Mem)(a:Tabs C)(z:Int)(b:-9223372036854775808<=z)(c:z<=9223372036854775807):Gives cx.P 148 [.int .i64 z] C (ah (txt z)):=by
 exact Uk func148 5 U3 fun w0=>Ua 1 [0] Z<|Ub 1 Z fun R d=>Uo (ji _ a z b c) U7<|C4 1 [2] d Z<|Ui U2<|⟨Z,Z⟩
theorem yl (C:Mem)(z:Int):Gives cx.P 221 [ah (txt z)] C (.int .i64 (if z<0 then -1 else if z=0 then 0 else 1)):=by
 refine Uk func221 13 U3 fun w0=>Ua 1 [0] Z<|Ub 1 Z fun R e=>Uo (fE C z) U7<|C4 5 [0,3] e Z<|Ua 1 [0,10] Z<|Ud (fun b=>?_) fun b=>?_
 ·have c:z<0:=by simpa using b
  refine Ua 1 [2] Z<|Ui U2 ?_;rw [aH c];exact ⟨Z,Z⟩
 have c:¬ z<0:=by simpa using b
 rw [aA c];refine Ua 2 [12] Z<|Ud (fun a=>?_) fun a=>?_
 ·rw [lk] at a;have d:z=0:=by simpa using a
  refine Ua 1 [2] Z<|Ui U2 ?_;rw [aH d];exact ⟨Z,Z⟩
 rw [lk] at a;have d:¬ z=0:=by simpa using a
 refine Ua 1 [2] Z<|Ui U2 ?_;rw [aA d];exact ⟨Z,Z⟩
theorem rX (C:Mem)(z:Int)(d:(bl z.natAbs).length<=1000000):Gives cx.P 222 [ah (txt z)] C (ah (txt (-z))):=by
 refine Uk func222 18 U3 fun w0=>Ua 1 [0] Z<|Ub 1 Z fun R a=>Uo (fE C z) U7<|C4 5 [0,3,4] a Z<|Ub 4 Z fun R a=>UF U8<|Ug [4,14] a Z<|Ud (fun b=>?_) fun b=>?_
 ·rw [lk] at b;have c:z<=0:=by simp at b;omega
  refine Ua 2 [2] Z<|Ui U2<|⟨?_,Z⟩;rw [show txt (-z)=bl z.natAbs by rw [show -z=((z.natAbs:Nat):Int) by omega,de]]
 rw [lk] at b;have c:0<z:=by simp at b;omega
 refine Ub 1 Z fun R a=>Va U6 (fun _=>(by simp only [QC,QW];omega)) U2<|C4 1 [2] a Z<|Ui U2<|⟨?_,Z⟩;rw [show txt (-z)=45::bl z.natAbs by unfold txt;rw [aH om_];congr 2;omega];rfl
theorem sZ (C:Mem)(z:Int):Gives cx.P 259 [ah (txt z)] C (ah (bl z.natAbs)):=by
 exact Uk func259 11 U3 fun w0=>Ua 1 [0] Z<|Ub 1 Z fun R a=>Uo (fE C z) U7<|C4 5 [4] a Z<|Ua 2 [2] Z<|Ui U2<|⟨Z,Z⟩
theorem Qk:BP ^ 200=10 ^ 800:=by decide +kernel
theorem gH (h:n<BP ^ 200):(bl n).length<=800:=eH (by rw [<- Qk];exact h) om_
theorem PieC.take {D:Mem}{u:Value}(h:PieC D u n)(a:n<BP ^ 201):∃ l,CD l/\bN l=n/\l.length<=201/\Sl D 1 u (l.map aO):=by
 obtain ⟨l,h1,h2,h3⟩:=h;exact ⟨l,h1,h2,nh h1 (by rw [h2];exact a),h3⟩
theorem nO (C:Mem)(n:Nat)(h:n<BP ^ 200):Pur cx.P 262 [ah (bl n)] C fun u D=>∃ l,CD l/\bN l=n/\l.length<=200/\Sl D 1 u (l.map aO) :=
 (Mb C (bl n) (bC n).1.1 (by have:=gH h;omega)).mono fun u D _ _ ⟨h0,l,h1,h2,h3⟩=>⟨h0,l,h1,by rw [h2,(bC n).2],nh h1 (by rw [h2,(bC n).2];exact h),h3⟩
theorem Pv:BP ^ 200+BP ^ 200<BP ^ 201:=by decide +kernel
theorem Ca (h:(bl z.natAbs).length<=17):z.natAbs<100000000000000000:=by
 have h1:=dU (bC z.natAbs).1.1;rw [(bC z.natAbs).2] at h1;have h2:10 ^ (bl z.natAbs).length<=10 ^ 17:=QH dc_ h;omega
theorem Mj (h:decide (z<0)=decide (w<0)):sgZ (decide (z<0)) (z.natAbs+w.natAbs)=z+w:=by
 rw [Q7] at h;unfold sgZ;by_cases a:z<0
 ·have:=h.1 a;rw [QD a,aH rfl];omega
 have:¬ w<0:=fun h1=>a (h.2 h1);rw [QK a,aA am];omega
theorem Mk (h:decide (z<0)≠decide (w<0))(b:¬ z.natAbs<w.natAbs):sgZ (decide (z<0)) (z.natAbs-w.natAbs)=z+w:=by
 rw [ne_eq,Q7] at h;unfold sgZ;by_cases a:z<0
 ·have:¬ w<0:=fun h1=>h ⟨fun _=>h1,fun _=>a⟩;rw [QD a,aH rfl];omega
 have:w<0:=QM fun h1=>h ⟨fun h2=>absurd h2 a,fun h2=>absurd h2 h1⟩;rw [QK a,aA am];omega
theorem oO (C:Mem)(n:Nat):Gives cx.P 258 [ah (bl n)] C (.tuple #[.bool false,ah (bl n)]):=by
 have h:=fE C (n:Int);rw [de,QK om_] at h;exact h
theorem qH (C:Mem)(n:Nat):Gives cx.P 260 [ah (bl n)] C (.tuple #[.int .i64 (if (bl n).length<=17 then (n:Int) else 0),.bool (decide ((bl n).length<=17))]):=by
 have h:=Cb C (n:Int);rw [de] at h;exact h
theorem qI (h:(bl n).length<=17):n<100000000000000000:=Ca (z:=(n:Int)) h
theorem F5 (C:Mem)(a:Tabs C)(n:Nat)(h:n<=9223372036854775807):Gives cx.P 148 [.int .i64 n] C (ah (bl n)):=by
 have h:=lJ C a (n:Int) om_ om_
 rwa [de] at h
theorem ur (C:Mem)(a:Tabs C)(v:Value)(l:List Nat)(b:Sl C 1 v (l.map aO))(c:DigP l)(d:l.length<=100000):Gives cx.P 264 [.bool false,v] C (ah (bl (bN l))):=by
 have h:=Gn C a false v l b c d;rw [show sgZ false (bN l)=((bN l:Nat):Int) from rfl,de] at h;exact h
theorem PI {q:Nat}(h:q<=9223372036854775807):IntKind.i64.wrap ((q:Nat):Int)=(q:Nat):=by rw [IntKind.wrap_i64];omega
theorem mf (C:Mem)(d:Tabs C)(a b:Nat)(l:a<BP ^ 200)(m:b<BP ^ 200)(e:0<b):Gives cx.P 224 [ah (bl a),ah (bl b)] C (.tuple #[ah (bl (a / b)),ah (bl (a % b))]):=by
 have D:=Pv;refine Uk func224 93 U3 fun w0=>Ua 2 [0,1] Z<|Ub 1 Z fun R c=>Uo (qH C a) U7<|C4 5 [0,1,6,7] c Z<|Ub 1 Z fun R c=>Uo (qH _ b) U7<|C4 5 [0,1,6,7,8,9] c Z<|Ub 3 Z fun R c=>UD U8<|Ug [0,1,6,8,31] c Z<|Ud (fun f=>?_) fun f=>?_
 ·have hs:(bl a).length<=17/\(bl b).length<=17:=by simpa using f
  have h1:=qI hs.1;have h2:=qI hs.2;rw [aH hs.1,aH hs.2];have h0:=Rp a b;refine Uy [0,1,2,3,4,5,6,7] [] Z kr_ fun R E c=>Uh 2 Z<|Vq (((a / b:Nat):Int)) U6 om_ (by rw [SR om_];rfl) (PI om_) U2<|Uh 2 Z<|Vk U6 om_ om_ U2<|C4 2 [6,8,10,11] c Z<|Ua 2 [6,8,10,11,39] Z<|Ud (fun g=>?_) fun g=>?_
  ·exfalso;have h3:=TG (a:Int) (show (b:Int)≠0 by omega);simp only [Qs] at g;omega
  rw [<- Int.natCast_emod];have h3:=Rp a b;have h4:=Q2 a e;refine Ub 1 Z fun R c=>Ur (F5 _ d (a / b) om_) U7 fl_<|Ue U6<|Ur (F5 _ d (a % b) om_) U7 fl_<|C4 2 [4,5] c Z<|Un (G.dropAll (UC U3 ?_));exact ⟨Z,Z⟩
 refine Ub 1 Z fun R c=>Uo (oO _ a) U7<|C4 5 [1,12,13] c Z<|Ub 1 Z fun R c=>Uo (oO _ b) U7<|C4 5 [12,13,14,15] c Z<|Ub 1 Z fun R c=>UM (nO _ a l) U7 (fun F _ _ n=>?_);obtain ⟨lp,o,p,H,q⟩:=n;refine Ue U6<|UM (nO _ b m) U7 (fun I _ _ r=>?_);obtain ⟨s,t,u,J,v⟩:=r;refine UH (Bf _ _ _ lp s q.m_ v.m_ o.1 t om_ om_ om_) U7 fl_ (fun K _ _ w=>?_);obtain ⟨u1,L,rfl,h,i⟩:=w;rw [p,u] at h i;obtain ⟨l1,x,y,M,z⟩:=PieC.take h (by have:=Rp a b;omega);obtain ⟨l2,A,B,N,j⟩:=PieC.take i (by have:=Q2 a e;omega);obtain ⟨A2,c2,rfl,_⟩:=id j;refine C4 5 [12,14,15,16,17] c Z<|Ub 5 Z fun R c=>UD U8<|Ug [12,14,15,16,17,78] c Z<|Ud (fun k=>?_) fun k=>?_
 ·exfalso;simp at k
 refine Ub 4 Z fun R c=>Ur (ur _ d.m_ _ l1 z.m_ x.1 om_) U7 fl_<|Ue U6<|Ur (ur _ d.m_ _ l2 j.m_ A.1 om_) U7 fl_<|C4 2 [4,5] c Z<|Un (G.dropAll (UC U3 ?_));rw [y,B];exact ⟨Z,Z⟩
theorem LF (n:Nat):((⟨(bl n).toArray⟩:ByteArray).data.toList == (⟨#[48]⟩:ByteArray).data.toList)=decide (n=0):=by
 have h:=lk (n:Int);rw [de] at h;rw [h,Q7];omega
theorem DD (C:Mem)(h:Tabs C)(z w:Int)(i:z.natAbs<BP ^ 200)(j:w.natAbs<BP ^ 200):Gives cx.P 223 [ah (txt z),ah (txt w)] C (ah (bl (Nat.gcd z.natAbs w.natAbs))):=by
 refine Uk func223 22 U3 fun w0=>Ua 1 [0,1] Z<|Ub 1 Z fun R e=>Uo (sZ _ z) U7<|Ue U6<|Uo (sZ _ w) U7<|C4 2 [0,1] e Z<|G.loop (fun fr C' k l=>∃ (a b:Nat),(a<BP ^ 200/\b<BP ^ 200/\Nat.gcd a b=Nat.gcd z.natAbs w.natAbs)/\fr=[(0,[],ah (bl a)),(1,[],ah (bl b))]/\k=[]/\l=b+1) (hn_ [0,1] Z) ⟨z.natAbs,w.natAbs,⟨i,j,Z⟩,Z,Z,Z⟩ (fun fr p q m _ n=>?_);obtain ⟨a,b,⟨o,f,g⟩,rfl,rfl,rfl⟩:=n;refine Ua 2 [0,1,12] Z<|Ud (fun c=>?_) fun c=>?_
 ·have d:0<b:=by
   rw [LF] at c;have:b≠0:=by simpa using c
   omega
  have r:=Q2 a d;refine Ub 2 Z fun R e=>Uo (mf _ h.m_ a b o f d) U7<|C4 5 [1,6] e Z<|Ua 4 [0,1] Z<|Up (m':=a % b+1) om_ mup (hn_ [0,1] Z) ⟨b,a % b,⟨f,by omega,by rw [<- g,Pa a b d]⟩,Z,Z,Z⟩
 have d:b=0:=by
  rw [LF] at c;simpa using c
 refine Ua 2 [4] Z<|Ui U2<|⟨?_,Z⟩;rw [<- g,d,S4]
def iG (s:Str):Int:=sgZ (cM 45 s).2 (bU (cM 45 s).1)
theorem xG {t:Str}(h:vB t):t.head?=some 48 ↔ bU t=0:=by
 constructor
 ·intro h0;have h1:=h.2.2 h0;cases t with
  | nil=>cases h0
  | cons b t =>
   have a:b=48:=by simpa using h0
   have d:t=[]:=by cases t with
    | nil=>rfl
    | cons c t=>simp at h1
   subst a d;rfl
 intro h0;have:=qG h (bC 0).1 (by rw [h0,(bC 0).2]);rw [this,bl];rfl
theorem xE :xF s=true ↔ vB (cM 45 s).1/\((cM 45 s).2=true->0<bU (cM 45 s).1):=by
 obtain ⟨t,neg,d⟩:∃ t b,cM 45 s=(t,b):=⟨_,_,rfl⟩;unfold xF;rw [d];simp only [Qu,SB,Rt,ne_eq,Qx,Bool.and_eq_false_imp,RU,RQ,QG];constructor
 ·rintro ⟨⟨h1,h2⟩,h3⟩;have a:vB t:=⟨h1,h2,fun h=>by
   have:=(h3 h).2;have:0<t.length:=Q3.2 h2;omega⟩
  refine ⟨a,fun c=>?_⟩;rcases RJ (bU t) with h | h
  ·have:=(h3 ((xG a).2 h)).1;rw [c] at this;cases this
  exact h
 rintro ⟨a,h⟩;refine ⟨⟨a.1,a.2.1⟩,fun h0=>?_⟩;have h1:=(xG a).1 h0;have h2:=a.2.2 h0;refine ⟨?_,by omega⟩;cases c:neg with
 | false=>rfl
 | true=>have:=h c;omega
theorem Hb (s:Str):s=if (cM 45 s).2 then 45::(cM 45 s).1 else (cM 45 s).1:=by
 unfold cM;split
 ·rename_i h;cases s with
  | nil=>cases h
  | cons b s =>
   have a:b=45:=by simpa using h
   subst a;rfl
 rfl
theorem HI (h:xF s=true):s=txt (iG s):=by
 obtain ⟨h1,h2⟩:=xE.1 h;unfold iG;rw [zZ _ _ h2,<- oo h1];exact Hb s
def pf (zn:Int):Option Str->Bool
 | none=>true
 | some b=>decide (1<iG b) && !(zn == 0) && (Nat.gcd zn.natAbs (iG b).natAbs == 1)
def ba (s:Str):Bool:=cK (jT 47 s).1 && cK ((jT 47 s).2.getD [49]) && pf (iG (jT 47 s).1) (jT 47 s).2
theorem rM :cK s=true ↔ okD (cM 45 s).1=true/\((cM 45 s).2=true->0<bU (cM 45 s).1):=by
 unfold cK;rw [Qu,xE,yv,Qs];constructor
 ·rintro ⟨⟨h1,h2⟩,h3⟩;exact ⟨⟨h1,h3⟩,h2⟩
 rintro ⟨⟨h1,h3⟩,h2⟩;exact ⟨⟨h1,h2⟩,h3⟩
theorem Kk (s:Str):(iG s).natAbs=bU (cM 45 s).1:=by
 unfold iG sgZ;split <;> omega
theorem Fv (h:s.length<=n):(jT 47 s).1.length<=n/\((jT 47 s).2.getD [49]).length<=n+1:=by
 rcases gK 47 s with ⟨h1,_⟩ | ⟨a,post,h1,h2,_⟩
 ·rw [h1];exact ⟨h,by simp⟩
 have e:=congrArg List.length h2;rw [Qp,QC] at e;rw [h1];simp only [Rx];omega
theorem one_val:([49]:Str)=txt 1:=by
 unfold txt;rw [aA om_,show bl (1:Int).natAbs=bl 1 from rfl,bl];rfl
theorem sJ (n:Nat):((⟨(bl n).toArray⟩:ByteArray).data.toList == (⟨#[49]⟩:ByteArray).data.toList)=(n == 1):=by
 show (bl n == [49])=_;rw [Pb,S3,Qs,RU];constructor
 ·intro h;have h2:=(bC n).2;rw [h] at h2;exact h2.symm
 rintro rfl;rw [bl];rfl
theorem FS (C:Mem)(s:Str)(d:∀ c∈s,eP c=true)(e:s≠[])(f:s.length<=18):Gives cx.P 251 [ah s,.int .i64 10,.int .i64 64] C (.tuple #[.int .u64 (bU s),.nilIface]):=by
 refine Uk func251 26 U3 fun w0=>Ua 2 [0,1,2] Z<|Ub 3 Z fun R a=>Ur (FR Tryz.parseU s d e f _ kr_) U7 fl_<|C4 5 [0,1,2,8,9] a Z<|Ub 1 Z fun R a=>V6 false Z Z Z Z Z (.inr ⟨Z,Z⟩) kr_ Z Z<|Ug [0,1,2,8,9,18] a Z<|Ud (fun b=>?_) fun b=>?_
 ·cases b
 refine Ua 3 [6,7] Z<|Un (G.dropAll (UC U3 ?_));exact ⟨Z,Z⟩
theorem CO (C:Mem)(i:Nat)(h:i<100):Gives cx.P 269 [.int .i64 i] C (ah (bl i)):=by
 have h1:=Gives.ofCalls (f:=269) (args:=[.int .i64 i]) (P:=cx.P) kr_ (fun w=>Any.internal_strconv_small Tryz.small10 i h w) C;rw [dK] at h1;exact h1
theorem Bq (u:Nat):Lib.nDigits u=(bl u).length:=by rw [<- dK,Lib.decDigits_length]
theorem DE (C:Mem)(l:Tabs C)(u:Nat)(s:u<9223372036854775808):Gives cx.P 286 [.int .u64 u,.int .i64 10] C (ah (bl u)):=by
 refine Uk func286 32 U3 fun w0=>Ua 1 [0,1] Z<|Ua 2 [0,1,10] Z<|Ud (fun g=>?_) fun g=>?_
 ·refine Ua 2 [0,12] Z<|Ud (fun e=>?_) fun e=>?_
  ·have h:u<100:=by
    have:(u:Int)<100:=by simpa using e
    omega
   exact Ub 1 Z fun R a=>UQ (c:=(u:Int)) U8 (by rw [IntKind.wrap_i64];omega) fl_<|Uo (CO _ u h) U7<|C4 1 [4] a Z<|Ui U2<|⟨Z,Z⟩
  have h:100<=u:=by
   have:¬ (u:Int)<100:=by simpa using e
   omega
  have t:Lib.nDigits u<=19:=by
   rw [Bq];exact eH om_ om_
  refine Uf fun R a=>Uv U5 fun i=>Ug [0,5] a Z<|Ub 1 Z fun R a=>Ur (wJ Tryz.nDig u om_ om_ _ l.pow.m_ kr_) U7 fl_<|C4 1 [0,5,6] a Z<|UB [(3,3)] Z fun R a=>Ue U6<|VY 0 (Lib.nDigits u) 24 U12 (fun _=>⟨.inl ⟨Z,Z⟩,.inr ⟨_,Z⟩,.inl ⟨Z,Z⟩,by omega,by omega,by decide⟩) U2<|Ue U6<|D.call (yK Tryz.fmt10 i 24 u 372 (List.replicate 24 (Value.int .u8 0)) om_ (fun j d=>(by rw [R4,aH om_])) om_ _ kr_) Z (.inr dc_) U6 (Qo _) fl_ fun w _ z _ m=>Ug [5,6] a Z ?_;obtain ⟨_,rfl,cs,rfl,A,n⟩:=m;refine G.freeze 0 Z (fun o _ p=>?_);have q:(bl u).length=Lib.nDigits u:=(Bq u).symm;have k:Sl o 1 (.slice (some ⟨i,0,none⟩) ((bl u).map fun b=>[Value.int .u8 b.toNat]).length 24) ((bl u).map fun b=>[Value.int .u8 b.toNat]) :=
   Sl.ofBlock p (by intro r hr;obtain ⟨y,_,rfl⟩:=Qt.1 hr;rfl) (fun j v d=>by
    rw [gk,Ql] at d;cases f:(bl u)[j]? with
    | none=>rw [f] at d;cases d
    | some x=>rw [f] at d;cases d;simpa using n j x f) ap (by simp [maxLen])
  rw [aw,q] at k;exact Ub 1 Z fun R a=>VY 0 (Lib.nDigits u) 24 U12 (fun _=>⟨.inl ⟨Z,Z⟩,.inr ⟨_,Z⟩,.inl ⟨Z,Z⟩,by omega,by omega,by decide⟩) U2<|VE k.m_ U11 fl_<|C4 1 [4] a Z<|Ui U2<|⟨Z,Z⟩
 exact absurd g dc_
theorem DF (C:Mem)(a:Tabs C)(u:Nat)(b:u<9223372036854775808):Gives cx.P 255 [.int .u64 u,.int .i64 10] C (ah (bl u)):=by
 exact Uk func255 8 U3 fun w0=>Ua 1 [0,1] Z<|Ub 2 Z fun R c=>Uo (DE _ a.m_ u b) U7<|C4 1 [4] c Z<|Ui U2<|⟨Z,Z⟩
theorem jG (C:Mem)(z:Int)(m:Nat)(d:m<=18):Gives cx.P 213 [ah (txt z),.int .i64 m] C (.tuple #[.int .i64 (if (txt z).length<=m then z else 0),.bool (decide ((txt z).length<=m))]):=by
 refine Uk func213 20 U3 fun w0=>Ua 2 [0,1] Z<|Ua 4 [0,11] Z<|Ud (fun b=>?_) fun b=>?_
 ·have a:¬ (txt z).length<=m:=by
   have:(m:Int)<((txt z).length:Int):=by simpa using b
   omega
  refine Ua 2 [4,5] Z<|Un (G.dropAll (UC U3 ?_));exact ⟨by rw [aA a,QK a],Z⟩
 have a:(txt z).length<=m:=by
  have:¬ (m:Int)<((txt z).length:Int):=by simpa using b
  omega
 refine Ub 1 Z fun R c=>Ur (zo Tryz.atoi z om_ _ kr_) U7 fl_<|C4 5 [6,7] c Z<|Uy [0,1,2,3,4] [] Z kr_ fun R e c=>Uh 2 Z<|V6 true Z Z Z Z Z (.inl ⟨Z,Z⟩) kr_ Z Z<|C4 2 [4,5] c Z<|Un (G.dropAll (UC U3 ?_));exact ⟨by rw [aH a,QD a],Z⟩
theorem iZ (C:Mem)(z:Int)(t:(bl z.natAbs).length<=1000000):Pur cx.P 214 [ah (txt z)] C fun u D=>∃ p,u=.agg ⟨[.bool (decide (z<0)),p]⟩/\NineC D p z.natAbs:=by
 obtain ⟨S,hS⟩:∃ S,bl z.natAbs=S:=⟨_,rfl⟩;have b:=(bC z.natAbs).1;have i:=(bC z.natAbs).2;rw [hS] at t b i;refine Uk func214 44 U3 fun w0=>Uf fun R a=>Uv U5 fun d=>Ug [0,2] a Z<|Ub 1 Z fun R a=>Uo (Hs _ (txt z) 45) U7 ?_;rw [dC,hS];refine C4 5 [2,3,4] a Z<|Ub 2 Z fun R a=>Vj (S.length) (9) U6 om_ (.inl ⟨Z,by omega⟩) U2<|UN (((S.length / 9+1:Nat):Int)) U4 om_ om_ om_ U2<|Vd U9 (Qn _) (by show 8*(S.length / 9+1)<=281474976710656;omega) (by simp only [maxLen];omega) fl_ fun L=>C4 1 [2,3,4,5] a Z ?_;rw [show (ah S:Value)=ah (S.take S.length) by rw [Qv]];refine G.loop (fun fr C' k v=>∃ (q j:Nat)(out:List Nat)(w:Value),(q<=S.length/\(q=0∨q+9*j=S.length)/\out.length=j/\j<=S.length/\(q=0∨j<S.length)/\Dig9 out/\bB out=bU (S.drop q))/\fr=[(2,[],.pointer (some ⟨d,0,none⟩)),(3,[],ah (S.take q)),(4,[],.bool (decide (z<0))),(5,[],w)]/\k=[.arr w 160 1 j (out.map cj).flatten,.obj d (.cells ⟨[.bool false,.slice none 0 0]⟩ 307 (0,0))]/\v=q+1) (hn_ [2,3,4,5] Z) ⟨S.length,0,[],_,⟨Qj _,by omega,Z,Qn _,by have:=Q3.2 b.2.1;omega,(fun x y=>(by cases y)),by rw [Rr];rfl⟩,Z,Z,Z⟩ (fun fr M N m _ A=>?_);obtain ⟨q,j,out,w,⟨O,Q,e,T,U,l,f⟩,rfl,rfl,rfl⟩:=A;refine Ua 3 [2,3,4,5,21] Z<|Ud (fun g=>?_) fun g=>?_
 ·have B:(⟨(S.take q).toArray⟩:ByteArray).data.toList.length=q:=by
   show (S.take q).length=q;rw [Qz];omega
  have E:(S.take q).length=q:=B;have o:0<q:=by
   have h:(0:Int)<(((⟨(S.take q).toArray⟩:ByteArray).data.toList.length:Nat):Int):=by simpa using g
   omega
  have F:(gJ S (q-9) q).length<=9/\0<(gJ S (q-9) q).length:=by
   unfold gJ;rw [Sm,Qz];omega
  have H:∀ c∈gJ S (q-9) q,eP c=true:=fun c I=>b.1 c (Rw (Td I));refine Ub 2 Z fun R a=>UN (((q:Int)-9)) U4 om_ om_ om_ U2<|D.max (((q-9:Nat):Int)) U6 om_ U2<|C4 1 [2,3,4,5,6] a Z<|Ub 2 Z fun R a=>Vb (q-9) (S.take q).length U9 (fun _=>⟨.inr ⟨_,Z⟩,.inl ⟨Z,Z⟩,.inl ⟨Z,Z⟩,by omega,Qj _,Qj _⟩) U2 ?_;rw [show (((S.take q).take (S.take q).length).drop (q-9))=gJ S (q-9) q from by rw [Qv];rfl];refine Ur (FS _ (gJ S (q-9) q) H (Q3.1 F.2) om_) U7 fl_<|C4 5 [2,3,4,5,6,7] a Z<|Uy [0,1,4,5,6,2,3,7,8] [] Z kr_ fun R V a=>Uh 4 Z<|Vb 0 (q-9) U9 (fun _=>⟨.inl ⟨Z,Z⟩,.inr ⟨_,Z⟩,.inl ⟨Z,Z⟩,by omega,by omega,Qj _⟩) U2<|Ux [cj (bU (gJ S (q-9) q))] U12 fun W _ _ J=>D.append (j:=0) U11 J Z ax (by show (j+1)*8<=_;omega) fl_ fun r=>C4 2 [2,3,4,5] a Z ?_;rw [show ((S.take q).take (q-9)).drop 0=S.take (q-9) from by rw [Ru,S9,Ry om_]];refine Ut (L':=[.arr r 160 1 (j+1) ((out++[bU (gJ S (q-9) q)]).map cj).flatten,.obj d (.cells ⟨[.bool false,.slice none 0 0]⟩ 307 (0,0))]) (by simp [cj])<|Up (m':=q-9+1) om_ mup (hn_ [2,3,4,5] Z) ⟨q-9,j+1,out++[bU (gJ S (q-9) q)],r,⟨by omega,by omega,by simp [e],by omega,by omega,l.snoc (Km b.1 om_),CH om_ e om_ f⟩,Z,Z,Z⟩
 have o:q=0:=by
  have E:(S.take q).length=q:=by rw [Qz];omega
  have h:¬ (0:Int)<(((S.take q).length:Nat):Int):=by simpa using g
  omega
 subst o;rw [Ru,i] at f;refine UB [(2,3)] Z fun R a=>Uh 2 Z<|D.call (gt _ _ out (n:=j) e) Z (.inr dc_) U6 (Qo _) fl_ (fun X _ Y _ K=>?_);obtain ⟨rfl,s⟩:=K;obtain ⟨Au,cu,rfl,_⟩:=id s;refine Uu [.bool (decide (z<0)),_] U8<|Um (j:=0) U12<|Ug [2] a Z<|Un (UU af U4 ?_);exact ⟨Z,_,Z,Eo out,ir l,by rw [iq,f],s⟩
theorem DO (k:Nat)(s:Str):bU (List.replicate k 48++s)=bU s:=by
 induction k with
 | zero=>rfl
 | succ k a=>rw [RG,RZ,dD,a];simp
theorem MN (h:x<1000000000):mF 9 x=List.replicate (9-(bl x).length) 48++bl x:=by
 obtain ⟨h1,h2,h3⟩:=kK 9 x h;obtain ⟨h4,h5⟩:=bC x;have b:(bl x).length<=9:=eH om_ om_;refine yV h2 (fun c a=>?_) (by rw [h1];simp;omega) (by rw [h3,DO,h5]);rcases Qy.1 a with a | a
 ·rw [Sn a];rfl
 exact h4.1 c a
def KP (l:List Nat)(j:Nat)(s:Str):Prop:=(j=0/\s=[])∨(0<j/\vB s/\bU s=bB (l.drop (l.length-j))/\0<bU s)
theorem Dr (b:ya l)(d:j<l.length)(h:KP l j s):KP l (j+1) (s++if j=0 then bl (g9 l (l.length-1-j)) else mF 9 (g9 l (l.length-1-j))):=by
 have a:l[l.length-1-j]?=some (g9 l (l.length-1-j)):=xe om_;refine .inr ⟨by omega, ?_⟩;rw [show l.length-(j+1)=l.length-1-j by omega];rcases h with ⟨rfl,rfl⟩ | ⟨h0,h1,h2,h3⟩
 ·rw [aH rfl,R7];obtain ⟨h4,h5⟩:=bC (g9 l (l.length-1-0));have c:bB (l.drop (l.length-1-0))=g9 l (l.length-1-0):=by
   rw [QS om_,show l.length-1-0+1=l.length by omega,Rr];rw [ak om_] at a;rw [RR a];show _+B9*0=_;omega
  refine ⟨h4,by rw [h5,c], ?_⟩;rw [h5];rcases RJ (g9 l (l.length-1-0)) with h | h
  ·rw [h] at a;exact absurd (by rw [Sv];exact a) b.2
  exact h
 rw [aA om_];rw [show l.length-j=l.length-1-j+1 by omega] at h2;exact DC b.1 a h1 h2 h3
theorem jV (C:Mem)(V:Tabs C)(m:Bool)(v:Value)(n:Nat)(W:NineC C v n)(X:n<B9 ^ 100000):Gives cx.P 216 [.agg ⟨[.bool m,v]⟩] C (ah (txt (sgZ m n))):=by
 obtain ⟨ls,J,K,aj,hs⟩:=W.get X;obtain ⟨A,c,rfl,_⟩:=id hs;simp only [aw] at hs ⊢;refine Vv kr_ func216 Z 34 Z Z fun w0=>Uf fun R a=>Uw U6 fun L=>C4 1 [1] a Z<|G.freeze 0 Z fun _ _ o=>Ub 1 Z fun R a=>Uc (PtrTo.block (Mem.get o mup) _) U8<|C4 2 [1,10] a Z<|Ud (fun y=>?_) fun y=>?_
 ·have M:ls=[]:=by
   have:(ls.length:Int)=0:=by simpa using y
   exact Q1 om_
  refine Ua 1 [2] Z<|Un (VI (K8 Z Z) ?_ Kc);subst M;refine ⟨?_,Z⟩;rw [<- K,(zY (sgZ m (bB []))).2 (by cases m <;> rfl)];rfl
 have M:0<ls.length:=by
  have:¬ (ls.length:Int)=0:=by simpa using y
  omega
 obtain ⟨d,g⟩:∃ d:Str,(if m then [45] else [])=d:=⟨_,rfl⟩;have ak:d.length<=1:=by rw [<- g];split <;> simp
 refine Uf fun R a=>Uv U5 fun b=>Ug [1,3] a Z<|G.nilArr 5 1<|G.perm (L':=[.obj b (.cells ⟨[.pointer none,.slice none 0 0]⟩ 354 (0,0)),.arr (.slice none 0 0) 5 1 0 []]) (List.Perm.swap _ _ _)<|Ub 1 Z fun R a=>Uc (PtrTo.block (Mem.get o mup) _) U8<|Ug [1,3,12] a Z<|G.cut (fun fr C' e z=>∃ (q:Option Addr)(w:Value),(q=none∨q=some ⟨b,0,none⟩)/\fr=[(1,[],.pointer (some ⟨L,0,none⟩)),(3,[],.pointer (some ⟨b,0,none⟩))]/\e=[.obj b (.cells ⟨[.pointer q,w]⟩ 354 (0,0)),.arr w 5 1 d.length (u8s d)]) ?_ (fun fr _ al z _ f=>?_)
 ·refine Ud (fun B=>?_) fun B=>?_
  ·rw [aH B] at g;subst g;refine UB [(0,3)] Z fun R a=>D.call (vC _ b none (.slice none 0 0) [] 45 (.inl Z) am) Z (.inr dc_) U6 (Qo _) fl_ fun an _ ao _ Y=>Ug [1,3] a Z ?_;obtain ⟨w1,rfl⟩:=Y;refine Uq 0 mup (hn_ [1,3] Z) ⟨some ⟨b,0,none⟩,w1,.inr Z,Z,Z⟩
  rw [aA (by rw [B];decide)] at g;subst g;refine Uq 0 mup (hn_ [1,3] Z) ⟨none,.slice none 0 0,.inl Z,Z,Z⟩
 obtain ⟨q ,w,hq,rfl,rfl⟩:=f;refine Ub 1 Z fun R a=>Uc (PtrTo.block (Mem.get o mup) _) U8<|UM (Ce _ A ls.length c) U7 fun aq _ _ aa=>Ug [1,3,16] a Z ?_;obtain ⟨bb,rfl,ab⟩:=aa;refine Ut (L':=[.obj b (.cells ⟨[.pointer q,w]⟩ 354 (0,0)),.arr w 5 1 (d++[]).length (u8s (d++[]))]) (by rw [QI])<|G.rangeFunc Z Z Z kr_ (sX _ bb _ _ ls ab hs.m_ om_) (fun j e=>∃ (q:Option Addr)(w:Value)(s:Str),((q=none∨q=some ⟨b,0,none⟩)/\KP ls j s/\s.length<=9*j)/\e=[.obj b (.cells ⟨[.pointer q,w]⟩ 354 (0,0)),.arr w 5 1 (d++s).length (u8s (d++s))]) ⟨q,w,[],⟨hq,.inl ⟨Z,Z⟩,by simp⟩,Z⟩ Z (fun _ _=>rfl) (fun u v=>[(1,[],.pointer (some ⟨L,0,none⟩)),(3,[],.pointer (some ⟨b,0,none⟩)),(4,[],u),(5,[],v)]) (fun l u v W1 e=>?_) (fun l j u v e W1 f E=>?_) (fun bD e f=>?_)
 ·exact Ua 1 [1,3,4,18] Z<|Ua 1 [1,3,4,5] Z<|We ⟨Z,Z,Z,Z,trivial⟩
 ·obtain ⟨q,w,s,⟨F,p,N⟩,rfl⟩:=f;have O:j<ls.length:=by have:=(aF.1 E).1;rwa [fR] at this
  rw [vi O] at E;cases E
  have Q:=Dr J O p;obtain ⟨x,H⟩:∃ x,g9 ls (ls.length-1-j)=x:=⟨_,rfl⟩;have i:x<B9:=by rw [<- H];exact kO J.1 _
  rw [show ls.getD (ls.length-1-j) 0=x from H];rw [H] at Q;have ar:(bl x).length<=9:=eH (by rw [B9v] at i;omega) om_;have ac:=MN (x:=x) (by rw [B9v] at i;exact i);have au:(mF 9 x).length=9:=(kK 9 x (by rw [B9v] at i;omega)).1;refine Ub 1 Z fun R a=>Ur (DF _ V.m_ x (by rw [B9v] at i;omega)) U7 fl_<|C4 1 [1,3,4,6] a Z<|Ub 2 Z fun R a=>Uc (PtrTo.block (Mem.get o mup) _) U8<|Ue U6<|Ul _ U7<|C4 1 [3,6,26] a Z<|G.cut (fun fr C' e z=>∃ (k:Option Addr)(r:Value)(t:Str),((k=none∨k=some ⟨b,0,none⟩)/\t++bl x=d++(s++if j=0 then bl x else mF 9 x)/\t.length<=9*j+10)/\fr=[(3,[],.pointer (some ⟨b,0,none⟩)),(6,[],ah (bl x))]/\e=[.obj b (.cells ⟨[.pointer k,r]⟩ 354 (0,0)),.arr r 5 1 t.length (u8s t)]) ?_ (fun fr _ av z _ f=>?_)
  ·refine Ud (fun I=>?_) fun I=>?_
   ·have S:0<j:=by
     have:((ls.length-1-j:Nat):Int)<(ls.length:Int)-1:=by simpa using I
     omega
    refine UB [(3,3)] Z fun R a=>Uh 2 Z<|Vb (bl x).length 9 U9 (fun _=>⟨.inr ⟨_,Z⟩,.inl ⟨Z,Z⟩,.inl ⟨Z,Z⟩,by omega,Qj _,Qj _⟩) U2 ?_;rw [show ((([48,48,48,48,48,48,48,48,48]:Str).take 9).drop (bl x).length)=List.replicate (9-(bl x).length) 48 from by rw [show (([48,48,48,48,48,48,48,48,48]:Str).take 9)=List.replicate 9 48 from rfl,List.drop_replicate]];refine D.call (ko _ b q w (d++s) (List.replicate (9-(bl x).length) 48) F ap) Z (.inr dc_) U6 (Qo _) fl_ fun ax _ ay _ ad=>Ug [3,6] a Z ?_;obtain ⟨w1,rfl⟩:=ad;refine Uq 0 mup (hn_ [3,6] Z) ⟨some ⟨b,0,none⟩,w1,_,⟨.inr Z,by rw [aA om_,ac];simp [],by simp;omega⟩,Z,Z⟩
   have S:j=0:=by
    have:¬ ((ls.length-1-j:Nat):Int)<(ls.length:Int)-1:=by simpa using I
    omega
   refine Uq 0 mup (hn_ [3,6] Z) ⟨q,w,d++s,⟨F,by rw [aH S,QO],by simp;omega⟩,Z,Z⟩
  obtain ⟨k ,r ,t,⟨ae,af,az⟩,rfl,rfl⟩:=f;refine UB [(1,3)] Z fun R a=>Ue U6<|D.call (ko _ b k r t (bl x) ae om_) Z (.inr dc_) U6 (Qo _) fl_ fun aB _ aC _ ag=>Vf [] trivial (a _ _ _ Z ?_);obtain ⟨w4,rfl⟩:=ag;rw [af];exact VR (R:=fun e=>∃ (q:Option Addr)(w:Value)(s:Str),((q=none∨q=some ⟨b,0,none⟩)/\KP ls (j+1) s/\s.length<=9*(j+1))/\e=[.obj b (.cells ⟨[.pointer q,w]⟩ 354 (0,0)),.arr w 5 1 (d++s).length (u8s (d++s))]) (Qo _) ⟨some ⟨b,0,none⟩,w4,_,⟨.inr Z,Q,by rw [Qp];split <;> omega⟩,Z⟩
 obtain ⟨q,w,s,⟨F,p,N⟩,rfl⟩:=f;rw [fR] at p;obtain ⟨aD,T,U,aE⟩:0<ls.length/\vB s/\bU s=bB (ls.drop (ls.length-ls.length))/\0<bU s:=p.elim (fun h=>by omega) id;rw [Sy,Ru,K] at U;refine G.perm (L':=[.obj b (.cells ⟨[.pointer q,w]⟩ 354 (0,0)),.arr w 5 1 (d++s).length (u8s (d++s)),.obj bD (.deferred (some []))]) (pkL [1,1,0] Z)<|UB [(0,3)] Z fun R a=>D.call (DZ _ b q w (d++s) (fun h=>T.2.1 (Tv.1 h).2) (by simp;rw [fR] at N;omega)) Z (.inr dc_) U6 (Qo _) fl_ fun aG _ aI _ ai=>C4 1 [2] a Z ?_;obtain ⟨rfl,rfl⟩:=ai;refine Un (Wc (K8 Z Z) ?_);refine ⟨?_,Z⟩;have es:s=bl n:=by rw [<- U];exact oo T
 rw [zZ m n (fun _=>by omega),es,<- g];cases m <;> rfl
theorem sD (a:0<Q):(x+B9*t) / Q=B9*(t / Q)+(x+B9*(t % Q)) / Q/\(x+B9*t) % Q=(x+B9*(t % Q)) % Q:=by
 have h:x+B9*t=(x+B9*(t % Q))+Q*(B9*(t / Q)):=by
  have h1:=Tl t Q;have h2:B9*t=B9*(t % Q)+B9*(Q*(t / Q)):=by rw [<- Rz,h1]
  rw [h2,TV];omega
 rw [h,Te _ _ a,Nat.add_mul_mod_self_left];exact ⟨by omega,Z⟩
theorem mg (a:0<Q)(b:x<B9):(x+B9*(t % Q)) / Q<B9:=by
 rw [Sj a];have h1:=Q2 t a;have h2:B9*(t % Q+1)<=B9*Q:=RL _ h1;rw [Rz] at h2;omega
theorem fy (h:j<l.length):bB (l.drop j)=g9 l j+B9*bB (l.drop (j+1)):=by
 rw [QS h,bB,yI (ak h)]
theorem lj (h:j<l.length):bB ((l.set j x).drop j)=x+B9*bB (l.drop (j+1)):=by
 rw [QS (by simpa using h),bB,List.getElem_set_self,List.drop_set_of_lt om_]
theorem sC (C:Mem)(Y M:Value)(m d:Nat)(ha:NineC C Y m)(hm:m<B9 ^ 200000)(F:Sl C 1 M ([d].map cj))(H:0<d)(hd:d<B9) :
  Pur cx.P 248 [Y,M] C fun u D=>∃ q r,u=.tuple #[q,r]/\NineC D q (m / d)/\NineC D r (m % d):=by
 have aa:NineC C M d:=⟨[d],⟨fun x o=>(by rw [QF.1 o];exact hd),by simp;omega⟩,by show d+B9*0=d;omega,F⟩;have N:=ha;obtain ⟨a,an,ab,aG,O⟩:=ha.get hm;obtain ⟨A0,c0,rfl,_⟩:=id O;obtain ⟨B0,d0,rfl,aH⟩:=id F;simp only [aw,PH] at F aa O N ⊢;have p:=B9v;refine Vv kr_ func248 Z 146 Z Z fun w0=>Uf fun R b=>Uw U6 fun b3=>Uv U5 fun g=>C4 1 [0,3,4,5] b Z<|G.freeze 1 Z fun _ _ K=>Ub 1 Z fun R b=>Uc (PtrTo.block (Mem.get K mup) _) U8<|Uo (pA _ N.m_ aa.m_) U7<|C4 1 [0,3,4,5,17] b Z<|Ud (fun Q=>?_) fun Q=>?_
 ·have S:m<d:=by
   have:jH m d<0:=by simpa using Q
   exact iY.1 this
  refine Ub 1 Z fun R b=>Um (j:=0) U12<|C4 1 [4,5] b Z<|Un (VI (AN af Z Z Z Z Z) ?_ Kc);refine ⟨Z,_,_,Z, ?_, ?_⟩
  ·rw [SH S];exact NineC.zero _
  rw [SZ S];exact N.mono mup
 have S:d<=m:=by
  have h:¬ jH m d<0:=by simpa using Q
  rw [iY] at h;omega
 obtain ⟨n,hn⟩:∃ n,a.length=n:=⟨_,rfl⟩;refine Uf fun R b=>Uc (PtrTo.block (Mem.get K mup) _) U8<|C4 2 [0,3,4,5,21] b Z<|Ud (fun ad=>?_) fun ad=>?_
 ·refine Ub 2 Z fun R b=>Vd U9 (Qj _) (by show 8*a.length<=281474976710656;omega) (by simp only [maxLen];omega) fl_ fun f=>Um (j:=1) U12<|Ug [0,3,4] b Z<|Uf fun R b=>Uv U5 fun k=>Um (j:=0) U12<|Ug [0,3,4,6] b Z<|Ub 1 Z fun R b=>UM (Ce _ A0 a.length c0) U7 fun aI _ _ ao=>Ug [3,4,6,26] b Z ?_;obtain ⟨bb,rfl,ap⟩:=ao;refine Ut (L':=[.obj k (.cells ⟨[.int .u64 ((bB (a.drop (a.length-0)) % d:Nat):Int)]⟩ 160 (0,0)),.obj g (.cells ⟨[qU f a.length a.length]⟩ 305 (0,0)),.arr (qU f a.length a.length) 160 1 a.length ((List.replicate a.length 0).map cj).flatten]) (by rw [<- Ep,S8,Rr,show bB []=0 from Z,Nat.zero_mod];rfl)<|G.rangeFunc Z Z Z kr_ (sX _ bb _ _ a ap O.m_ om_) (fun j e=>∃ (c:List Nat),(c.length=a.length/\Dig9 c/\bB (c.drop (a.length-j))=bB (a.drop (a.length-j)) / d)/\e=[.obj k (.cells ⟨[.int .u64 ((bB (a.drop (a.length-j)) % d:Nat):Int)]⟩ 160 (0,0)),.obj g (.cells ⟨[qU f a.length a.length]⟩ 305 (0,0)),.arr (qU f a.length a.length) 160 1 a.length (c.map cj).flatten]) ⟨List.replicate a.length 0,⟨RK,(fun x o=>by rw [Sn o];decide),by rw [S8,Rr,S6 am];simp [bB]⟩,Z⟩ Z (fun _ _=>rfl) (fun u v=>[(3,[],.pointer (some ⟨b3,0,none⟩)),(4,[],.pointer (some ⟨g,0,none⟩)),(6,[],.pointer (some ⟨k,0,none⟩)),(7,[],u),(8,[],v)]) (fun l u v W1 e=>?_) (fun l j u v e W1 s U=>?_) (fun bD e s=>?_)
  ·exact Ua 1 [3,4,6,7,28] Z<|Ua 1 [3,4,6,7,8] Z<|We ⟨Z,Z,Z,Z,Z,trivial⟩
  ·obtain ⟨c,⟨I,L,B⟩,rfl⟩:=s;have aq:j<a.length:=by have:=(aF.1 U).1;rwa [fR] at this
   rw [vi aq] at U;cases U
   obtain ⟨i,hi⟩:∃ i,a.length-1-j=i:=⟨_,rfl⟩;have ag:a.length-j=i+1:=by omega
   obtain ⟨T,hT⟩:∃ T,bB (a.drop (i+1))=T:=⟨_,rfl⟩;have ar:=kO an.1 i;have aJ:=Q2 T H;have hX:T % d*B9+g9 a i<18446744073709551616:=by
    have:=Ri B9 (show T % d<=999999999 by omega);rw [p] at this ⊢;omega
   rw [hi,ag,hT,show a.getD i 0=g9 a i from rfl];rw [ag,hT] at B;have au:T % d*B9+g9 a i=g9 a i+B9*(T % d):=by rw [Q5,SL]
   have V:=sD (t:=T) (x:=g9 a i) H;have ah:=mg (t:=T) H ar;rw [<- au] at V ah;refine Uf fun R b=>Uj af U9<|D.int (((T % d*B9:Nat):Int)) U4 (by rw [show (1000000000:Int)=((B9:Nat):Int) from Z,<- Rc,IntKind.wrap_u64];omega) U2<|Ue U6<|D.int (((T % d*B9+g9 a i:Nat):Int)) U4 (by rw [IntKind.wrap_u64];omega) U2<|Um (j:=0) U12<|Ug [3,4,6,7] b Z<|G.cut (fun fr C' e W=>(True)/\fr=[]/\e=[.obj k (.cells ⟨[.int .u64 (((T % d*B9+g9 a i) % d:Nat):Int)]⟩ 160 (0,0)),.arr (qU f a.length a.length) 160 1 a.length (aD (c.map cj).flatten [Value.int .u64 (((T % d*B9+g9 a i) / d:Nat):Int)] (i*1)),.obj g (.cells ⟨[qU f a.length a.length]⟩ 305 (0,0))]) ?_ (fun fr aK aL W aM s=>?_)
   ·refine UW (.cut [0,1,2,3,4,5,6,8,9,10,12] (.alt 7 (.fin [11,13,14]) (.alt 13 (.fin [7,11,14]) .stop))) [] Z Z kr_ fun R p b w=>Uj ae U9<|Ue U6<|Uj af U9<|Uc (PtrTo.block (Mem.get K mup) _) U8<|Us F.m_ U10 om_ (rfl:([d].map cj)[(0:Int).toNat]?=some (cj d)) fl_ fun aN av=>Uc av U8<|Vj (T % d*B9+g9 a i) (d) U6 om_ (.inr ⟨Z,by omega⟩) U2<|Uc (PtrTo.block (Mem.get K mup) _) U8<|Us F.m_ U10 om_ (rfl:([d].map cj)[(0:Int).toNat]?=some (cj d)) fl_ fun aO ax=>Uc ax U8<|UI (i*1) U10 ai U2<|UL w Z ⟨?_, ?_,trivial⟩
    ·first | refine VA af U9 ?_ | refine VA ae U9 ?_
     refine U1 (T % d*B9+g9 a i) (d) U6 om_ U2<|UK (j:=2) U11 (by show i*1+1<=_;rw [bR eG,I];omega)<|Um (j:=1) U12<|Vf [] trivial (b _ _ _ Z ?_);clear b p w R;exact Uq 0 (Mem.le.refl _) (fr':=[]) trivial ⟨trivial,Z,Z⟩
    refine UK (j:=2) U11 (by show i*1+1<=_;rw [bR eG,I];omega) ?_
    first | refine VA af U9 ?_ | refine VA ae U9 ?_
    refine U1 (T % d*B9+g9 a i) (d) U6 om_ U2<|Um (j:=1) U12<|Vf [] trivial (b _ _ _ Z ?_);clear b p w R;exact Uq 0 (Mem.le.refl _) (fr':=[]) trivial ⟨trivial,Z,Z⟩
   obtain ⟨_,rfl,rfl⟩:=s;refine G.perm (L':=[.obj k (.cells ⟨[.int .u64 (((T % d*B9+g9 a i) % d:Nat):Int)]⟩ 160 (0,0)),.obj g (.cells ⟨[qU f a.length a.length]⟩ 305 (0,0)),.arr (qU f a.length a.length) 160 1 a.length (aD (c.map cj).flatten [Value.int .u64 (((T % d*B9+g9 a i) / d:Nat):Int)] (i*1))]) (pkL [0,1,0] Z) ?_;have aj:bB (a.drop i)=g9 a i+B9*T:=by rw [fy om_,hT]
   have ay:bB (a.drop (a.length-(j+1))) % d=(T % d*B9+g9 a i) % d:=by rw [show a.length-(j+1)=i by omega,aj,V.2]
   exact Ut (L':=[.obj k (.cells ⟨[.int .u64 ((bB (a.drop (a.length-(j+1))) % d:Nat):Int)]⟩ 160 (0,0)),.obj g (.cells ⟨[qU f a.length a.length]⟩ 305 (0,0)),.arr (qU f a.length a.length) 160 1 a.length ((c.set i ((T % d*B9+g9 a i) / d)).map cj).flatten]) (by rw [ay,<- bO eG _ (by omega:i<c.length)];rfl)<|VR (R:=fun e=>∃ (c:List Nat),(c.length=a.length/\Dig9 c/\bB (c.drop (a.length-(j+1)))=bB (a.drop (a.length-(j+1))) / d)/\e=[.obj k (.cells ⟨[.int .u64 ((bB (a.drop (a.length-(j+1))) % d:Nat):Int)]⟩ 160 (0,0)),.obj g (.cells ⟨[qU f a.length a.length]⟩ 305 (0,0)),.arr (qU f a.length a.length) 160 1 a.length (c.map cj).flatten]) (Qo _) ⟨c.set i ((T % d*B9+g9 a i) / d),⟨by simp [I],L.set ah,by rw [show a.length-(j+1)=i by omega,aj,lj om_,B,V.1];omega⟩,Z⟩
  obtain ⟨c,⟨I,L,B⟩,rfl⟩:=s;rw [fR,Sy,Ru,Ru,ab] at B;rw [fR,Sy,Ru,ab];refine G.freezeArr 3 (c.map cj) rfl rfl (by intro r hr;obtain ⟨y,_,rfl⟩:=Qt.1 hr;rfl) (by rw [aw,I]) fun Cq aP ak=>G.cut (fun fr C' e W=>∃ (E z:Value),(NineC C' E (m / d)/\NineC C' z (m % d))/\fr=[(4,[],.pointer (some ⟨g,0,none⟩)),(5,[],z)]/\e=[.obj g (.cells ⟨[E]⟩ 305 (0,0)),.obj bD (.deferred (some [])),.obj k (.cells ⟨[.int .u64 ((m % d:Nat):Int)]⟩ 160 (0,0))]) ?_ (fun fr aQ aR W aS s=>?_)
  ·refine UW (.cut [0,2] (.alt 1 (.fin [3,4,5,6]) (.alt 3 (.fin [1,4,5,6]) .stop))) [] Z Z kr_ fun R p b w=>Uj ac U9<|Uj ae U9<|UL w Z ⟨?_, ?_,trivial⟩
   ·refine UM (vL _ L ak.m_) U7 fun E az _ A=>Ux [cj (m % d)] U12 fun aA aB _ X=>UH (vL _ (l:=[m % d]) (fun x o=>by rw [QF.1 o];have:=Q2 m H;omega) X.m_) U7 fl_ (fun z aC _ J=>?_);obtain ⟨A7,m7,c7,rfl⟩:=A.form;refine Um (j:=2) U12<|Ue U6<|Ug [4,5] b Z ?_;clear b p w R;rw [show bB [m % d]=m % d from (by show m % d+B9*0=m % d;omega)] at J;rw [B] at A;exact Uq 0 mup (hn_ [4,5] Z) ⟨_,z,⟨A.mono mup,J.mono mup⟩,Z,Z⟩
   refine Ux [cj (m % d)] U12 fun aA aB _ X=>UM (vL _ L ak.m_) U7 fun E az _ A=>UH (vL _ (l:=[m % d]) (fun x o=>by rw [QF.1 o];have:=Q2 m H;omega) X.m_) U7 fl_ (fun z aC _ J=>?_);obtain ⟨A7,m7,c7,rfl⟩:=A.form;refine Um (j:=2) U12<|Ue U6<|Ug [4,5] b Z ?_;clear b p w R;rw [show bB [m % d]=m % d from (by show m % d+B9*0=m % d;omega)] at J;rw [B] at A;exact Uq 0 mup (hn_ [4,5] Z) ⟨_,z,⟨A.mono mup,J.mono mup⟩,Z,Z⟩
  obtain ⟨E,z,⟨al,aE⟩,rfl,rfl⟩:=s;refine G.perm (L':=[.obj bD (.deferred (some [])),.obj g (.cells ⟨[E]⟩ 305 (0,0)),.obj k (.cells ⟨[.int .u64 ((m % d:Nat):Int)]⟩ 160 (0,0))]) (pkL [1,0,0] Z) ?_;obtain ⟨A7,m7,c7,rfl⟩:=al.form;refine Un (Wc (AN af Z Z Z Z Z) ?_);exact ⟨Z,_,_,Z,al,aE⟩
 exact absurd ad dc_
theorem vH (h:Dig9 l)(a:k<=l.length):bB l / B9 ^ k=bB (l.drop k):=by
 have e:bB l=bB (l.take k)+B9 ^ k*bB (l.drop k):=by
  conv=>lhs;rw [<- Rn k l]
  rw [fD,Qz,Ry a]
 have h1:=iP (h.take k);rw [Qz,Ry a] at h1;rw [e,Te _ _ (SK dc_),SH h1,RC]
theorem uD {b a:List Nat}(f:ya b)(c:ya a)(j:0<a.length)(m:a.length<=b.length):bB b / bB a<=bB (b.drop (a.length-1)) / g9 a (a.length-1)/\0<g9 a (a.length-1):=by
 have d:bB (a.drop (a.length-1))=g9 a (a.length-1):=by
  rw [fy om_,show a.length-1+1=a.length by omega,Rr];show _+B9*0=_;omega
 have h1:=vH c.1 (k:=a.length-1) om_;have h2:=vH f.1 (k:=a.length-1) om_;have e:0<g9 a (a.length-1):=by
  rcases RJ (g9 a (a.length-1)) with h | h
  ·have h3:=xe (l:=a) (i:=a.length-1) om_;rw [h] at h3;exact absurd (by rw [Sv];exact h3) c.2
  exact h
 refine ⟨?_,e⟩;rw [<- h2,<- d,<- h1,Nat.div_div_eq_div_mul];have g:0<B9 ^ (a.length-1):=SK dc_;rw [d] at h1;refine Nat.div_le_div_left (Nat.mul_div_le _ _) ?_;rw [h1];exact SV g e
theorem BA (h:l.length=k+1):bB (l.drop k)=g9 l k:=by
 rw [fy om_,show k+1=l.length by omega,Rr];show _+B9*0=_;omega
theorem JL (h:l.length=k+2):bB (l.drop k)=g9 l (k+1)*B9+g9 l k:=by
 rw [fy om_,BA (k:=k+1) om_,Q5];omega
theorem zj (c:ya a)(d:ya b)(h:bB b<=bB a):b.length<=a.length:=by
 rcases QQ a.length b.length with h1 | h1
 ·have:=uv c.1 d h1;omega
 exact h1
theorem xH (c:ya a)(d:ya b)(h:bB a<B9*bB b):a.length<=b.length+1:=by
 have h2:=iP d.1;refine sT c (RB h ?_);rw [Rv,Q5];exact Ri _ (Nat.le_of_lt h2)
theorem jC {f:Nat}(a:m<B9 ^ k)(b:f<B9):m*f<B9 ^ (k+1):=by
 rw [Rv];exact Sg a b
theorem Pg {a:Nat}(h:x<B9*a)(b:a<B9 ^ k):x<B9 ^ (k+1):=by
 rw [Rv,Q5 _ B9];exact Sz h (Nat.mul_lt_mul_of_pos_left b dc_)
theorem KO (l:List Nat):(l.map cj).all (fun r=>r.all nU)=true:=by
 rw [List.all_map,Qx];intro x _;rfl
theorem DM (C:Mem)(va vb:Value)(m n:Nat)(ha:NineC C va m)(hb:NineC C vb n)(hm:m<B9 ^ 100000)(aF:B9<=n) :
  Pur cx.P 248 [va,vb] C fun u D=>∃ q r,u=.tuple #[q,r]/\NineC D q (m / n)/\NineC D r (m % n):=by
 have aG:0<n:=RB dc_ aF;have ac:=ha;have ad:=hb;obtain ⟨B,Q,bD,ag⟩:=hb;obtain ⟨A0,a0,c0,rfl⟩:=ha.form;obtain ⟨B0,d0,rfl,a1,bE,_⟩:=id ag;simp only [aw] at ag ad a1 ⊢;have bF:maxLen<=9223372036854775807:=by simp [maxLen]
 have S:=B9v;have bG:2<=B.length:=by
  rcases QQ B.length 2 with h | h
  ·have h2:=iP Q.1;have h3:B9 ^ B.length<=B9 ^ 1:=QH dc_ om_;rw [Nat.pow_one] at h3;omega
  exact h
 refine Vv kr_ func248 Z 146 Z Z (fun w0=>?_);refine Uf fun R a=>?_;refine Uw U6 (fun b3=>?_);refine Uv U5 (fun e=>?_);refine C4 1 [0,3,4,5] a Z ?_;clear a R;refine Ub 1 Z fun R a=>?_
 skip
 refine Uj ae U9 ?_;refine Uo (pA _ ac.m_ ad.m_) U7 ?_;refine C4 1 [0,3,4,5,17] a Z ?_;clear a R;refine Ud (fun ah=>?_) fun ah=>?_
 ·have U:m<n:=by
   have:jH m n<0:=by simpa using ah
   exact iY.1 this
  refine Ub 1 Z fun R a=>?_;refine Um (j:=0) U12 ?_;refine C4 1 [4,5] a Z ?_;clear a R;refine Un (VI (AN af Z Z Z Z Z) ?_ Kc);refine ⟨Z,_,_,Z, ?_, ?_⟩
  ·rw [SH U];exact NineC.zero _
  rw [SZ U];exact ac.mono mup
 have U:n<=m:=by
  have h:¬ jH m n<0:=by simpa using ah
  rw [iY] at h;omega
 refine Uf fun R a=>?_;refine Uj ae U9 ?_;refine C4 2 [0,3,4,5,21] a Z ?_;clear a R;refine Ud (fun aH=>?_) fun aH=>?_
 ·exact absurd aH ap
 have bH:=kO Q.1 (B.length-1);have a2:(B.map cj)[((B.length:Int)-1).toNat]?=some (cj (g9 B (B.length-1))):=by
  rw [show ((B.length:Int)-1).toNat=B.length-1 by omega];exact jl om_
 obtain ⟨f,hf⟩:∃ f,B9 / (g9 B (B.length-1)+1)=f:=⟨_,rfl⟩;refine Uf fun R a=>?_;refine Uj ae U9 ?_;refine Uj ae U9 ?_;refine Ue U6 ?_;refine Ul _ U7 ?_;refine Us ag.m_ U10 om_ a2 fl_ (fun bI a3=>?_);refine Uc a3 U8 ?_;refine D.int (((g9 B (B.length-1)+1:Nat):Int)) U4 (by rw [IntKind.wrap_u64];omega) U2 ?_;refine Vj (B9) (g9 B (B.length-1)+1) U6 om_ (.inr ⟨Z,by omega⟩) U2 ?_;refine C4 1 [0,3,4,5,9] a Z ?_;clear a R;rw [hf];have w:0<f:=by rw [<- hf];exact Nat.div_pos om_ om_
 have o:f<B9:=by
  rw [<- hf];have h1:=(uD Q Q om_ (Qj _)).2;exact Nat.div_lt_self dc_ om_
 have y:n<B9 ^ 100000:=Re U hm;refine Uy [0,1,3,4,2,5,6,7] [] Z kr_ (fun R S a=>?_);refine Uh 2 Z ?_;refine Uj ae U9 ?_;refine Ue U6 ?_;refine UH (yj (k:=100000) _ ac.m_ hm o om_) U7 fl_ (fun bJ _ _ a4=>?_);refine UH (yj (k:=100000) _ ad.m_ y o om_) U7 fl_ (fun bK _ a5 aI=>?_);refine Ue U6 ?_;obtain ⟨a6,bL,a7,rfl⟩:=aI.form;refine Um (j:=1) U12 ?_;refine Ug [0,3,4,5,9] a Z ?_;clear a S R;have aJ:=a4.mono a5;have aK:=aI;refine G.freeze 0 Z (fun C3 aL v=>?_);obtain ⟨P,a8,ai,bM,aj⟩:=(aJ.mono aL).get (jC hm o);obtain ⟨W,p,z,bN,V⟩:=(aK.mono aL).get (jC y o);obtain ⟨PA,pc,rfl,_⟩:=id aj;obtain ⟨bP,bQ,a9,_⟩:=id V;cases a9
 simp only [aw] at aj V v aJ aK ⊢;have ak:NineC C3 (.slice a6 W.length a7) (n*f):=⟨W,p,z,V⟩;have A:0<n*f:=SV aG w;have al:n*f<B9 ^ 100001:=dz (k:=100001) (n:=100000+1) (jC (k:=100000) y o) (Qj _);have bS:2<=W.length:=by
  have h1:B9<=bB W:=by rw [z];exact QE aF (So _ w)
  rcases QQ W.length 2 with h | h
  ·have h2:=iP p.1;have h3:B9 ^ W.length<=B9 ^ 1:=QH dc_ om_;rw [Nat.pow_one] at h3;omega
  exact h
 have bT:1<=P.length:=by
  rcases RJ P.length with h | h
  ·have:P=[]:=Q1 h;subst this;have h1:m*f=0:=by rw [<- ai];rfl
   have h2:0<m*f:=SV om_ w;omega
  exact h
 have ba:=(uD p p om_ (Qj _)).2;have bU:=kO p.1 (W.length-1);refine Ub 2 Z fun R a=>?_;refine Vd U9 (Qj _) (by show 8*P.length<=281474976710656;omega) (by simp only [maxLen];omega) fl_ (fun d=>?_);refine Um (j:=1) U12 ?_;refine Ug [0,3,4,5,9] a Z ?_;clear a R;refine Uf fun R a=>?_;refine Uc (PtrTo.block (Mem.get v mup) _) U8 ?_;refine Uc (PtrTo.block (Mem.get v mup) _) U8 ?_;refine Ue U6 ?_;refine Ul _ U7 ?_;refine Us V.m_ U10 om_ (by rw [show ((W.length:Int)-1).toNat=W.length-1 by omega];exact jl om_:(W.map cj)[((W.length:Int)-1).toNat]?=some (cj (g9 W (W.length-1)))) fl_ (fun bV bb=>?_);refine Uc bb U8 ?_;refine C4 1 [0,3,4,5,9,10] a Z ?_;clear a R;refine Ub 2 Z fun R a=>?_;refine Ul _ U7 ?_;refine C4 1 [0,3,4,5,9,10,11] a Z ?_;clear a R;refine Ut (L':=[.obj e (.cells ⟨[qU d P.length P.length]⟩ 305 (0,0)),.arr (qU d P.length P.length) 160 1 P.length ((List.replicate P.length 0).map cj).flatten]) (by rw [<- Ep];rfl) ?_;refine G.loop (fun fr C' g E=>∃ (i:Nat)(c:List Nat)(v5:Value),(i<=P.length/\c.length=P.length/\Dig9 c/\bB (c.drop i)=bB (P.drop i) / (n*f)/\NineC C' v5 (bB (P.drop i) % (n*f))/\∀ j,j<i->g9 c j=0)/\fr=[(0,[],.slice PA P.length pc),(3,[],.pointer (some ⟨b3,0,none⟩)),(4,[],.pointer (some ⟨e,0,none⟩)),(5,[],v5),(9,[],.int .u64 f),(10,[],.int .u64 (g9 W (W.length-1))),(11,[],.int .i64 ((i:Int)-1))]/\g=[.obj e (.cells ⟨[qU d P.length P.length]⟩ 305 (0,0)),.arr (qU d P.length P.length) 160 1 P.length (c.map cj).flatten]/\E=i+1) (hn_ [0,3,4,5,9,10,11] Z) ⟨P.length,List.replicate P.length 0,_,⟨Qj _,RK,(fun x hx=>by rw [Sn hx];decide),by rw [Rr,S6 am];simp [bB],by rw [Rr,show bB []=0 from Z,Nat.zero_mod];exact NineC.zero _,fun j _=>BG _ j⟩,Z,Z,Z⟩ (fun fr bW bX m _ F=>?_);obtain ⟨i,c,v5,⟨hi,Y,an,H,aa,ao⟩,rfl,rfl,rfl⟩:=F;refine Ua 2 [0,3,4,5,9,10,11,78] Z ?_;refine Ud (fun aq=>?_) fun aq=>?_
 ·have aM:0<i:=by
   have:(0:Int)<=(i:Int)-1:=by simpa using aq
   omega
  obtain ⟨j,rfl⟩:∃ j,i=j+1:=⟨i-1,by omega⟩;obtain ⟨T,hT⟩:∃ T,bB (P.drop (j+1))=T:=⟨_,rfl⟩;rw [hT] at H aa;have aN:=Q2 T A;obtain ⟨I,bc,bd,bY,aO⟩:=aa.get (m:=100001) (Sz aN (dz (k:=100001) (n:=100000+1) (jC (k:=100000) y o) (Qj _)));obtain ⟨RA,rc,aP,_⟩:=id aO;rw [aw] at aP;subst aP;obtain ⟨X,hX⟩:∃ X,g9 P j+B9*(T % (n*f))=X:=⟨_,rfl⟩;have aQ:=kO a8.1 j;have be:bB (g9 P j::I)=X:=by rw [bB,bd,hX]
  have J:=sD (t:=T) (x:=g9 P j) A;have bf:=mg (t:=T) A aQ;rw [hX] at J bf;have ab:bB (P.drop j)=g9 P j+B9*T:=by rw [fy om_,hT]
  refine UB [(7,3)] Z (fun R a=>?_);refine Uh 2 Z ?_;refine Us aj.m_ U10 om_ (by rw [show ((((j+1:Nat):Int)-1)).toNat=j by omega];exact jl om_:(P.map cj)[((((j+1:Nat):Int)-1)).toNat]?=some (cj (g9 P j))) fl_ (fun bZ bg=>?_);refine Uc bg U8 ?_;refine Vo [cj (g9 P j)] U12 fl_ (fun b0=>?_);refine Ue U6 ?_;refine D.append (j:=0) U11 aO.m_ (KO I) (by simp only [aw,PH,maxLen];omega) (by simp only [aw,PH];omega) fl_ (fun b1=>?_);refine D.call (gt _ _ (g9 P j::I) (n:=1+(I.map cj).length) (by rw [aw];simp;omega)) Z (.inr dc_) U6 (Qo _) fl_ (fun bh bi b2 _ bj=>?_);refine C4 1 [0,3,4,5,9,10,11] a Z ?_;clear a R;obtain ⟨rfl,hu⟩:=bj;have K:NineC bi bh X:=⟨Eo (g9 P j::I),ir (fun x hx=>(Qw.1 hx).elim (fun h=>by rw [h];exact aQ) (bc.1 x)),by rw [iq,be],hu⟩;have aR:X<B9*(n*f):=by
   have h1:B9*(T % (n*f)+1)<=B9*(n*f):=RL _ aN;rw [Rz] at h1;omega
  have aS:X<B9 ^ 100002:=dz (k:=100002) (n:=100001+1) (Pg (k:=100001) aR al) (Qj _);obtain ⟨b,L,ar,b5,au⟩:=K.get aS;obtain ⟨XA,xc,aT,_⟩:=id au;rw [aw] at aT;subst aT;refine Ub 1 Z fun R a=>?_;refine Uc (PtrTo.block (Mem.get v mup) _) U8 ?_;refine Uo (pA _ K.m_ ak.m_) U7 ?_;refine C4 1 [0,3,4,5,9,10,11,92] a Z ?_;clear a R;refine Ud (fun av=>?_) fun av=>?_
  ·have aU:X<n*f:=by
    have:jH X (n*f)<0:=by simpa using av
    exact iY.1 this
   refine Ub 1 Z fun R a=>?_;refine Ul _ U7 ?_;refine C4 1 [0,3,4,5,9,10,11] a Z ?_;clear a R;rw [show ((j+1:Nat):Int)-1-1=(j:Int)-1 by omega];refine Up (m':=j+1) om_ mup (hn_ [0,3,4,5,9,10,11] Z) ⟨j,c,_,⟨by omega,Y,an,by rw [fy (l:=c) om_,ao j om_,H,ab,J.1,SH aU];omega,by rw [ab,J.2,SZ aU];exact K.mono mup,fun j' h=>ao j' om_⟩,Z,Z,Z⟩
  have bk:n*f<=X:=by
   have h:¬ jH X (n*f)<0:=by simpa using av
   rw [iY] at h;omega
  have bl:=zj L p (by rw [ar,z];exact bk);have b6:=xH L p (by rw [ar,z];exact aR);have ax:=(uD L p om_ bl).1;obtain ⟨s,ay⟩:∃ s,bB (b.drop (W.length-1))=s:=⟨_,rfl⟩;rw [ar,z,ay] at ax;have b7:=kO L.1 (b.length-1);have b8:=kO L.1 (b.length-2);refine Ub 3 Z fun R a=>?_;refine Ul _ U7 ?_;refine Us au.m_ U10 om_ (by rw [show ((b.length:Int)-1).toNat=b.length-1 by omega];exact jl om_:(b.map cj)[((b.length:Int)-1).toNat]?=some (cj (g9 b (b.length-1)))) fl_ (fun b9 bm=>?_);refine Uc bm U8 ?_;refine C4 1 [0,3,4,5,9,10,11,12] a Z ?_;clear a R;refine Ub 2 Z fun R a=>?_;refine Uc (PtrTo.block (Mem.get v mup) _) U8 ?_;refine C4 2 [0,3,4,5,9,10,11,12,103] a Z ?_;clear a R;refine G.cut (fun fr C' g E=>(s<1000000000000000000)/\fr=[(0,[],.slice PA P.length pc),(3,[],.pointer (some ⟨b3,0,none⟩)),(4,[],.pointer (some ⟨e,0,none⟩)),(5,[],.slice XA b.length xc),(9,[],.int .u64 f),(10,[],.int .u64 (g9 W (W.length-1))),(11,[],.int .i64 (((j+1:Nat):Int)-1)),(12,[],.int .u64 (s:Nat))]/\g=[.obj e (.cells ⟨[qU d P.length P.length]⟩ 305 (0,0)),.arr (qU d P.length P.length) 160 1 P.length (c.map cj).flatten]) ?_ (fun fr _ ca E _ F=>?_)
  ·refine Ud (fun az=>?_) fun az=>?_
   ·have bn:b.length=W.length-1+2:=by
     have:(W.length:Int)<(b.length:Int):=by simpa using az
     omega
    have M:=JL bn;rw [ay,show W.length-1+1=b.length-1 by omega,show W.length-1=b.length-2 by omega] at M;have bo:g9 b (b.length-1)*B9<=999999999*B9:=Ri _ om_;rw [show 999999999*B9=999999999000000000 from rfl] at bo;refine Ub 1 Z fun R a=>?_;refine D.int (((g9 b (b.length-1)*B9:Nat):Int)) U4 (by rw [show (1000000000:Int)=((B9:Nat):Int) from Z,<- Rc,IntKind.wrap_u64];omega) U2 ?_;refine Uh 3 Z ?_;refine Ul _ U7 ?_;refine Us au.m_ U10 om_ (by rw [show ((b.length:Int)-2).toNat=b.length-2 by omega];exact jl om_:(b.map cj)[((b.length:Int)-2).toNat]?=some (cj (g9 b (b.length-2)))) fl_ (fun cb bp=>?_);refine Uc bp U8 ?_;refine D.int (((s:Nat):Int)) U4 (by rw [M,IntKind.wrap_u64];omega) U2 ?_;refine C4 1 [0,3,4,5,9,10,11,12] a Z ?_;clear a R;refine Uq 0 mup (hn_ [0,3,4,5,9,10,11,12] Z) ⟨by omega,Z,Z⟩
   have bq:b.length=W.length-1+1:=by
    have:¬ (W.length:Int)<(b.length:Int):=by simpa using az
    omega
   have M:=BA bq;rw [ay,show W.length-1=b.length-1 by omega] at M;rw [<- M];refine Uq 0 mup (hn_ [0,3,4,5,9,10,11,12] Z) ⟨by omega,Z,Z⟩
  obtain ⟨cc,rfl,rfl⟩:=F;obtain ⟨N,aA⟩:∃ N,s / g9 W (W.length-1)=N:=⟨_,rfl⟩;rw [aA] at ax;have cd:N<=s:=by rw [<- aA];exact Rp _ _
  refine Ub 2 Z fun R a=>?_;refine Vj (s) (g9 W (W.length-1)) U6 ba (.inr ⟨Z,by omega⟩) U2 ?_;rw [aA];refine D.min (((min N 999999999:Nat):Int)) Z Z Z Z Z Z om_ Z Z ?_;refine C4 1 [0,3,4,5,9,10,11,12] a Z ?_;clear a R;refine Uf fun R a=>?_;refine Uc (PtrTo.block (Mem.get v mup) _) U8 ?_;refine Ue U6 ?_;refine UH (yj (k:=100001) _ ak.m_ al om_ om_) U7 fl_ (fun br _ _ bs=>?_);refine C4 1 [0,3,4,5,9,10,11,12,13] a Z ?_;clear a R;refine G.loop (fun fr C' g E=>∃ (dd:Nat)(aB:Value),(X / (n*f)<=dd/\dd<B9/\NineC C' aB (n*f*dd))/\fr=[(0,[],.slice PA P.length pc),(3,[],.pointer (some ⟨b3,0,none⟩)),(4,[],.pointer (some ⟨e,0,none⟩)),(5,[],.slice XA b.length xc),(9,[],.int .u64 f),(10,[],.int .u64 (g9 W (W.length-1))),(11,[],.int .i64 (((j+1:Nat):Int)-1)),(12,[],.int .u64 (dd:Nat)),(13,[],aB)]/\g=[.obj e (.cells ⟨[qU d P.length P.length]⟩ 305 (0,0)),.arr (qU d P.length P.length) 160 1 P.length (c.map cj).flatten]/\E=dd+1) (hn_ [0,3,4,5,9,10,11,12,13] Z) ⟨min N 999999999,br,⟨by have h:=Nat.le_min.2 ⟨ax,(by omega:X / (n*f)<=999999999)⟩;exact h,by omega,bs.mono mup⟩,Z,Z,Z⟩ (fun fr ce cf m _ F=>?_);obtain ⟨dd,aB,⟨bt,aV,aC⟩,rfl,rfl,rfl⟩:=F;refine Ub 2 Z fun R a=>?_;refine Uo (pA _ aC.m_ K.m_) U7 ?_;refine C4 1 [0,3,4,5,9,10,11,12,13,123] a Z ?_;clear a R;refine Ud (fun aE=>?_) fun aE=>?_
  ·have O:X<n*f*dd:=by
    have:0<jH (n*f*dd) X:=by simpa using aE
    exact F0.1 this
   have bu:1<=dd:=by
    rcases RJ dd with h | h
    ·rw [h] at O;omega
    exact h
   refine Ub 1 Z fun R a=>?_;refine Uc (PtrTo.block (Mem.get v mup) _) U8 ?_;refine UH (uq (k:=100002) _ aC.m_ ak.m_ (dz (k:=100002) (n:=100001+1) (jC (k:=100001) al aV) (Qj _)) (So _ bu) om_) U7 fl_ (fun bv _ _ aW=>?_);refine C4 1 [0,3,4,5,9,10,11,12,13] a Z ?_;clear a R;refine Ub 1 Z fun R a=>?_;refine D.int (((dd-1:Nat):Int)) U4 (by rw [IntKind.wrap_u64];omega) U2 ?_;refine C4 1 [0,3,4,5,9,10,11,12,13] a Z ?_;clear a R;rw [show n*f*dd-n*f=n*f*(dd-1) from by rw [Nat.mul_sub,Sd]] at aW;refine Up (m':=dd-1+1) om_ mup (hn_ [0,3,4,5,9,10,11,12,13] Z) ⟨dd-1,bv,⟨by have h:=(Sj A).2 (by rw [Q5];exact O);omega,by omega,aW.mono mup⟩,Z,Z,Z⟩
  have O:n*f*dd<=X:=by
   have h:¬ 0<jH (n*f*dd) X:=by simpa using aE
   rw [F0] at h;omega
  have aX:dd=X / (n*f):=Nat.le_antisymm ((Nat.le_div_iff_mul_le A).2 (by rw [Q5];exact O)) bt;have bw:X-n*f*dd=X % (n*f):=by rw [aX];have:=Tl X (n*f);omega
  refine Uy [0,1,2,3,4,5,6,7,8] [] Z kr_ (fun R S a=>?_);refine Uj af U9 ?_;refine Uh 4 Z ?_;refine UH (uq (k:=100002) _ K.m_ aC.m_ aS O om_) U7 fl_ (fun bx _ _ aY=>?_);refine UI (j*1) U10 (fun _=>⟨by omega,by omega,(by rw [show (((j+1:Nat):Int)-1).toNat=j by omega])⟩) U2 ?_;refine UK (j:=1) U11 (by show j*1+1<=_;rw [bR eG,Y];omega) ?_;refine Ue U6 ?_;refine Ug [0,3,4,5,9,10,11] a Z ?_;clear a S R;refine Ub 1 Z fun R a=>?_;refine Ul _ U7 ?_;refine C4 1 [0,3,4,5,9,10,11] a Z ?_;clear a R;rw [show ((j+1:Nat):Int)-1-1=(j:Int)-1 by omega];refine G.perm (L':=[.obj e (.cells ⟨[qU d P.length P.length]⟩ 305 (0,0)),.arr (qU d P.length P.length) 160 1 P.length (aD (c.map cj).flatten (cj dd) (j*1))]) (List.Perm.swap _ _ _) ?_;refine Ut (L':=[.obj e (.cells ⟨[qU d P.length P.length]⟩ 305 (0,0)),.arr (qU d P.length P.length) 160 1 P.length ((c.set j dd).map cj).flatten]) (by rw [<- bO eG _ (by omega:j<c.length)]) ?_;rw [bw] at aY;refine Up (m':=j+1) om_ mup (hn_ [0,3,4,5,9,10,11] Z) ⟨j,c.set j dd,bx,⟨by omega,by simp [Y],an.set aV,by rw [lj om_,H,ab,J.1,aX];omega,by rw [ab,J.2];exact aY.mono mup,fun j' h=>by rw [pW om_];exact ao j' om_⟩,Z,Z,Z⟩
 have aM:i=0:=by
  have:¬ (0:Int)<=(i:Int)-1:=by simpa using aq
  omega
 subst aM;rw [Ru,Ru,ai,Nat.mul_div_mul_right _ _ w] at H;rw [Ru,ai,Nat.mul_mod_mul_right] at aa;refine Ub 2 Z fun R a=>?_;refine Ux [cj f] U12 (fun cg _ _ bz=>?_);refine UH (sC _ _ _ (m % n*f) f aa.m_ (by
  have h1:=jC (k:=100000) (Sz (Q2 m aG) y) o;exact dz (k:=200000) (n:=100000+1) h1 dc_) bz.m_ w o) U7 fl_ (fun ch _ _ bA=>?_)
 obtain ⟨q2,r2,rfl,aZ,ci⟩:=bA;rw [Nat.mul_div_cancel _ w] at aZ;refine C4 4 [4,5] a Z ?_;clear a R;refine G.perm (L':=[.arr (qU d P.length P.length) 160 1 P.length (c.map cj).flatten,.obj e (.cells ⟨[qU d P.length P.length]⟩ 305 (0,0))]) (List.Perm.swap _ _ _) ?_;refine UB [(1,3)] Z (fun R a=>?_);refine Uj ae U9 ?_;refine D.call (gt _ _ c Y) Z (.inr dc_) U6 (Qo _) fl_ (fun ck _ cl _ bC=>?_);refine Ue U6 ?_;obtain ⟨rfl,hu⟩:=bC;obtain ⟨Au,cu,rfl,_⟩:=id hu;refine Um (j:=0) U12 ?_;refine C4 1 [4,5] a Z ?_;clear a R;refine Un (VI (AN af Z Z Z Z Z) ?_ Kc);exact ⟨Z,_,_,Z,⟨Eo c,ir an,by rw [iq,H],hu⟩,aZ.mono mup⟩
theorem xl (C:Mem)(a b:Value)(m n:Nat)(g:NineC C a m)(h:NineC C b n)(i:m<B9 ^ 100000)(f:0<n) :
  Pur cx.P 248 [a,b] C fun u D=>∃ q r,u=.tuple #[q,r]/\NineC D q (m / n)/\NineC D r (m % n):=by
 rcases QQ n B9 with c | c
 ·obtain ⟨l,h1,h2,h3,h4⟩:=h.get (m:=1) (by rw [Nat.pow_one];exact c);have j:l≠[]:=fun e=>by rw [e] at h2;rw [<- h2] at f;exact absurd f dc_
  obtain ⟨d,rfl⟩:∃ d,l=[d]:=by
   cases l with
   | nil=>exact absurd rfl j
   | cons d l=>cases l with
    | nil=>exact ⟨d,rfl⟩
    | cons e l=>simp at h3
  have o:d=n:=by rw [<- h2];show d=d+B9*0;omega
  subst o;exact sC C a b m d g (dz (k:=200000) (n:=100000) i dc_) h4 f c
 exact DM C a b m n g h i c
theorem JZ (C:Mem)(s:Str)(c:UInt8):Gives cx.P 249 [ah s,ah [c]] C (.bool (cM c s).2):=by
 exact Uk func249 8 U3 fun w0=>Ua 1 [0,1] Z<|Ub 2 Z fun R a=>Uo (yG _ s c) U7<|C4 1 [4] a Z<|Ui U2<|⟨Z,Z⟩
theorem EM (C:Mem)(s:Str)(c:UInt8):Gives cx.P 266 [ah s,ah [c]] C (ah (cM c s).1):=by
 refine Uk func266 13 U3 fun w0=>Ua 1 [0,1] Z<|Ub 2 Z fun R d=>Uo (yG _ s c) U7<|Ug [0,1,7] d Z<|Ud (fun a=>?_) fun a=>?_
 ·have h:s.head?=some c:=QM fun h=>by unfold cM at a;rw [aA h] at a;cases a
  have e:1<=s.length:=by cases s with
   | nil=>cases h
   | cons b s=>simp
  refine Ub 3 Z fun R d=>Vb 1 s.length U9 (fun _=>⟨.inr ⟨_,Z⟩,.inl ⟨Z,Z⟩,.inl ⟨Z,Z⟩,by omega,Qj _,Qj _⟩) U2<|C4 1 [4] d Z<|Ui U2 ?_;unfold cM;rw [aH h];refine ⟨?_,Z⟩;rw [Qv,List.drop_one];rfl
 have h:¬ s.head?=some c:=fun h=>by unfold cM at a;rw [aH h] at a;cases a
 refine Ua 2 [4] Z<|Ui U2 ?_;unfold cM;rw [aA h];exact ⟨Z,Z⟩
theorem Aa (C:Mem)(s:Str)(c:UInt8):Gives cx.P 232 [ah s,ah [c]] C (ah (cM c s).1):=by
 exact Uk func232 8 U3 fun w0=>Ua 1 [0,1] Z<|Ub 2 Z fun R a=>Uo (EM _ s c) U7<|C4 1 [4] a Z<|Ui U2<|⟨Z,Z⟩
def eL (z:Int):Int:=if z<0 then -1 else if z=0 then 0 else 1
theorem lT (C:Mem)(z:Int):Gives cx.P 209 [ah (txt z)] C (.int .i64 (eL z)):=by
 refine Uk func209 9 U3 fun w0=>Ua 1 [0] Z ?_
 skip
 refine Ua 3 [0,3] Z<|Ud (fun h3=>?_) fun h3=>?_
 ·have b:z=0:=by
   have h:=lk z;rw [h] at h3;exact aV h3
  exact Ua 1 [2] Z<|Ui U2<|⟨by rw [b];rfl,Z⟩
 have b:z≠0:=by
  have h:=lk z;rw [h] at h3;exact Qm h3
 refine Ub 1 Z fun R d=>Uo (JZ _ (txt z) 45) U7<|C4 1 [6] d Z<|Ud (fun a=>?_) fun a=>?_
 ·have c:z<0:=by
   rw [dC] at a;exact aV a
  exact Ua 1 [2] Z<|Ui U2<|⟨by rw [eL,aH c],Z⟩
 have c:¬ z<0:=by
  rw [dC] at a;exact Qm a
 exact Ua 1 [2] Z<|Ui U2<|⟨by rw [eL,aA c,aA b],Z⟩
theorem sh (C:Mem)(a:Tabs C)(z:Int)(b:-9223372036854775808<=z)(c:z<=9223372036854775807):Gives cx.P 79 [.int .i64 z] C (ah (txt z)):=by
 exact Uk func79 5 U3 fun w0=>Ua 1 [0] Z<|Ub 1 Z fun R d=>Uo (ji _ a.m_ z b c) U7<|C4 1 [2] d Z<|Ui U2<|⟨Z,Z⟩
theorem mK (z:Int):(txt z).length<=(bl z.natAbs).length+1:=by unfold txt;split <;> simp
theorem uy (C:Mem)(z:Int)(e:(bl z.natAbs).length<=1000000):Gives cx.P 210 [ah (txt z)] C (ah (txt (-z))):=by
 have f:=mK z;refine Uk func210 14 U3 fun w0=>Ua 1 [0] Z<|Ub 1 Z fun R a=>Uo (lT _ z) U7<|Ug [0,4] a Z<|Ua 2 [0,4,5] Z<|Ud (fun h5=>?_) fun h5=>?_
 ·have d:0<z:=by
   have h:eL z=1:=by simpa using h5
   unfold eL at h;split at h
   ·cases h
   split at h
   ·cases h
   omega
  refine Ub 1 Z fun R a=>Va U6 (fun _=>(by simp only [QC,QW];omega)) U2<|C4 1 [2] a Z<|Ui U2<|⟨?_,Z⟩;unfold txt;rw [aA om_,aH om_,Tr];rfl
 have d:¬ 0<z:=fun h=>by
  have h2:eL z=1:=by unfold eL;rw [aA om_,aA om_]
  rw [h2] at h5;cases h5
 refine Ua 2 [0,9] Z<|Ud (fun b=>?_) fun b=>?_
 ·have c:z<0:=by
   have h:eL z=-1:=by simpa using b
   unfold eL at h;split at h
   ·assumption
   split at h <;> cases h
  refine Ub 1 Z fun R a=>Vb 1 (txt z).length U9 (fun _=>⟨.inr ⟨_,Z⟩,.inl ⟨Z,Z⟩,.inl ⟨Z,Z⟩,(by unfold txt;rw [aH c];simp),Qj _,Qj _⟩) U2<|C4 1 [2] a Z<|Ui U2<|⟨?_,Z⟩;rw [Qv];unfold txt;rw [aH c,aA om_,Tr];rfl
 have c:¬ z<0:=fun h=>by
  have h2:eL z=-1:=by unfold eL;rw [aH h]
  rw [h2] at b;cases b
 refine Ua 2 [2] Z<|Ui U2<|⟨?_,Z⟩;rw [show z=0 by omega];rfl
theorem Hy:∀ {s t:Str},(∀ c∈s,eP c=true)->(∀ c∈t,eP c=true)->s.length=t.length->Lib.compareBytes s t=jH (bU s) (bU t)
 | [],[],_,_,_=>rfl
 | [],_::_,_,_,h=>by simp at h
 | _::_,[],_,_,h=>by simp at h
 | c::s,d::t,hs,g,k=>by
  have e:s.length=t.length:=by simpa using k
  have i:∀ x∈s,eP x=true:=fun x f=>hs x (by simp [f]);have j:∀ x∈t,eP x=true:=fun x f=>g x (by simp [f]);have l:=Hy i j e;have h1:=dU i;have h2:=dU j;have m:=hs c am;have n:=g d am;simp only [eP,Qs] at m n;rw [dD,dD,e];rw [e] at h1;simp only [Lib.compareBytes];obtain ⟨p,o⟩:∃ p,10 ^ t.length=p:=⟨_,rfl⟩;rw [o] at h1 h2 ⊢;by_cases a:c<d
  ·rw [aH a];have r:c.toNat<d.toNat:=a;have h3:(c.toNat-48+1)*p<=(d.toNat-48)*p:=Ri _ om_;rw [R8] at h3;unfold jH;rw [aH om_]
  rw [aA a];by_cases b:d<c
  ·rw [aH b];have u:d.toNat<c.toNat:=b;have h3:(d.toNat-48+1)*p<=(c.toNat-48)*p:=Ri _ om_;rw [R8] at h3;unfold jH;rw [aA om_,aH om_]
  rw [aA b,l];have q:c.toNat=d.toNat:=by
   have h3:¬ c.toNat<d.toNat:=a;have h4:¬ d.toNat<c.toNat:=b;omega
  rw [q];unfold jH;split <;> rename_i h5
  ·rw [aH om_]
  split <;> rename_i v
  ·rw [aA om_,aH om_]
  rw [aA om_,aA om_]
theorem qq {a b:Nat}(h:(bl a).length<(bl b).length):a<b:=by
 obtain ⟨h1,h2⟩:=bC a;obtain ⟨h3,h4⟩:=bC b;have c:=Q3.2 h1.2.1;have h5:=dU h1.1;have d:=om h3 om_;have e:10 ^ (bl a).length<=10 ^ ((bl b).length-1):=QH dc_ om_;omega
theorem NL {a b:Nat}(h:(bl a).length=(bl b).length):Lib.compareBytes (bl a) (bl b)=jH a b:=by
 obtain ⟨h1,h2⟩:=bC a;obtain ⟨h3,h4⟩:=bC b;rw [Hy h1.1 h3.1 h,h2,h4]
def vz (z w:Int):Int:=if z<w then -1 else if w<z then 1 else 0
theorem eo (z:Int):(z<0/\eL z=-1)∨(z=0/\eL z=0)∨(0<z/\eL z=1):=by
 unfold eL;split
 ·exact .inl ⟨by assumption,Z⟩
 split
 ·exact .inr (.inl ⟨by assumption,Z⟩)
 exact .inr (.inr ⟨by omega,Z⟩)
theorem zf (h:eL z=eL w):vz z w=eL z*jH z.natAbs w.natAbs:=by
 have a:=eo w;rw [<- h] at a;unfold vz jH;rcases eo z with ⟨h1,h2⟩ | ⟨h1,h2⟩ | ⟨h1,h2⟩ <;> rw [h2] at a ⊢
 ·have h3:w<0:=by omega
  split <;> split <;> (try split) <;> omega
 ·have h3:w=0:=by omega
  subst h1 h3;simp
 have h3:0<w:=by omega
 split <;> split <;> (try split) <;> omega
theorem IS (z:Int):IntKind.i64.wrap (-(eL z))=-(eL z):=by
 rcases eo z with ⟨h1,h2⟩ | ⟨h1,h2⟩ | ⟨h1,h2⟩ <;> rw [h2] <;> rfl
theorem E0 (C:Mem)(a b:Str):Gives cx.P 233 [ah a,ah b] C (.int .i64 (Lib.compareBytes a b)):=yp Tryz.scmp a b C kr_
theorem pT (C:Mem)(z w:Int)(_m:(bl z.natAbs).length<=1000000)(_n:(bl w.natAbs).length<=1000000):Gives cx.P 161 [ah (txt z),ah (txt w)] C (.int .i64 (vz z w)):=by
 have ez:(cM 45 (txt z)).1=bl z.natAbs:=by rw [dC]
 have j:(cM 45 (txt w)).1=bl w.natAbs:=by rw [dC]
 refine Uk func161 41 U3 fun w0=>Ua 1 [0,1] Z<|Ub 1 Z fun R b=>Uo (lT _ z) U7<|Ue U6<|Uo (lT _ w) U7<|C4 2 [0,1,5,6] b Z<|Ua 3 [0,1,5,6,15] Z<|Ud (fun c=>?_) fun c=>?_
 ·have k:eL z≠eL w:=by simpa using c
  refine Ua 3 [18] Z<|Ud (fun d=>?_) fun d=>?_
  ·have a:eL z<eL w:=by simpa using d
   refine Ua 1 [4] Z<|Ui U2<|⟨?_,Z⟩;rw [vz,aH (by unfold eL at a;split at a <;> split at a <;> (try split at a) <;> omega)]
  have a:¬ eL z<eL w:=by simpa using d
  refine Ua 1 [4] Z<|Ui U2<|⟨?_,Z⟩;have h:w<z:=by
   have h2:eL w<eL z:=by omega
   unfold eL at h2;split at h2 <;> split at h2 <;> (try split at h2) <;> omega
  rw [vz,aA om_,aH h]
 have f:eL z=eL w:=by simpa using c
 refine Ub 1 Z fun R b=>Uo (Aa _ (txt z) 45) U7<|Ue U6<|Uo (Aa _ (txt w) 45) U7 ?_;rw [ez,j];refine C4 2 [5,7,8] b Z<|Ua 5 [5,7,8,27] Z<|Ud (fun g=>?_) fun g=>?_
 ·have k:(bl z.natAbs).length≠(bl w.natAbs).length:=fun e=>by
   have h:(((bl z.natAbs).length:Nat):Int)≠(((bl w.natAbs).length:Nat):Int):=by simpa using g
   exact h (by rw [e])
  refine Ua 5 [5,32] Z<|Ud (fun i=>?_) fun i=>?_
  ·have a:z.natAbs<w.natAbs:=qq (by
    have h:(((bl z.natAbs).length:Nat):Int)<(((bl w.natAbs).length:Nat):Int):=by simpa using i
    omega)
   refine Ua 3 [4] Z<|Ui U2<|⟨?_,Z⟩;rw [Int.zero_sub,IS,zf f,show jH z.natAbs w.natAbs=-1 from aH a];congr 1;omega
  have a:w.natAbs<z.natAbs:=qq (by
   have h:¬ (((bl z.natAbs).length:Nat):Int)<(((bl w.natAbs).length:Nat):Int):=by simpa using i
   omega)
  refine Ua 2 [4] Z<|Ui U2<|⟨?_,Z⟩;rw [zf f,show jH z.natAbs w.natAbs=1 from by unfold jH;rw [aA om_,aH a]];congr 1;omega
 have l:(bl z.natAbs).length=(bl w.natAbs).length:=by
  have h:(((bl z.natAbs).length:Nat):Int)=(((bl w.natAbs).length:Nat):Int):=by simpa using g
  omega
 refine Ub 3 Z fun R b=>Uo (E0 _ (bl z.natAbs) (bl w.natAbs)) U7 ?_;rw [NL l];refine UN ((vz z w)) U4 (by rw [zf f]) (by unfold vz;split <;> (try split) <;> omega) (by unfold vz;split <;> (try split) <;> omega) U2 ?_
 exact C4 1 [4] b Z<|Ui U2<|⟨Z,Z⟩
def qF (b:Bool):Int:=if b then 0 else 2
theorem xa (C:Mem)(s:Str):Gives cx.P 207 [ah s] C (.int .i64 (qF (cK s))):=by
 obtain ⟨t,neg,p⟩:∃ t b,cM 45 s=(t,b):=⟨_,_,rfl⟩;have g:cK s=(t.all eP && !(t == []) && !(t.head? == some 48 && (neg || decide (1<t.length))) && decide (t.length<=200)):=by unfold cK xF;rw [p]
 refine Uk func207 47 U3 fun w0=>Ua 1 [0] Z<|Ub 1 Z fun R a=>Ur (by have h:=Hs C s 45;rw [p] at h;exact h) U7 fl_<|C4 5 [3,4] a Z<|Ub 6 Z fun R a=>UF U8<|Uh 2 Z<|UZ (b:=t.headD 0) U8 (fun r=>⟨by omega,(by
  cases t with
  | nil=>exact Bool.noConfusion (show true=false from r.1)
  | cons b t=>rfl)⟩) U2 ?_
 refine Uh 7 Z<|UF U8<|UD U8<|UF U8<|Ug [3,30] a Z<|Ud (fun d=>?_) fun d=>?_
 ·have j:cK s=false:=by
   rw [g];cases t with
   | nil=>simp
   | cons b t =>
    simp at d;rcases d with h | ⟨h,h2⟩
    ·simp;intro _ _;omega
    have e:b=48:=TF.1 (by show b.toNat=48;omega);subst e;have u:(neg || decide (1<((48:UInt8)::t).length))=true:=by
     rcases h2 with h2 | h2
     ·rw [QD ap];simp
     rw [h2];rfl
    rw [u];simp
  exact Ua 1 [2] Z<|Ui U2<|⟨by rw [j];rfl,Z⟩
 have v:t.length<=200:=by
  simp at d;omega
 refine Ua 3 [3,32,33] Z<|G.loop (fun fr C' w y=>∃ (i:Nat),(i<=t.length/\∀ c∈t.take i,eP c=true)/\fr=[(3,[],ah t),(32,[],.int .i64 t.length),(33,[],.int .i64 i)]/\w=[]/\y=t.length-i) (hn_ [3,32,33] Z) ⟨0,⟨Qn _,by simp⟩,Z,Z,Z⟩ (fun fr E F m _ z=>?_);obtain ⟨i,⟨H,k⟩,rfl,rfl,rfl⟩:=z;refine Ua 1 [3,32,33,34] Z<|Ud (fun l=>?_) fun l=>?_
 ·have n:i<t.length:=by simpa using l
  obtain ⟨c,f⟩:∃ c,t[i]?=some c:=⟨t[i],ak n⟩;refine Ua 2 [3,5,32,33] Z<|Ub 2 Z fun R a=>UZ U8 (fun _=>⟨by omega,f⟩) U2<|Uh 4 Z<|UZ U8 (fun _=>⟨by omega,f⟩) U2<|Ue U6<|UF U8<|Ug [3,32,33,45] a Z<|Ud (fun o=>?_) fun o=>?_
  ·have j:cK s=false:=by
    have h1:t.all eP=false:=by
     rw [SC];refine ⟨c,Qi f, ?_⟩;simp at o;unfold eP;simp;omega
    rw [g,h1];rfl
   exact Ua 1 [2] Z<|Ui U2<|⟨by rw [j];rfl,Z⟩
  have A:eP c=true:=by
   simp at o;unfold eP;simp;omega
  refine Uf fun R a=>Ul _ U7<|C4 1 [3,32,33] a Z<|Up (m':=t.length-(i+1)) om_ mup (hn_ [3,32,33] Z) ⟨i+1,⟨by omega,fun x q=>by
   rw [QJ,f] at q;rcases Qy.1 q with h | h
   ·exact k x h
   simp at h;subst h;exact A⟩,rfl,rfl,rfl⟩
 have n:t.length<=i:=by
  have:¬ i<t.length:=by simpa using l
  omega
 rw [Q0 n] at k;have B:t.all eP=true:=Qx.2 k;have D:cK s=true:=by
  rw [g,B,QD v];cases t with
  | nil=>simp at d
  | cons b t =>
   simp at d;simp;by_cases e:b=48
   ·subst e;have h5:=d.2;simp at h5;exact .inr ⟨h5.2,Q1 om_⟩
   exact .inl e
 exact Ua 1 [2] Z<|Ui U2<|⟨by rw [D];rfl,Z⟩
end Go.Proofs.YthnpijdjlddpmaaGreatDoor
