/- Laws that the proofs of this seat share, part 12. -/
import Derived.Test.YtfjcldheldflbaaGreatDoorG11
import Derived.Test.YtfjcldheldflbaaGreatDoorShelf
set_option maxHeartbeats 4000000
namespace Go.Proofs.YtfjcldheldflbaaGreatDoor
open Go.Proofs.Tryz
open Go Go.Jog
set_option maxRecDepth 100000
variable {C:Mem}{N b:Nat}{bf fs:List Rat}{i j:Nat}{k:Rat}{l:Lp.Line}{ls:List (Rat × Value)}{n:Nat}{o:Int}{p:Lp.Sys}{q:Nat}{r:List Str × Str}{rows:List (List Str × Str)}{s:Nat}{t:Lp.Tab}{v:Nat}{vs:List Value}{wB:Value}{wF:Nat->Value}{wL wO wW:Value}
def RowsT (C:Mem)(v:Value)(rows:List (List Str × Str)):Prop:=∃ vs:List Value,vs.length=rows.length/\(∀ (i:Nat)(w:Value)(r:List Str × Str),vs[i]?=some w->rows[i]?=some r->Sl C 1 w (r.1.map yH))/\Sl C 2 v (List.zipWith (fun w (r:List Str × Str)=>[w,ah r.2]) vs rows)
theorem RowsT.mono {C D:Mem}{v:Value}{a:List (List Str × Str)}(h:RowsT C v a)(b:C.le D):RowsT D v a:=by
 obtain ⟨vs,h1,h2,h3⟩:=h;exact ⟨vs,h1,fun i w r c hr=>(h2 i w r c hr).mono b,h3.mono b⟩
theorem RowsT.m_ {D:Mem}{v:Value}(h:RowsT C v rows)(a:C.le D:=by exact mup):RowsT D v rows:=RowsT.mono h a
theorem DF {w:Value}(a:vs[i]?=some w)(b:rows[i]?=some r):(List.zipWith (fun w (r:List Str × Str)=>[w,ah r.2]) vs rows)[i]?=some [w,ah r.2]:=by
 rw [List.getElem?_zipWith,a,b]
theorem sS (h:vs.length=rows.length):(List.zipWith (fun w (r:List Str × Str)=>[w,ah r.2]) vs rows).length=rows.length:=by simp [h]
def Ez (n:Int)(r:List Str × Str):Int:=if iY n r.1≠0 then iY n r.1 else nC (aV r.2)
def tw (n:Int):List (List Str × Str)->Int
 | []=>0
 | r::l=>if Ez n r≠0 then Ez n r else tw n l
def Hq (n:Int)(rows:List (List Str × Str))(obj:List Str):Int:=if n<0∨60<n then 3 else if 300<rows.length then 4 else if iY n obj≠0 then iY n obj else tw n rows
def Pv (rows:List (List Str × Str)):Prop:=∀ r∈rows,(∀ s∈r.1,s.length<=999998)/\r.2.length<=999998
theorem vV (C:Mem)(p:Tabs C)(n:Int)(E F:Value)(a:List (List Str × Str))(c:List Str)(M:RowsT C E a)(q:Sl C 1 F (c.map yH))(H:Pv a)(N:∀ s∈c,s.length<=999998) :
  Gives cx.P 73 [.agg ⟨[.int .i64 n,E,F]⟩] C (.int .i64 (Hq n a c)):=by
 obtain ⟨vs,O,Q,t⟩:=M;obtain ⟨S,c0,rfl,T,ad,_⟩:=id t;obtain ⟨A1,c1,rfl,U,ae,_⟩:=id q;have af:maxLen<=9223372036854775807:=by simp [maxLen]
 simp only [sS O,am] at t q T U ⊢;refine Tk func73 48 U3 fun w0=>Tf fun R b=>Tv U6 fun b1=>C6 1 [1] b Z<|G.freeze 0 Z fun _ _ d=>Tc 1 Z fun R b=>Td (bkT d 1) U8<|Tg 3 Z<|TF U6 (fun _=>PtrTo.blockT (Mem.get d mup) _ 1) U3<|Te U6<|TN U8<|C6 1 [1,7] b Z<|G.cd (fun u=>?_) fun u=>?_
 ·have f:n<0∨60<n:=by
   simp only [Ro,PI] at u;omega
  exact Tb 1 [2] Z<|Tl U2<|⟨by unfold Hq;rw [aL f],Z⟩
 have f:¬ (n<0∨60<n):=by
  simp only [Rc,P3] at u;omega
 refine Tc 1 Z fun R b=>Td (bkT d 1) U8<|C6 3 [1,16] b Z<|G.cd (fun v=>?_) fun v=>?_
 ·have g:300<a.length:=by
   have:=OQ v;omega
  exact Tb 1 [2] Z<|Tl U2<|⟨by unfold Hq;rw [aF f,aL g],Z⟩
 have g:¬ 300<a.length:=by
  have:=PE v;omega
 refine Tc 1 Z fun R b=>Td (bkT d 1) U8<|Te U6<|Td (bkT d 1) U8<|To (Av _ p.m_ _ n c q.m_ N) U7<|C6 1 [1,3] b Z<|Tb 2 [1,3,27] Z<|G.cd (fun x=>?_) fun x=>?_
 ·have y:iY n c≠0:=by simpa using x
  exact Tb 2 [2] Z<|Tl U2<|⟨by unfold Hq;rw [aF f,aF g,aL y],Z⟩
 have y:¬ iY n c≠0:=by simpa using x
 have z:Hq n a c=tw n a:=by unfold Hq;rw [aF f,aF g,aF y]
 refine Tc 1 Z fun R b=>Td (bkT d 1) U8<|C6 2 [1,30,31,32] b Z<|G.loop (fun fr C' V W=>∃ (i:Nat),(i<=a.length/\tw n a=tw n (a.drop i))/\fr=[(1,[],.pointer (some ⟨b1,0,none⟩)),(30,[],.slice S a.length c0),(31,[],.int .i64 a.length),(32,[],.int .i64 i)]/\V=[]/\W=a.length-i) (hn_ [1,30,31,32] Z) ⟨0,⟨PG _,Z⟩,Z,Z,Z⟩ (fun fr ag ah m _ X=>?_);obtain ⟨i,⟨hi,e⟩,rfl,rfl,rfl⟩:=X;refine Tb 1 [1,30,31,32,33] Z<|G.cd (fun A=>?_) fun A=>?_
 ·have h:i<a.length:=by
   have:=OQ A;omega
  obtain ⟨r,k⟩:∃ r,a[i]?=some r:=⟨a[i],al h⟩;obtain ⟨w,I⟩:∃ w,vs[i]?=some w:=⟨vs[i]'om_,al _⟩;have J:=Px k;have K:=Q i w r I k;obtain ⟨Aw,cw,rfl,_⟩:=id K;have Y:a.drop i=r::a.drop (i+1):=PW h |>.trans (by rw [(aJ.1 k).2]);rw [Y] at e;simp only [tw] at e;refine Tf fun R b=>Tt t.m_ U10 om_ (DF I k) fl_ fun ai aa=>Td aa U8<|Tq U5 fun b5=>Tj (j:=0) U12<|Th [1,5,30,31,32] b Z<|G.freeze 0 Z fun _ _ L=>Tc 1 Z fun R b=>Td (bkT L 1) U8<|Te U6<|Td (bkT d 1) U8<|To (Av _ p.m_ _ n r.1 K.m_ (H r J).1) U7<|C6 1 [1,5,6,30,31,32] b Z<|Tb 2 [1,5,6,30,31,32,42] Z<|G.cd (fun B=>?_) fun B=>?_
  ·have l:iY n r.1≠0:=by simpa using B
   have o:Ez n r=iY n r.1:=by unfold Ez;rw [aL l]
   exact Tb 2 [2] Z<|Tl U2<|⟨by rw [z,e,o,aL l],Z⟩
  have l:¬ iY n r.1≠0:=by simpa using B
  have o:Ez n r=nC (aV r.2):=by unfold Ez;rw [aF l]
  refine Tc 1 Z fun R b=>Td (bkT L 1) U8<|To (oV _ p.m_ r.2 (H r J).2) U7<|Th [1,30,31,32,46] b Z<|G.cd (fun D=>?_) fun D=>?_
  ·have ab:aV r.2=false:=by simpa using D
   exact Tb 1 [2] Z<|Tl U2<|⟨by rw [z,e,o,ab];rfl,Z⟩
  have ac:aV r.2=true:=by simpa using D
  refine Tf fun R b=>Tm _ U7<|C6 1 [1,30,31,32] b Z<|Tp (m':=a.length-(i+1)) om_ mup (hn_ [1,30,31,32] Z) ⟨i+1,⟨by omega,by rw [e,o,ac];rfl⟩,Z,Z,Z⟩
 have h:i=a.length:=by
  have:=PE A;omega
 exact Tb 1 [2] Z<|Tl U2<|⟨by rw [z,e,h,QA];rfl,Z⟩
theorem tL {a b:Rat}{k m:Nat}(c:QB k a)(d:QB m b):QB (k+m) (a*b):=by
 rw [gr];refine gT (Nat.mul_ne_zero a.den_nz b.den_nz) ?_ ?_
 ·rw [Q7,Sq];exact Rs c.1 d.1
 rw [Sq];exact Rs c.2 d.2
def fP (r:List Rat × Rat):List Str × Str:=(r.1.map qtx,qtx r.2)
structure RowsQ (n:Nat)(rs:List (List Rat × Rat)):Prop where
 l:∀ r∈rs,r.1.length=n
 q:∀ r∈rs,(∀ x∈r.1,QB 23 x)/\QB 23 r.2
 m:rs.length<=150
theorem Oh {l:List Rat}(h:∀ x∈l,QB 23 x):QB 23 (l.getD j 0):=by
 rw [ay];cases e:l[j]? with
 | none=>exact ⟨by decide,by decide⟩
 | some x=>exact h x (Px e)
theorem tH (q:Rat):decide (dE q.num<0)=decide (q<0):=by
 have h:q.num<0 ↔ q<0:=by rw [Rat.lt_iff];simp
 rw [Qo];unfold dE;by_cases h1:q.num<0
 ·rw [aL h1];exact ⟨fun _=>h.1 h1,fun _=>by decide⟩
 rw [aF h1];exact ⟨fun h2=>by split at h2 <;> exact absurd h2 dc_,fun h2=>absurd (h.2 h2) h1⟩
open Classical in
theorem sw (b:Bool):nC b=0/\b=true∨nC b=2/\b=false:=by cases b <;> simp [nC]
theorem bI:∀ q:Rat,(aQ q).length=1:=fun _=>rfl
open Classical in
theorem ER (q:Rat):decide (dE q.num ≥ 0)=decide (0<=q):=by
 have h:=tH q;have h2:decide (0<=q)=!decide (q<0):=by
  rw [<- decide_not,Qo];grind
 rw [h2,<- h,<- decide_not,Qo];omega
theorem LK:qtx 0=[48]:=by decide +kernel
theorem Pd:aQ 0=[Value.string ⟨#[48]⟩]:=by
 show [ah (qtx 0)]=_;rw [LK];rfl
def zF (fs:List Rat)(s q:Nat):Rat:=if q=s then 0 else fs.getD q 0
def kr (fs bf:List Rat)(s:Nat)(k:Rat)(j:Nat):List Rat:=(List.range fs.length).map fun q=>zF fs s q+(if q<j then k*bf.getD q 0 else 0)
theorem gM :(kr fs bf s k j).length=fs.length:=by simp [kr]
theorem vN :fs.set s 0=kr fs bf s k 0:=by
 refine List.ext_getElem? fun q=>?_;unfold kr;rw [List.getElem?_set,PD];by_cases a:q<fs.length
 ·rw [Qd a];simp only [Q3,Nat.not_lt_zero,QY];unfold zF;split
  ·next e=>rw [aL om_,aL e.symm];rw [Rat.add_zero]
  next e=>rw [aF (fun b=>e b.symm),ay,al a];simp only [QQ];congr 1;grind
 rw [PJ om_,PJ aq];split
 ·split
  ·omega
  rfl
 rfl
theorem tE (h:q<fs.length):(kr fs bf s k j)[q]?=some (zF fs s q+(if q<j then k*bf.getD q 0 else 0)):=by
 unfold kr;rw [PD,Qd h];rfl
theorem Am (h:j<fs.length):(kr fs bf s k j).set j (zF fs s j+k*bf.getD j 0)=kr fs bf s k (j+1):=by
 refine List.ext_getElem? fun q=>?_;rw [List.getElem?_set,gM];by_cases a:q<fs.length
 ·rw [tE a,tE a];by_cases e:j=q
  ·subst e;rw [aL rfl,aL a,aL om_]
  rw [aF e];by_cases h1:q<j
  ·rw [aL h1,aL om_]
  rw [aF h1,aF om_]
 rw [PJ (by rw [gM];omega),PJ (by rw [gM];omega)];split
 ·exact absurd om_ a
 rfl
theorem vP (a:bf.getD j 0=0):kr fs bf s k j=kr fs bf s k (j+1):=by
 refine List.map_congr_left fun q _=>?_;by_cases e:q=j
 ·subst e;rw [aF om_,aL om_,a];grind
 by_cases h1:q<j
 ·rw [aL h1,aL om_]
 rw [aF h1,aF om_]
theorem vO :kr fs bf s 0 j=kr fs bf s 0 0:=by
 refine List.map_congr_left fun q _=>?_;split <;> split <;> grind
theorem EN {c bc:Rat}(_b:s<fs.length):Lp.putL ⟨c,fs⟩ s ⟨bc,bf⟩=⟨c+fs.getD s 0*bc,kr fs bf s (fs.getD s 0) fs.length⟩:=by
 unfold Lp.putL;congr 1;refine List.map_congr_left fun q a=>?_;rw [aL (PS.1 a)];rfl
theorem Ni (a:∀ x∈fs,QB 50 x)(b:q<fs.length):QB 50 (zF fs s q):=by
 unfold zF;split
 ·exact ⟨by decide,by decide⟩
 rw [ay,al b];exact a _ (Qq _)
def bE (p:Rat × Value):List Value:=[ah (qtx p.1),p.2]
theorem gx:∀ p,(bE p).length=2:=fun _=>rfl
theorem nR {p:Rat × Value}(h:ls[i]?=some p):(ls.map bE).flatten.drop (i*2)=ah (qtx p.1)::p.2::(ls.map bE).flatten.drop (i*2+2):=by
 obtain ⟨h1,h2⟩:=aJ.1 h;have e:=(cD gx ls i).2;have a:=(cD gx ls (i+1)).2;rw [Re] at a;rw [e,a,PW h1,h2];rfl
theorem H2 {p:Rat × Value}(h:ls[i]?=some p):ls.set i p=ls:=by
 refine List.ext_getElem? fun j=>?_;rw [List.getElem?_set];split
 ·next e=>subst e;rw [aL (aJ.1 h).1,h]
 rfl
theorem CF {p:Rat × Value}(h:ls[i]?=some p):((ls.map bE).flatten.drop (i*2)).take 1=[ah (qtx p.1)]:=by rw [nR h];rfl
theorem jF {p:Rat × Value}(h:ls[i]?=some p):((ls.map bE).flatten.drop (i*2+1)).take 1=[p.2]:=by rw [<- List.drop_drop,nR h];rfl
theorem yn {p:Rat × Value}(h:ls[i]?=some p)(c:Rat):aD (ls.map bE).flatten [ah (qtx c)] (i*2)=((ls.set i (c,p.2)).map bE).flatten:=by
 rw [<- bK gx (c,p.2) (aJ.1 h).1];unfold aD;have:(ls.map bE).flatten.drop (i*2+1)=p.2::(ls.map bE).flatten.drop (i*2+2):=by rw [<- List.drop_drop,nR h];rfl
 show _++[_]++List.drop (i*2+1) _=_++[_,_]++List.drop (i*2+2) _;rw [this];simp
theorem LN (C:Mem)(t:Tabs C)(g e f n s:Nat)(i l o p z:Value)(b d:List Rat)(c h:Rat)(ae:b.length=n)(ai:d.length=n)(hs:s<n)(q:Sl C 1 z (d.map aQ))(Q:QB 50 c)(A:∀ x∈b,QB 50 x)(B:QB 50 h)(S:∀ x∈d,QB 50 x) :
  Jog.Fn cx.P 262 [.pointer (some ⟨g,4,none⟩),.int .i64 s,.agg ⟨[ah (qtx h),z]⟩] C [.obj g (.cells ⟨[i,l,o,p,ah (qtx c),.slice (some ⟨e,0,none⟩) n f]⟩ 231 (0,0)),.arr (.slice (some ⟨e,0,none⟩) n f) 32 1 n (b.map aQ).flatten]
   fun u _ r=>u=.tuple #[]/\r=[.obj g (.cells ⟨[i,l,o,p,ah (qtx (c+b.getD s 0*h)),.slice (some ⟨e,0,none⟩) n f]⟩ 231 (0,0)),.arr (.slice (some ⟨e,0,none⟩) n f) 32 1 n ((kr b d s (b.getD s 0) n).map aQ).flatten]:=by
 obtain ⟨T,U,rfl,V,ak,_⟩:=id q;simp only [am] at V q ⊢;have D:s<b.length:=by omega
 have an:maxLen<=9223372036854775807:=by simp [maxLen]
 obtain ⟨k,E⟩:∃ k,b.getD s 0=k:=⟨_,rfl⟩;have F:b[s]?=some k:=by rw [<- E,ay,al D];rfl
 have v:QB 50 k:=A k (Px F);rw [E];refine Tk func262 64 U3 fun w0=>?_;refine Tu (L':=[.obj g (.cells ⟨[i,l,o,p,ah (qtx c),.slice (some ⟨e,0,none⟩) n f]⟩ 231 (0,0)),.arr (.slice (some ⟨e,0,none⟩) n f) 32 1 n (b.map aQ).flatten]) Z ?_;refine Tf fun R a=>?_;refine Tv U6 (fun b5=>?_);refine Th [0,1,5] a Z ?_;clear a R;refine G.freeze 0 Z (fun _ _ H=>?_);refine Tc 3 Z fun R a=>?_;refine Ti ag U9 ?_;refine Te U6 ?_;refine TE (s*1) U10 aj U2 ?_;refine TZ af U6 (fun _=>(by rw [eA bI F];rfl)) U2 ?_;refine C6 1 [0,1,5,6] a Z ?_;clear a R;refine Tc 3 Z fun R a=>?_;refine Ti ag U9 ?_;refine Te U6 ?_;refine TE (s*1) U10 aj U2 ?_;refine TJ (j:=1) U11 (by show s*1+1<=_;rw [bP bI];omega) ?_;refine Th [0,5,6] a Z ?_;clear a R;refine G.perm (L':=[.obj g (.cells ⟨[i,l,o,p,ah (qtx c),.slice (some ⟨e,0,none⟩) n f]⟩ 231 (0,0)),.arr (.slice (some ⟨e,0,none⟩) n f) 32 1 n ((kr b d s k 0).map aQ).flatten]) (by rw [<- vN,<- bK bI 0 D,Pd];exact List.Perm.swap _ _ _) ?_;refine Tb 2 [0,5,6,23] Z ?_;refine G.cd (fun I=>?_) fun I=>?_
 ·have W:qtx k=[48]:=by simpa using I
  have X:k=0:=iM (W.trans (by decide +kernel:([48]:List UInt8)=qtx 0));subst X;have Y:c+0*h=c:=by grind
  refine Tu (L':=[.obj g (.cells ⟨[i,l,o,p,ah (qtx (c+0*h)),.slice (some ⟨e,0,none⟩) n f]⟩ 231 (0,0)),.arr (.slice (some ⟨e,0,none⟩) n f) 32 1 n ((kr b d s 0 n).map aQ).flatten]) (by rw [Y,vO (j:=n)]) ?_;refine Tn (Vq Z  ?_);exact ⟨Z,Z⟩
 refine Tx [0,1,2,3,4,5,6,7,8,9,10,11,12] [(8,1),(9,1)] Z kr_ (fun R q a=>?_);refine Tg 4 Z ?_;refine Ti ag U9 ?_;refine Tg 2 Z ?_;refine Td (bkT H 1) U8 ?_;refine TA (fun _=>(cU _ t.m_ k h 50 dc_ dc_ v B)) U9 ?_;refine TA (fun _=>(iL _ t.m_ c (k*h) 100 dc_ dc_ (Q.le dc_) ((tL v B).le dc_))) U9 ?_;refine Tg 2 Z ?_;refine Tj (j:=0) U12 ?_;refine Th [0,5,6] a Z ?_;clear a q R;refine Tc 1 Z fun R a=>?_;refine Td (bkT H 1) U8 ?_;refine C6 2 [0,6,37,38,39] a Z ?_;clear a R;refine G.loop (fun fr C' r μ=>∃ (j:Nat),(j<=n)/\fr=[(0,[],.pointer (some ⟨g,4,none⟩)),(6,[],ah (qtx k)),(37,[],.slice T d.length U),(38,[],.int .i64 d.length),(39,[],.int .i64 j)]/\r=[.obj g (.cells ⟨[i,l,o,p,ah (qtx (c+k*h)),.slice (some ⟨e,0,none⟩) n f]⟩ 231 (0,0)),.arr (.slice (some ⟨e,0,none⟩) n f) 32 1 n ((kr b d s k j).map aQ).flatten]/\μ=n-j) (hn_ [0,6,37,38,39] Z) ⟨0,PG _,Z,Z,Z⟩ (fun fr ao ap m J hI=>?_);obtain ⟨j,hj,rfl,rfl,rfl⟩:=hI;refine Tb 1 [0,6,37,38,39,40] Z ?_;refine G.cd (fun w=>?_) fun w=>?_
 ·have K:j<n:=by
   have:=OQ w;omega
  obtain ⟨x,y⟩:∃ x,d[j]?=some x:=⟨d[j]'om_,al om_⟩;have L:QB 50 x:=S x (Px y);have M:d.getD j 0=x:=by rw [ay,y];rfl
  have aa:(kr b d s k j)[j]?=some (zF b s j):=by
   rw [tE om_,aF (Nat.lt_irrefl _)];congr 1;grind
  have qz:=Ni (s:=s) A (show j<b.length by omega);have N:=Am (bf:=d) (s:=s) (k:=k) (show j<b.length by omega);rw [M] at N;refine Tc 1 Z fun R a=>?_;refine Tt q.m_ U10 om_ (ku y) fl_ (fun aq ab=>?_);refine Td ab U8 ?_;refine C6 2 [0,6,7,8,37,38,39] a Z ?_;clear a R;refine Tb 2 [0,6,7,8,37,38,39,45] Z ?_;refine G.cd (fun O=>?_) fun O=>?_
  ·refine Tx [0,1,2,3,4,5,6,7,8,9,10,11,12,13,14,15,16,17] [(14,1),(15,1)] Z kr_ (fun R q a=>?_);refine Tg 3 Z ?_;refine Ti ag U9 ?_;refine Tg 4 Z ?_;refine Ti ag U9 ?_;refine Te U6 ?_;refine TE (j*1) U10 aj U2 ?_;refine TZ af U6 (fun _=>(by rw [eA bI aa];rfl)) U2 ?_;refine Tg 2 Z ?_;refine TA (fun _=>(cU _ t.m_ k x 50 dc_ dc_ v L)) U9 ?_;refine TA (fun _=>(iL _ t.m_ (zF b s j) (k*x) 100 dc_ dc_ (qz.le dc_) ((tL v L).le dc_))) U9 ?_;refine TE (j*1) U10 aj U2 ?_;refine TJ (j:=1) U11 (by show j*1+1<=_;rw [bP bI,gM];omega) ?_;refine Th [0,6,37,38,39] a Z ?_;clear a q R;refine Tf fun R a=>?_;refine Tm _ U7 ?_;refine C6 1 [0,6,37,38,39] a Z ?_;clear a R;refine G.perm (L':=[.obj g (.cells ⟨[i,l,o,p,ah (qtx (c+k*h)),.slice (some ⟨e,0,none⟩) n f]⟩ 231 (0,0)),.arr (.slice (some ⟨e,0,none⟩) n f) 32 1 n ((kr b d s k (j+1)).map aQ).flatten]) (by rw [<- N,<- bK bI _ (by rw [gM];omega)];exact List.Perm.swap _ _ _) ?_;refine Tp (m':=n-(j+1)) om_ J (hn_ [0,6,37,38,39] Z) ⟨j+1,om_,Z,Z,Z⟩
  have ac:x=0:=by
   have ad:qtx x=[48]:=by simpa using O
   exact iM (ad.trans (by decide +kernel:([48]:List UInt8)=qtx 0))
  rw [vP (j:=j) (by rw [M];exact ac)];refine Tf fun R a=>?_;refine Tm _ U7 ?_;refine C6 1 [0,6,37,38,39] a Z ?_;clear a R;refine Tp (m':=n-(j+1)) om_ J (hn_ [0,6,37,38,39] Z) ⟨j+1,om_,Z,Z,Z⟩
 have K:j=n:=by
  have:=PE w;omega
 rw [K];refine Ut Z ?_;exact ⟨Z,Z⟩
theorem LO (C:Mem)(t:Tabs C)(l m o i e f n s:Nat)(z:Value)(h:List (Rat × Value))(b d:List Rat)(c g:Rat)(ai:h.length=m)(q:h[i]?=some (c,.slice (some ⟨e,0,none⟩) n f))(ak:b.length=n)(an:d.length=n)(hs:s<n)(r:Sl C 1 z (d.map aQ))(S:QB 50 c)(A:∀ x∈b,QB 50 x)(B:QB 50 g)(T:∀ x∈d,QB 50 x) :
  Jog.Fn cx.P 262 [.pointer (some ⟨l,i*2,none⟩),.int .i64 s,.agg ⟨[ah (qtx g),z]⟩] C [.arr (.slice (some ⟨l,0,none⟩) m o) 228 2 m (h.map bE).flatten,.arr (.slice (some ⟨e,0,none⟩) n f) 32 1 n (b.map aQ).flatten]
   fun u _ p=>u=.tuple #[]/\p=[.arr (.slice (some ⟨l,0,none⟩) m o) 228 2 m ((h.set i (c+b.getD s 0*g,.slice (some ⟨e,0,none⟩) n f)).map bE).flatten,.arr (.slice (some ⟨e,0,none⟩) n f) 32 1 n ((kr b d s (b.getD s 0) n).map aQ).flatten]:=by
 obtain ⟨U,V,rfl,W,ao,_⟩:=id r;simp only [am] at W r ⊢;have D:s<b.length:=by omega
 have ap:maxLen<=9223372036854775807:=by simp [maxLen]
 obtain ⟨k,E⟩:∃ k,b.getD s 0=k:=⟨_,rfl⟩;have F:b[s]?=some k:=by rw [<- E,ay,al D];rfl
 have v:QB 50 k:=A k (Px F);rw [E];refine Tk func262 64 U3 fun w0=>?_;refine Tu (L':=[.arr (.slice (some ⟨l,0,none⟩) m o) 228 2 m (h.map bE).flatten,.arr (.slice (some ⟨e,0,none⟩) n f) 32 1 n (b.map aQ).flatten]) Z ?_;refine Tf fun R a=>?_;refine Tv U6 (fun b5=>?_);refine Th [0,1,5] a Z ?_;clear a R;refine G.freeze 0 Z (fun _ _ H=>?_);refine Tc 3 Z fun R a=>?_;refine TZ ag U6 (fun _=>(by rw [jF q];rfl)) U2 ?_;refine Te U6 ?_;refine TE (s*1) U10 aj U2 ?_;refine TZ af U6 (fun _=>(by rw [eA bI F];rfl)) U2 ?_;refine C6 1 [0,1,5,6] a Z ?_;clear a R;refine Tc 3 Z fun R a=>?_;refine TZ ag U6 (fun _=>(by rw [jF q];rfl)) U2 ?_;refine Te U6 ?_;refine TE (s*1) U10 aj U2 ?_;refine TJ (j:=1) U11 (by show s*1+1<=_;rw [bP bI];omega) ?_;refine Th [0,5,6] a Z ?_;clear a R;refine G.perm (L':=[.arr (.slice (some ⟨l,0,none⟩) m o) 228 2 m (h.map bE).flatten,.arr (.slice (some ⟨e,0,none⟩) n f) 32 1 n ((kr b d s k 0).map aQ).flatten]) (by rw [<- vN,<- bK bI 0 D,Pd];exact List.Perm.swap _ _ _) ?_;refine Tb 2 [0,5,6,23] Z ?_;refine G.cd (fun I=>?_) fun I=>?_
 ·have X:qtx k=[48]:=by simpa using I
  have Y:k=0:=iM (X.trans (by decide +kernel:([48]:List UInt8)=qtx 0));subst Y;have aa:c+0*g=c:=by grind
  refine Tu (L':=[.arr (.slice (some ⟨l,0,none⟩) m o) 228 2 m ((h.set i (c+0*g,.slice (some ⟨e,0,none⟩) n f)).map bE).flatten,.arr (.slice (some ⟨e,0,none⟩) n f) 32 1 n ((kr b d s 0 n).map aQ).flatten]) (by rw [aa,vO (j:=n),H2 q]) ?_;refine Tn (Vq Z  ?_);exact ⟨Z,Z⟩
 refine Tx [0,1,2,3,4,5,6,7,8,9,10,11,12] [(8,1),(9,1)] Z kr_ (fun R r a=>?_);refine Tg 4 Z ?_;refine TZ ag U6 (fun _=>(by rw [CF q];rfl)) U2 ?_;refine Tg 2 Z ?_;refine Td (bkT H 1) U8 ?_;refine TA (fun _=>(cU _ t.m_ k g 50 dc_ dc_ v B)) U9 ?_;refine TA (fun _=>(iL _ t.m_ c (k*g) 100 dc_ dc_ (S.le dc_) ((tL v B).le dc_))) U9 ?_;refine Tg 2 Z ?_;refine TJ (j:=0) U11 (by show i*2+1<=_;rw [bP gx];have:=(aJ.1 q).1;omega) ?_;refine Th [0,5,6] a Z ?_;clear a r R;refine Tu (L':=[.arr (.slice (some ⟨l,0,none⟩) m o) 228 2 m ((h.set i (c+k*g,.slice (some ⟨e,0,none⟩) n f)).map bE).flatten,.arr (.slice (some ⟨e,0,none⟩) n f) 32 1 n ((kr b d s k 0).map aQ).flatten]) (by rw [<- yn q];rfl) ?_;have J:(h.set i (c+k*g,Value.slice (some ⟨e,0,none⟩) n f))[i]?=some (c+k*g,Value.slice (some ⟨e,0,none⟩) n f):=SF (aJ.1 q).1;refine Tc 1 Z fun R a=>?_;refine Td (bkT H 1) U8 ?_;refine C6 2 [0,6,37,38,39] a Z ?_;clear a R;refine G.loop (fun fr C' p μ=>∃ (j:Nat),(j<=n)/\fr=[(0,[],.pointer (some ⟨l,i*2,none⟩)),(6,[],ah (qtx k)),(37,[],.slice U d.length V),(38,[],.int .i64 d.length),(39,[],.int .i64 j)]/\p=[.arr (.slice (some ⟨l,0,none⟩) m o) 228 2 m ((h.set i (c+k*g,.slice (some ⟨e,0,none⟩) n f)).map bE).flatten,.arr (.slice (some ⟨e,0,none⟩) n f) 32 1 n ((kr b d s k j).map aQ).flatten]/\μ=n-j) (hn_ [0,6,37,38,39] Z) ⟨0,PG _,Z,Z,Z⟩ (fun fr aq ar m K hI=>?_);obtain ⟨j,hj,rfl,rfl,rfl⟩:=hI;refine Tb 1 [0,6,37,38,39,40] Z ?_;refine G.cd (fun w=>?_) fun w=>?_
 ·have L:j<n:=by
   have:=OQ w;omega
  obtain ⟨x,y⟩:∃ x,d[j]?=some x:=⟨d[j]'om_,al om_⟩;have M:QB 50 x:=T x (Px y);have N:d.getD j 0=x:=by rw [ay,y];rfl
  have ab:(kr b d s k j)[j]?=some (zF b s j):=by
   rw [tE om_,aF (Nat.lt_irrefl _)];congr 1;grind
  have qz:=Ni (s:=s) A (show j<b.length by omega);have O:=Am (bf:=d) (s:=s) (k:=k) (show j<b.length by omega);rw [N] at O;refine Tc 1 Z fun R a=>?_;refine Tt r.m_ U10 om_ (ku y) fl_ (fun au ac=>?_);refine Td ac U8 ?_;refine C6 2 [0,6,7,8,37,38,39] a Z ?_;clear a R;refine Tb 2 [0,6,7,8,37,38,39,45] Z ?_;refine G.cd (fun Q=>?_) fun Q=>?_
  ·refine Tx [0,1,2,3,4,5,6,7,8,9,10,11,12,13,14,15,16,17] [(14,1),(15,1)] Z kr_ (fun R r a=>?_);refine Tg 3 Z ?_;refine TZ ag U6 (fun _=>(by rw [jF J];rfl)) U2 ?_;refine Tg 4 Z ?_;refine TZ ag U6 (fun _=>(by rw [jF J];rfl)) U2 ?_;refine Te U6 ?_;refine TE (j*1) U10 aj U2 ?_;refine TZ af U6 (fun _=>(by rw [eA bI ab];rfl)) U2 ?_;refine Tg 2 Z ?_;refine TA (fun _=>(cU _ t.m_ k x 50 dc_ dc_ v M)) U9 ?_;refine TA (fun _=>(iL _ t.m_ (zF b s j) (k*x) 100 dc_ dc_ (qz.le dc_) ((tL v M).le dc_))) U9 ?_;refine TE (j*1) U10 aj U2 ?_;refine TJ (j:=1) U11 (by show j*1+1<=_;rw [bP bI,gM];omega) ?_;refine Th [0,6,37,38,39] a Z ?_;clear a r R;refine Tf fun R a=>?_;refine Tm _ U7 ?_;refine C6 1 [0,6,37,38,39] a Z ?_;clear a R;refine G.perm (L':=[.arr (.slice (some ⟨l,0,none⟩) m o) 228 2 m ((h.set i (c+k*g,.slice (some ⟨e,0,none⟩) n f)).map bE).flatten,.arr (.slice (some ⟨e,0,none⟩) n f) 32 1 n ((kr b d s k (j+1)).map aQ).flatten]) (by rw [<- O,<- bK bI _ (by rw [gM];omega)];exact List.Perm.swap _ _ _) ?_;refine Tp (m':=n-(j+1)) om_ K (hn_ [0,6,37,38,39] Z) ⟨j+1,om_,Z,Z,Z⟩
  have ad:x=0:=by
   have ae:qtx x=[48]:=by simpa using Q
   exact iM (ae.trans (by decide +kernel:([48]:List UInt8)=qtx 0))
  rw [vP (j:=j) (by rw [N];exact ad)];refine Tf fun R a=>?_;refine Tm _ U7 ?_;refine C6 1 [0,6,37,38,39] a Z ?_;clear a R;refine Tp (m':=n-(j+1)) om_ K (hn_ [0,6,37,38,39] Z) ⟨j+1,om_,Z,Z,Z⟩
 have L:j=n:=by
  have:=PE w;omega
 rw [L];refine Ut Z ?_;exact ⟨Z,Z⟩
theorem rS {n:Int}{l:List Str}:iY n l=0 ↔ (l.length:Int)=n/\l.all aV=true:=by
 unfold iY;by_cases h:(l.length:Int)=n
 ·rw [aL h];rcases sw (l.all aV) with ⟨h1,h2⟩ | ⟨h1,h2⟩
  ·rw [h1];exact ⟨fun _=>⟨h,h2⟩,fun _=>rfl⟩
  rw [h1,h2];exact ⟨fun h=>(by cases h),fun h=>(by cases h.2)⟩
 rw [aF h];exact ⟨fun h=>(by cases h),fun h2=>absurd h2.1 h⟩
theorem Ey {n:Int}:Ez n r=0 ↔ iY n r.1=0/\aV r.2=true:=by
 unfold Ez;by_cases h:iY n r.1=0
 ·rw [aF (fun a=>a h)];rcases sw (aV r.2) with ⟨h1,h2⟩ | ⟨h1,h2⟩
  ·rw [h1];exact ⟨fun _=>⟨h,h2⟩,fun _=>rfl⟩
  rw [h1,h2];exact ⟨fun h=>(by cases h),fun h=>(by cases h.2)⟩
 rw [aL h];exact ⟨fun h2=>absurd h2 h,fun h2=>absurd h2.1 h⟩
theorem tP {l:List Nat}{x:Nat}(h:l[i]?=some x):(l.map aS)[i]?=some (aS x):=by rw [PD,h];rfl
theorem wm {l:List Nat}{q:Nat->Prop}(h:Lp.LeastR l q n o):o=-1∨∃ i:Nat,o=i/\i<n:=by
 cases h with
 | none _=>exact .inl rfl
 | some i a _ _=>exact .inr ⟨i,rfl,a⟩
theorem nS (C:Mem)(v:Value)(l:List Nat)(g:Nat)(f:List Value)(q:Nat->Bool)(d:Sl C 1 v (l.map aS))(_O:Jog.Enters cx.P g=true)
  (E:∀ i,i<l.length->∀ D:Mem,C.le D->Gives cx.P g (.int .i64 i::f) D (.bool (q i))) :
  Pur cx.P 206 [v,.func (.func g) #[] ⟨f⟩] C fun u _=>∃ o:Int,u=.int .i64 o/\Lp.LeastR l (fun i=>q i=true) l.length o:=by
 obtain ⟨s,c0,rfl,F,Q,_⟩:=id d;have S:maxLen<=9223372036854775807:=by simp [maxLen]
 simp only [am] at d F ⊢;refine Tk func206 33 U3 fun w0=>Tb 1 [0,1] Z<|Tb 1 [0,1,5] Z<|Tb 3 [0,1,5,8,9,10] Z<|G.loop (fun fr T H I=>∃ (i:Nat)(o:Int),(i<=l.length/\Lp.LeastR l (fun i=>q i=true) i o)/\fr=[(0,[],.slice s l.length c0),(1,[],.func (.func g) #[] ⟨f⟩),(5,[],.int .i64 o),(8,[],.slice s l.length c0),(9,[],.int .i64 l.length),(10,[],.int .i64 i)]/\H=[]/\I=l.length-i) (hn_ [0,1,5,8,9,10] Z) ⟨0, -1,⟨PG _,.none fun j J=>absurd J (Nat.not_lt_zero _)⟩,Z,Z,Z⟩ (fun fr U V m t K=>?_);obtain ⟨i,o,⟨W,a⟩,rfl,rfl,rfl⟩:=K;refine Tb 1 [0,1,5,8,9,10,11] Z<|G.cd (fun k=>?_) fun k=>?_
 ·have e:i<l.length:=by
   have:=OQ k;omega
  obtain ⟨x,w⟩:∃ x,l[i]?=some x:=⟨l[i],al e⟩;have y:l.getD i 0=x:=by rw [ay,w];rfl
  have n:=wm a;have L:¬ o<0->(l.map aS)[o.toNat]?=some (aS (l.getD o.toNat 0)):=fun h=>by
   rcases n with h1 | ⟨z,h1,h2⟩
   ·omega
   rw [h1,Rk];exact tP (by rw [ay,al om_];rfl)
  refine Tc 1 Z fun R b=>Tt d.m_ U10 om_ (tP w) fl_ fun X M=>Td M U8<|C6 2 [0,1,5,6,7,8,9,10] b Z<|Tc 2 Z fun R b=>To (E i e _ mup) U7<|Tg 7 Z<|D.index U10 (fun A=>⟨d.mono mup,(by have h:decide (o<0)=false:=A.1;have:=PE h;omega),L (by have h:decide (o<0)=false:=A.1;exact PE h)⟩) fl_ Z fun Y N=>TF U6 N U3<|Te U6<|TN U8<|TB U8<|Th [0,1,5,6,8,9,10,29] b Z<|G.cd (fun p=>?_) fun p=>?_
  ·have c:q i=true/\(o<0∨x<l.getD o.toNat 0):=by
    simpa using p
   have r:Lp.LeastR l (fun i=>q i=true) (i+1) i:=by
    rcases n with h1 | ⟨z,h1,h2⟩
    ·rw [h1] at a;exact a.first c.1
    rw [h1] at a c;refine a.less c.1 ?_;rw [y];rcases c.2 with h3 | h3
    ·omega
    exact h3
   refine Tb 2 [0,1,5,8,9,10] Z<|Tf fun R b=>Tm _ U7<|C6 1 [0,1,5,8,9,10] b Z<|Tp (m':=l.length-(i+1)) om_ t (hn_ [0,1,5,8,9,10] Z) ⟨i+1,_,⟨by omega,r⟩,Z,Z,Z⟩
  have c:q i=true->¬ (o<0∨x<l.getD o.toNat 0):=by
   simpa using p
  have r:Lp.LeastR l (fun i=>q i=true) (i+1) o:=by
   by_cases B:q i=true
   ·have h3:=c B;rcases n with h1 | ⟨z,h1,h2⟩
    ·exact absurd (.inl om_) h3
    rw [h1] at a h3 ⊢;refine a.keep ?_;rw [y];exact fun h=>h3 (.inr h)
   exact a.no B
  refine Tf fun R b=>Tm _ U7<|C6 1 [0,1,5,8,9,10] b Z<|Tp (m':=l.length-(i+1)) om_ t (hn_ [0,1,5,8,9,10] Z) ⟨i+1,_,⟨by omega,r⟩,Z,Z,Z⟩
 have e:i=l.length:=by
  have:=PE k;omega
 exact Tb 2 [4] Z<|Tl U2<|⟨Z,o,Z,by rw [<- e];exact a⟩
structure TabV (D:Mem)(b n:Nat)(t:Lp.Tab)(wB wL wO wW:Value)(wF:List Value):Prop where
 o:D b=some (.cells ⟨[.int .i64 n,wB,wL,wO,ah (qtx t.worth.c),wW]⟩ 231 (0,0))
 B:Sl D 1 wB (t.basic.map aS)
 O:Sl D 1 wO (t.others.map aS)
 W:Sl D 1 wW (t.worth.f.map aQ)
 L:Sl D 2 wL (List.zipWith (fun (l:Lp.Line) w=>[ah (qtx l.c),w]) t.lines wF)
 fl:wF.length=t.lines.length
 F:∀ (i:Nat)(l:Lp.Line)(w:Value),t.lines[i]?=some l->wF[i]?=some w->Sl D 1 w (l.f.map aQ)
theorem TabV.mono {D E:Mem}{b n:Nat}{t:Lp.Tab}{c d e f:Value}{g:List Value}(h:TabV D b n t c d e f g)(a:D.le E):TabV E b n t c d e f g :=
 ⟨a _ _ h.o,h.B.mono a,h.O.mono a,h.W.mono a,h.L.mono a,h.fl,fun i l w h1 h2=>(h.F i l w h1 h2).mono a⟩
theorem TabV.m_ {D E:Mem}{a:List Value}(h:TabV D b n t wB wL wO wW a)(c:D.le E:=by exact mup):TabV E b n t wB wL wO wW a:=TabV.mono h c
theorem fg (C:Mem)(b n v:Nat)(t:Lp.Tab)(a c d e:Value)(f:List Value)(h:TabV C b n t a c d e f) :
  Gives cx.P 203 [.pointer (some ⟨b,0,none⟩),.int .i64 v] C (.bool (decide (n<=v))):=by
 refine Tk func203 11 U3 fun w0=>Tb 1 [0,1] Z<|Tc 4 Z fun R g=>Td (PtrTo.blockT (h.m_.o) _ 1) U8<|C6 2 [4] g Z<|Tl U2<|⟨?_,Z⟩;congr 1;rw [Qo];omega
theorem eZ {l:List Nat}(h:i<l.length):(l.map aS)[i]?=some (aS (l.getD i 0)):=tP (by rw [ay,al h];rfl)
theorem dM {l:List Rat}(h:i<l.length):(l.map aQ)[i]?=some (aQ (l.getD i 0)):=ku (by rw [ay,al h];rfl)
theorem jE {ls:List Lp.Line}{ws:List Value}(h:i<ls.length)(a:ws.length=ls.length):(List.zipWith (fun (l:Lp.Line) w=>[ah (qtx l.c),w]) ls ws)[i]?=some [ah (qtx (ls.getD i ⟨0,[]⟩).c),ws.getD i (.slice none 0 0)]:=by
 rw [List.getElem?_zipWith,al h,al (show i<ws.length by omega),ay,ay,al h,al (show i<ws.length by omega)];rfl
theorem Je (C:Mem)(a b n i N:Nat)(t:Lp.Tab)(j k e f:Value)(g:List Value)(h:TabV C b n t j k e f g)(l:t.Ok N)(d:C a=some (.cells ⟨[.pointer (some ⟨b,0,none⟩)]⟩ 221 (0,0)))(m:i<t.basic.length)(p:QB 50 (t.line i).c) :
  Gives cx.P 207 [.int .i64 i,.pointer (some ⟨a,0,none⟩)] C (.bool (decide (n<=t.bas i) && decide ((t.line i).c<0))):=by
 obtain ⟨v,w,rfl,x,y,_⟩:=id h.B;obtain ⟨A2,c2,rfl,z,A,_⟩:=id h.L;have E:maxLen<=9223372036854775807:=by simp [maxLen]
 have F:=l.ll;exact Tk func207 25 U3 fun w0=>Tb 1 [0,1] Z<|Tx [0,1,2,3,4,5,6,7,8,9,10,11,12,13,14,15,16,17,18,19,20,21] [(8,1)] Z kr_ fun R G q=>Td (bkT d 1) U8<|Td (bkT d 1) U8<|Tg 2 Z<|Td (PtrTo.blockT (h.m_.o) _ 1) U8<|Te U6<|Tt h.B.m_ U10 om_ (eZ m) fl_ fun H r=>Td r U8<|TO (fun _=>(fg _ b n (t.bas i) t _ _ e f g h.m_)) U9<|Te U6<|TF U6 (fun _=>PtrTo.blockT (Mem.get d mup) _ 1) U3<|Tg 2 Z<|TF U6 (fun _=>PtrTo.blockT (h.m_.o) _ 1) U3<|Te U6<|D.index U10 (fun I=>⟨h.L.mono mup,by omega,jE om_ h.fl⟩) fl_ Z fun J s=>UR Z Z Z Z Z Z Z Z Z Z s fl_ Z fun K u=>TF U6 u U3<|TA (fun _=>(er _ (t.line i).c (PP (bl p dc_) dc_))) U9<|Te U6<|TB U8<|C6 1 [3] q Z<|Tl U2<|⟨by rw [tH],Z⟩
theorem tG (q:Rat):decide (0<dE q.num)=decide (0<q):=by
 have h:0<q.num ↔ 0<q:=by rw [Rat.lt_iff];simp
 rw [Qo];unfold dE;by_cases h1:q.num<0
 ·rw [aL h1];exact ⟨fun h2=>absurd h2 dc_,fun h2=>absurd (h.2 h2) om_⟩
 rw [aF h1];by_cases h2:q.num=0
 ·rw [aL h2];exact ⟨fun h3=>absurd h3 dc_,fun h3=>absurd (h.2 h3) om_⟩
 rw [aF h2];exact ⟨fun _=>h.1 om_,fun _=>by decide⟩
theorem lD {a:List Value}(h:TabV C b n t wB wL wO wW a)(c:t.Ok N)(d:i<t.basic.length):Sl C 1 (a.getD i (.slice none 0 0)) ((t.line i).f.map aQ)/\(t.line i).f.length=t.others.length:=by
 have e:=c.ll;have g:=h.fl;refine ⟨?_,c.fl _ (Lp.line_mem c d)⟩;refine h.F i _ _ (show t.lines[i]?=some (t.line i) from ?_) (show a[i]?=some _ from ?_)
 ·unfold Lp.Tab.line;rw [ay,al om_];rfl
 rw [ay,al om_];rfl
theorem Jd (C:Mem)(a j b n i r N:Nat)(t:Lp.Tab)(p q s k:Value)(c:List Value)(h:TabV C b n t p q s k c)(d:t.Ok N)(e:C a=some (.cells ⟨[.pointer (some ⟨b,0,none⟩)]⟩ 221 (0,0)))(u:C j=some (.cells ⟨[.int .i64 r]⟩ 3 (0,0)))
  (l:r<t.basic.length) (v:i<t.others.length) (w:QB 50 ((t.line r).g i)) :
  Gives cx.P 208 [.int .i64 i,.pointer (some ⟨a,0,none⟩),.pointer (some ⟨j,0,none⟩)] C (.bool (decide (n<=t.oth i) && decide (0<(t.line r).g i))):=by
 obtain ⟨G,H,rfl,I,J,_⟩:=id h.O;obtain ⟨A2,c2,rfl,K,M,_⟩:=id h.L;obtain ⟨f,Q⟩:=lD h d l;obtain ⟨S,T,x,U,V,_⟩:=id f;have m:=jE (ls:=t.lines) (ws:=c) (i:=r) (by rw [d.ll];exact l) h.fl;rw [x] at m f;have W:maxLen<=9223372036854775807:=by simp [maxLen]
 have X:=d.ll;exact Tk func208 29 U3 fun w0=>Tb 1 [0,1,2] Z<|Tx [0,1,2,3,4,5,6,7,8,9,10,11,12,13,14,15,16,17,18,19,20,21,22,23,24] [(8,1)] Z kr_ fun R Y y=>Td (bkT e 1) U8<|Td (bkT e 1) U8<|Tg 2 Z<|Td (PtrTo.blockT (h.m_.o) _ 1) U8<|Te U6<|Tt h.O.m_ U10 om_ (eZ v) fl_ fun aa z=>Td z U8<|TO (fun _=>(fg _ b n (t.oth i) t _ _ _ k c h.m_)) U9<|Te U6<|TF U6 (fun _=>PtrTo.blockT (Mem.get e mup) _ 1) U3<|Tg 2 Z<|TF U6 (fun _=>PtrTo.blockT (h.m_.o) _ 1) U3<|TF U6 (fun _=>PtrTo.blockT (Mem.get u mup) _ 1) U3<|D.index U10 (fun A=>⟨h.L.mono mup,by omega,m⟩) fl_ Z fun ab B=>UR Z Z Z Z Z Z Z Z Z Z B fl_ Z fun ac E=>TF U6 E U3<|Te U6<|D.index U10 (fun A=>⟨f.mono mup,by omega,dM om_⟩) fl_ Z fun ad F=>TF U6 F U3<|TA (fun _=>(er _ ((t.line r).g i) (PP (bl w dc_) dc_))) U9<|Te U6<|TB U8<|C6 1 [4] y Z<|Tl U2<|⟨by rw [<- tG],Z⟩
theorem Mj (C:Mem)(a b n i N:Nat)(t:Lp.Tab)(e f j k:Value)(d:List Value)(h:TabV C b n t e f j k d)(l:t.Ok N)(c:C a=some (.cells ⟨[.pointer (some ⟨b,0,none⟩)]⟩ 221 (0,0)))(m:i<t.others.length) :
  Gives cx.P 209 [.int .i64 i,.pointer (some ⟨a,0,none⟩)] C (.bool (!decide (n<=t.oth i) && !decide (t.worth.g i=0))):=by
 obtain ⟨s,u,rfl,v,w,_⟩:=id h.O;obtain ⟨A2,c2,rfl,x,y,_⟩:=id h.W;have z:maxLen<=9223372036854775807:=by simp [maxLen]
 have A:=l.wl;refine Tk func209 25 U3 fun w0=>Tb 1 [0,1] Z<|Tx [0,1,2,3,4,5,6,7,8,9,10,11,12,13,14,15,16,17,18,19,20,21] [(8,1)] Z kr_ fun R B p=>Td (bkT c 1) U8<|Td (bkT c 1) U8<|Tg 2 Z<|Td (PtrTo.blockT (h.m_.o) _ 1) U8<|Te U6<|Tt h.O.m_ U10 om_ (eZ m) fl_ fun E q=>Td q U8<|TO (fun _=>(fg _ b n (t.oth i) t _ _ _ _ d h.m_)) U9<|Tg 2 Z<|TF U6 (fun _=>PtrTo.blockT (Mem.get c mup) _ 1) U3<|Tg 3 Z<|TF U6 (fun _=>PtrTo.blockT (h.m_.o) _ 1) U3<|Te U6<|D.index U10 (fun F=>⟨h.W.mono mup,by omega,dM om_⟩) fl_ Z fun G r=>TF U6 r U3<|Te U6<|TB U8<|C6 1 [3] p Z<|Tl U2<|⟨?_,Z⟩;show Value.bool _=Value.bool _;congr 1;congr 1;show (!((⟨(qtx (t.worth.g i)).toArray⟩:ByteArray).data.toList == (⟨#[48]⟩:ByteArray).data.toList))=_;rw [fW]
theorem Mi (C:Mem)(a b n i N:Nat)(t:Lp.Tab)(e f j k:Value)(d:List Value)(h:TabV C b n t e f j k d)(l:t.Ok N)(c:C a=some (.cells ⟨[.pointer (some ⟨b,0,none⟩)]⟩ 221 (0,0)))(m:i<t.others.length)(p:QB 50 (t.worth.g i)) :
  Gives cx.P 210 [.int .i64 i,.pointer (some ⟨a,0,none⟩)] C (.bool (decide (n<=t.oth i) && decide (t.worth.g i<0))):=by
 obtain ⟨u,v,rfl,w,x,_⟩:=id h.O;obtain ⟨A2,c2,rfl,y,z,_⟩:=id h.W;have A:maxLen<=9223372036854775807:=by simp [maxLen]
 have B:=l.wl;exact Tk func210 25 U3 fun w0=>Tb 1 [0,1] Z<|Tx [0,1,2,3,4,5,6,7,8,9,10,11,12,13,14,15,16,17,18,19,20,21] [(8,1)] Z kr_ fun R E q=>Td (bkT c 1) U8<|Td (bkT c 1) U8<|Tg 2 Z<|Td (PtrTo.blockT (h.m_.o) _ 1) U8<|Te U6<|Tt h.O.m_ U10 om_ (eZ m) fl_ fun F r=>Td r U8<|TO (fun _=>(fg _ b n (t.oth i) t _ _ _ _ d h.m_)) U9<|Te U6<|TF U6 (fun _=>PtrTo.blockT (Mem.get c mup) _ 1) U3<|Tg 3 Z<|TF U6 (fun _=>PtrTo.blockT (h.m_.o) _ 1) U3<|Te U6<|D.index U10 (fun G=>⟨h.W.mono mup,by omega,dM om_⟩) fl_ Z fun H s=>TF U6 s U3<|TA (fun _=>(er _ (t.worth.g i) (PP (bl p dc_) dc_))) U9<|Te U6<|TB U8<|C6 1 [3] q Z<|Tl U2<|⟨by rw [tH],Z⟩
theorem tA (n:Nat):List.replicate n (ah [48])=((List.replicate n (0:Rat)).map aQ).flatten:=by
 rw [Sd,show aQ 0=[ah [48]] by unfold aQ;rw [LK]];induction n with
 | zero=>rfl
 | succ n a=>rw [QC,QC,QI,<- a];rfl
def ptF (t:Lp.Tab)(n i:Nat):List Rat:=(List.range n).map fun v=>if v∈t.basic.take i then t.sol v else 0
theorem mG :(ptF t n i).length=n:=by simp [ptF]
theorem EP (h:v<n):(ptF t n i)[v]?=some (if v∈t.basic.take i then t.sol v else 0):=by
 unfold ptF;rw [PD,Qd h];rfl
theorem Io (t:Lp.Tab)(n:Nat):ptF t n 0=List.replicate n 0:=by
 refine List.ext_getElem? fun v=>?_;by_cases h:v<n
 ·rw [EP h,Q2,aL h,List.take_zero,aF QH]
 rw [PJ (by rw [mG];omega),PJ aq]
theorem kV (h:i<t.basic.length):t.basic.take (i+1)=t.basic.take i++[t.bas i]:=by
 rw [P0];congr 1;unfold Lp.Tab.bas;rw [ay,al h];rfl
theorem LQ (b:t.Ok N)(h:i<t.basic.length)(d:t.bas i<n):(ptF t n i).set (t.bas i) (t.line i).c=ptF t n (i+1):=by
 refine List.ext_getElem? fun v=>?_;rw [List.getElem?_set,mG];by_cases a:v<n
 ·rw [EP a,EP a,kV h];by_cases e:t.bas i=v
  ·subst e;rw [aL rfl,aL a,aL ap,Lp.sol_bas b h]
  rw [aF e];by_cases hm:v∈t.basic.take i
  ·rw [aL hm,aL (by simp [hm])]
  rw [aF hm,aF (by simp [hm];exact fun h2=>e h2.symm)]
 rw [aF om_,PJ (by rw [mG];omega),PJ (by rw [mG];omega)]
theorem Ip (h:i<t.basic.length)(a:n<=t.bas i):ptF t n i=ptF t n (i+1):=by
 refine List.map_congr_left fun v hm=>?_;have b:=PS.1 hm;rw [kV h];by_cases hm:v∈t.basic.take i
 ·rw [aL hm,aL (by simp [hm])]
 rw [aF hm,aF (by simp [hm];omega)]
theorem LR (a:t.Ok N):ptF t n t.basic.length=(List.range n).map t.sol:=by
 refine List.map_congr_left fun v _=>?_;rw [PO];split
 ·rfl
 next h=>exact (Lp.sol_oth a h).symm
theorem Aq (C:Mem)(b n N:Nat)(t:Lp.Tab)(w x p q:Value)(r:List Value)(h:TabV C b n t w x p q r)(f:t.Ok N)(y:n<=1000000) :
  Jog.Fn cx.P 141 [.pointer (some ⟨b,0,none⟩)] C [] fun u _ c=>∃ g,u=.slice (some ⟨g,0,none⟩) n n/\c=[.arr u 32 1 n (((List.range n).map t.sol).map aQ).flatten]:=by
 obtain ⟨z,s,rfl,A,Q,_⟩:=id h.B;obtain ⟨A2,c2,rfl,S,T,_⟩:=id h.L;have E:=h.B;have U:t.basic.length<=s:=by rwa [am] at A
 have V:maxLen<=9223372036854775807:=by simp [maxLen]
 have W:=f.ll;have F:=h.fl;refine Tk func141 38 U3 fun w0=>Tb 1 [0] Z<|TC [(4,3)] Z fun R a=>Tg 3 Z<|Td (PtrTo.blockT (h.m_.o) _ 1) U8<|D.call (iN _ n y) Z (.inr dc_) U6 (PC _) fl_ (fun X _ Y _ H=>?_);obtain ⟨g,rfl,rfl⟩:=H;refine C6 1 [0,3] a Z<|Tc 3 Z fun R a=>Td (PtrTo.blockT (h.m_.o) _ 1) U8<|C6 2 [0,3,14,15,16] a Z<|Tu (L':=[.arr (.slice (some ⟨g,0,none⟩) n n) 32 1 n ((ptF t n 0).map aQ).flatten]) (by rw [Io,<- tA];rfl)<|G.loop (fun fr C' c I=>∃ (i:Nat),(i<=t.basic.length)/\fr=[(0,[],.pointer (some ⟨b,0,none⟩)),(3,[],.slice (some ⟨g,0,none⟩) n n),(14,[],.slice z (t.basic.map aS).length s),(15,[],.int .i64 (t.basic.map aS).length),(16,[],.int .i64 i)]/\c=[.arr (.slice (some ⟨g,0,none⟩) n n) 32 1 n ((ptF t n i).map aQ).flatten]/\I=t.basic.length-i) (hn_ [0,3,14,15,16] Z) ⟨0,PG _,Z,Z,Z⟩ (fun fr aa ab m v J=>?_);obtain ⟨i,hi,rfl,rfl,rfl⟩:=J;refine Tb 1 [0,3,14,15,16,17] Z<|G.cd (fun k=>?_) fun k=>?_
 ·have d:i<t.basic.length:=by
   have:=OQ k;rw [am] at this;omega
  refine Tc 1 Z fun R a=>Tt E.m_ U10 om_ (show (t.basic.map aS)[i]?=some (aS (t.bas i)) from eZ d) fl_ fun ac K=>Td K U8<|C6 2 [0,3,4,5,14,15,16] a Z<|Tc 2 Z fun R a=>To (fg _ b n (t.bas i) t _ _ p q r h.m_) U7<|C6 1 [0,3,4,5,14,15,16,24] a Z<|G.cd (fun l=>?_) fun l=>?_
  ·have e:t.bas i<n:=by
    have ad:¬ n<=t.bas i:=by simpa using l
    omega
   refine Tc 5 Z fun R a=>Td (PtrTo.blockT (h.m_.o) _ 1) U8<|Te U6<|Tt h.L.m_ U10 om_ (jE om_ F) fl_ fun ae M=>UA M U10 fl_ fun af O=>Td O U8<|TE (t.bas i*1) U10 aj U2<|TJ (j:=0) U11 (by show t.bas i*1+1<=_;rw [bP bI,mG];omega)<|Th [0,3,14,15,16] a Z<|Tf fun R a=>Tm _ U7<|C6 1 [0,3,14,15,16] a Z<|Tu (L':=[.arr (.slice (some ⟨g,0,none⟩) n n) 32 1 n ((ptF t n (i+1)).map aQ).flatten]) (by rw [<- LQ f d e,<- bK bI _ (by rw [mG];exact e)];rfl)<|Tp (m':=t.basic.length-(i+1)) om_ v (hn_ [0,3,14,15,16] Z) ⟨i+1,om_,Z,Z,Z⟩
  have e:n<=t.bas i:=by simpa using l
  rw [Ip d e];refine Tf fun R a=>Tm _ U7<|C6 1 [0,3,14,15,16] a Z<|Tp (m':=t.basic.length-(i+1)) om_ v (hn_ [0,3,14,15,16] Z) ⟨i+1,om_,Z,Z,Z⟩
 have d:i=t.basic.length:=by
  have:=PE k;rw [am] at this;omega
 refine Tb 2 [2] Z<|Tn (TQ Z Z ?_);exact ⟨g,Z,by rw [d,LR f]⟩
def duF (p:Lp.Sys)(t:Lp.Tab)(l:Lp.Line)(i:Nat):List Rat:=(List.range p.m).map fun r=>if p.n+r∈t.others.take i then Lp.dualV p t l r else 0
theorem mN :(duF p t l i).length=p.m:=by simp [duF]
theorem Gi {r:Nat}(h:r<p.m):(duF p t l i)[r]?=some (if p.n+r∈t.others.take i then Lp.dualV p t l r else 0):=by
 unfold duF;rw [PD,Qd h];rfl
theorem Jl (p:Lp.Sys)(t:Lp.Tab)(l:Lp.Line):duF p t l 0=List.replicate p.m 0:=by
 refine List.ext_getElem? fun v=>?_;by_cases h:v<p.m
 ·rw [Gi h,Q2,aL h,List.take_zero,aF QH]
 rw [PJ (by rw [mN];omega),PJ aq]
theorem zH (h:i<t.others.length):t.others.take (i+1)=t.others.take i++[t.oth i]:=by
 rw [P0];congr 1;unfold Lp.Tab.oth;rw [ay,al h];rfl
theorem MA (b:Lp.TabOf p t)(h:i<t.others.length)(c:p.n<=t.oth i):(duF p t l i).set (t.oth i-p.n) (l.g i)=duF p t l (i+1):=by
 refine List.ext_getElem? fun v=>?_;rw [List.getElem?_set,mN];by_cases a:v<p.m
 ·rw [Gi a,Gi a,zH h];by_cases e:t.oth i-p.n=v
  ·subst e;rw [aL rfl,aL a,aL (by rw [show p.n+(t.oth i-p.n)=t.oth i by omega];simp),Lp.dualV_at b h c]
  rw [aF e];by_cases hm:p.n+v∈t.others.take i
  ·rw [aL hm,aL (by simp [hm])]
  rw [aF hm,aF (by simp [hm];omega)]
 rw [PJ (by rw [mN];omega),PJ (by rw [mN];omega)];have:=b.ok.lt _ (PQ.2 (.inr (Lp.oth_mem h)));split
 ·exact aF om_
 rfl
theorem Jm (h:i<t.others.length)(a:t.oth i<p.n):duF p t l i=duF p t l (i+1):=by
 refine List.map_congr_left fun v _=>?_;rw [zH h];by_cases hm:p.n+v∈t.others.take i
 ·rw [aL hm,aL (by simp [hm])]
 rw [aF hm,aF (by simp [hm];omega)]
theorem MB :duF p t l t.others.length=(List.range p.m).map (Lp.dualV p t l):=by
 refine List.map_congr_left fun v _=>?_;rw [PO];split
 ·rfl
 next h=>exact (Lp.dualV_none h).symm
theorem Gh (C:Mem)(p:Lp.Sys)(b:Nat)(t:Lp.Tab)(l:Lp.Line)(E F H s w:Value)(v:List Value)(h:TabV C b p.n t E F H s v)(x:Lp.TabOf p t)(I:p.m<=1000000)(y:Sl C 1 w (l.f.map aQ))(X:l.f.length=t.others.length) :
  Jog.Fn cx.P 143 [.pointer (some ⟨b,0,none⟩),.agg ⟨[ah (qtx l.c),w]⟩,.int .i64 p.m] C [] fun u _ e=>∃ g,u=.slice (some ⟨g,0,none⟩) p.m p.m/\e=[.arr u 32 1 p.m (((List.range p.m).map (Lp.dualV p t l)).map aQ).flatten]:=by
 obtain ⟨J,z,rfl,K,Y,_⟩:=id h.O;obtain ⟨A3,c3,rfl,aa,ab,_⟩:=id y;have L:=h.O;have ac:t.others.length<=z:=by rwa [am] at K
 have ad:maxLen<=9223372036854775807:=by simp [maxLen]
 refine Tk func143 40 U3 fun w0=>Tf fun R a=>Tv U6 fun M=>C6 1 [0,2,4] a Z<|G.freeze 0 Z fun _ _ N=>TC [(1,3)] Z fun R a=>Te U6<|D.call (iN _ p.m I) Z (.inr dc_) U6 (PC _) fl_ (fun ae _ af _ Q=>?_);obtain ⟨g,rfl,rfl⟩:=Q;refine C6 1 [0,4,7] a Z<|Tc 3 Z fun R a=>Td (PtrTo.blockT (h.m_.o) _ 1) U8<|C6 2 [0,4,7,15,16,17] a Z<|Tu (L':=[.arr (.slice (some ⟨g,0,none⟩) p.m p.m) 32 1 p.m ((duF p t l 0).map aQ).flatten]) (by rw [Jl,<- tA];rfl)<|G.loop (fun fr C' e S=>∃ (i:Nat),(i<=t.others.length)/\fr=[(0,[],.pointer (some ⟨b,0,none⟩)),(4,[],.pointer (some ⟨M,0,none⟩)),(7,[],.slice (some ⟨g,0,none⟩) p.m p.m),(15,[],.slice J (t.others.map aS).length z),(16,[],.int .i64 (t.others.map aS).length),(17,[],.int .i64 i)]/\e=[.arr (.slice (some ⟨g,0,none⟩) p.m p.m) 32 1 p.m ((duF p t l i).map aQ).flatten]/\S=t.others.length-i) (hn_ [0,4,7,15,16,17] Z) ⟨0,PG _,Z,Z,Z⟩ (fun fr ag ai m A T=>?_);obtain ⟨i,hi,rfl,rfl,rfl⟩:=T;refine Tb 1 [0,4,7,15,16,17,18] Z<|G.cd (fun k=>?_) fun k=>?_
 ·have d:i<t.others.length:=by
   have:=OQ k;rw [am] at this;omega
  have ak:=x.ok.lt _ (PQ.2 (.inr (Lp.oth_mem d)));refine Tc 1 Z fun R a=>Tt L.m_ U10 om_ (show (t.others.map aS)[i]?=some (aS (t.oth i)) from eZ d) fl_ fun al U=>Td U U8<|C6 2 [0,4,7,8,9,15,16,17] a Z<|Tc 2 Z fun R a=>To (fg _ b p.n (t.oth i) t _ _ _ s v h.m_) U7<|Th [0,4,7,8,9,15,16,17,24] a Z<|G.cd (fun q=>?_) fun q=>?_
  ·have r:p.n<=t.oth i:=by simpa using q
   have B:((t.oth i:Int)-(p.n:Int)).toNat=t.oth i-p.n:=by omega
   have V:=MA (l:=l) x d r;refine Tx [0,1,2,3,4,5,6,7,8,9,10,11,12,13] [] Z kr_ fun R hB a=>Tg 5 Z<|Td (PtrTo.blockT (h.m_.o) _ 1) U8<|Tm _ U7<|Te U6<|Td (bkT N 1) U8<|Te U6<|Tt y.m_ U10 om_ (dM om_) fl_ fun an W=>Td W U8<|TE (((t.oth i:Int)-(p.n:Int)).toNat*1) U10 aj U2<|TJ (j:=0) U11 (by show ((t.oth i:Int)-(p.n:Int)).toNat*1+1<=_;rw [B,bP bI,mN];omega)<|Th [0,4,7,15,16,17] a Z<|Tf fun R a=>Tm _ U7<|C6 1 [0,4,7,15,16,17] a Z<|Tu (L':=[.arr (.slice (some ⟨g,0,none⟩) p.m p.m) 32 1 p.m ((duF p t l (i+1)).map aQ).flatten]) (by rw [B,<- V,<- bK bI _ (by rw [mN];omega)];rfl)<|Tp (m':=t.others.length-(i+1)) om_ A (hn_ [0,4,7,15,16,17] Z) ⟨i+1,om_,Z,Z,Z⟩
  have r:t.oth i<p.n:=by
   have ao:¬ p.n<=t.oth i:=by simpa using q
   omega
  rw [Jm d r];refine Tf fun R a=>Tm _ U7<|C6 1 [0,4,7,15,16,17] a Z<|Tp (m':=t.others.length-(i+1)) om_ A (hn_ [0,4,7,15,16,17] Z) ⟨i+1,om_,Z,Z,Z⟩
 have d:i=t.others.length:=by
  have:=PE k;rw [am] at this;omega
 refine Tb 2 [6] Z<|Tn (TQ Z Z ?_);exact ⟨g,Z,by rw [d,MB]⟩
def ngF (p:Lp.Sys)(t:Lp.Tab)(l:Lp.Line)(i:Nat):List Rat:=(List.range p.m).map fun r=>if r<i then -Lp.dualV p t l r else Lp.dualV p t l r
theorem gR :(ngF p t l i).length=p.m:=by simp [ngF]
theorem AK {r:Nat}(h:r<p.m):(ngF p t l i)[r]?=some (if r<i then -Lp.dualV p t l r else Lp.dualV p t l r):=by
 unfold ngF;rw [PD,Qd h];rfl
theorem IJ (p:Lp.Sys)(t:Lp.Tab)(l:Lp.Line):(List.range p.m).map (Lp.dualV p t l)=ngF p t l 0:=List.map_congr_left fun r _=>by rw [aF (Nat.not_lt_zero _)]
theorem Mf (h:i<p.m):(ngF p t l i).set i (-Lp.dualV p t l i)=ngF p t l (i+1):=by
 refine List.ext_getElem? fun v=>?_;rw [List.getElem?_set,gR];by_cases a:v<p.m
 ·rw [AK a,AK a];by_cases e:i=v
  ·subst e;rw [aL rfl,aL a,aL om_]
  rw [aF e];by_cases hm:v<i
  ·rw [aL hm,aL om_]
  rw [aF hm,aF om_]
 rw [aF om_,PJ (by rw [gR];omega),PJ (by rw [gR];omega)]
theorem Mg (h:t.bas i-p.n<p.m):(ngF p t (t.line i) p.m).set (t.bas i-p.n) 1=(List.range p.m).map (Lp.refV p t i):=by
 refine List.ext_getElem? fun v=>?_;rw [List.getElem?_set,gR,PD];by_cases a:v<p.m
 ·rw [AK a,Qd a,aL a];unfold Lp.refV;by_cases e:t.bas i-p.n=v
  ·subst e;rw [aL rfl,aL h,Q3,aL rfl]
  rw [aF e,Q3,aF (fun b=>e b.symm)]
 rw [aF om_,PJ (by rw [gR];omega),PJ aq];rfl
theorem qtx1:qtx 1=[49]:=by decide +kernel
theorem enc1:aQ 1=[Value.string ⟨#[49]⟩]:=by
 show [ah (qtx 1)]=_;rw [qtx1];rfl
theorem Ie (C:Mem)(p:Lp.Sys)(b i:Nat)(t:Lp.Tab)(A E s v:Value)(e:List Value)(h:TabV C b p.n t A E s v e)(w:Lp.TabOf p t)(F:p.m<=1000000)(f:i<t.basic.length)(W:p.n<=t.bas i)(H:∀ r,QB 50 (Lp.dualV p t (t.line i) r)) :
  Pur cx.P 139 [.pointer (some ⟨b,0,none⟩),.int .i64 i,.int .i64 p.m] C fun u D=>∃ g,u=.agg ⟨[.slice (some ⟨g,0,none⟩) p.m p.m]⟩/\Sl D 1 (.slice (some ⟨g,0,none⟩) p.m p.m) (((List.range p.m).map (Lp.refV p t i)).map aQ):=by
 have ok:=w.ok;obtain ⟨X,Y,rfl,aa,ab,_⟩:=id h.B;obtain ⟨A2,c2,rfl,ac,ad,_⟩:=id h.L;obtain ⟨k,I⟩:=lD h ok f;obtain ⟨A3,c3,J,ae,af,_⟩:=id k;have ah:=ok.ll;have x:=jE (ls:=t.lines) (ws:=e) (i:=i) om_ h.fl;rw [J] at x k;have ai:maxLen<=9223372036854775807:=by simp [maxLen]
 have ak:=ok.lt _ (PQ.2 (.inl (Lp.bas_mem f)));have K:t.bas i-p.n<p.m:=by omega
 have z:((t.bas i:Int)-(p.n:Int)).toNat=t.bas i-p.n:=by omega
 refine Tk func139 49 U3 fun w0=>Tf fun R a=>Tq U5 fun c=>Th [0,1,2,6] a Z<|TC [(9,3)] Z fun R a=>Tg 4 Z<|Td (PtrTo.blockT (h.m_.o) _ 1) U8<|Te U6<|Tt h.L.m_ U10 om_ x fl_ fun al M=>Td M U8<|Te U6<|D.call (Gh _ p b t (t.line i) _ _ s v _ e h.m_ w F k.m_ I) Z (.inr dc_) U6 (PC _) fl_ (fun am _ an _ N=>?_);obtain ⟨g,rfl,rfl⟩:=N;refine C6 1 [0,1,6,7] a Z<|Tb 3 [0,1,6,7,20,21,22] Z<|Tu (L':=[.arr (.slice (some ⟨g,0,none⟩) p.m p.m) 32 1 p.m ((ngF p t (t.line i) 0).map aQ).flatten,.obj c (.cells ⟨[.slice none 0 0]⟩ 68 (0,0))]) (by rw [<- IJ];rfl)<|G.loop (fun fr C' l O=>∃ (j:Nat),(j<=p.m)/\fr=[(0,[],.pointer (some ⟨b,0,none⟩)),(1,[],.int .i64 i),(6,[],.pointer (some ⟨c,0,none⟩)),(7,[],.slice (some ⟨g,0,none⟩) p.m p.m),(20,[],.slice (some ⟨g,0,none⟩) p.m p.m),(21,[],.int .i64 p.m),(22,[],.int .i64 j)]/\l=[.arr (.slice (some ⟨g,0,none⟩) p.m p.m) 32 1 p.m ((ngF p t (t.line i) j).map aQ).flatten,.obj c (.cells ⟨[.slice none 0 0]⟩ 68 (0,0))]/\O=p.m-j) (hn_ [0,1,6,7,20,21,22] Z) ⟨0,PG _,Z,Z,Z⟩ (fun fr ao aq m Q S=>?_);obtain ⟨j,hj,rfl,rfl,rfl⟩:=S;refine Tb 1 [0,1,6,7,20,21,22,23] Z<|G.cd (fun q=>?_) fun q=>?_
 ·have d:j<p.m:=by
   have:=OQ q;omega
  have T:(ngF p t (t.line i) j)[j]?=some (Lp.dualV p t (t.line i) j):=by rw [AK d,aF (Nat.lt_irrefl _)]
  refine Tc 1 Z fun R a=>TE (j*1) U10 aj U2<|TZ ag U6 (fun _=>(by rw [eA bI T];rfl)) U2<|C6 2 [0,1,6,7,8,9,20,21,22] a Z<|Tc 3 Z fun R a=>Ts (eC _ _ (PP (bl (H j) dc_) dc_)) U7 fl_<|TE (j*1) U10 aj U2<|TJ (j:=0) U11 (by show j*1+1<=_;rw [bP bI,gR];omega)<|Th [0,1,6,7,20,21,22] a Z<|Tf fun R a=>Tm _ U7<|C6 1 [0,1,6,7,20,21,22] a Z<|Tu (L':=[.arr (.slice (some ⟨g,0,none⟩) p.m p.m) 32 1 p.m ((ngF p t (t.line i) (j+1)).map aQ).flatten,.obj c (.cells ⟨[.slice none 0 0]⟩ 68 (0,0))]) (by rw [<- Mf d,<- bK bI _ (by rw [gR];omega)];rfl)<|Tp (m':=p.m-(j+1)) om_ Q (hn_ [0,1,6,7,20,21,22] Z) ⟨j+1,om_,Z,Z,Z⟩
 have d:j=p.m:=by
  have:=PE q;omega
 subst d;refine Tx [0,1,2,3,4,5,6,7,8,9,10,11,12,13,14] [] Z kr_ fun R hB a=>Tg 4 Z<|Td (PtrTo.blockT (h.m_.o) _ 1) U8<|Te U6<|Tt h.B.m_ U10 om_ (show (t.basic.map aS)[i]?=some (aS (t.bas i)) from eZ f) fl_ fun ar U=>Td U U8<|Tg 3 Z<|Td (PtrTo.blockT (h.m_.o) _ 1) U8<|Tm _ U7<|TE (((t.bas i:Int)-(p.n:Int)).toNat*1) U10 aj U2<|TJ (j:=0) U11 (by show ((t.bas i:Int)-(p.n:Int)).toNat*1+1<=_;rw [z,bP bI,gR];omega)<|Th [6,7] a Z<|Tc 1 Z fun R a=>Tw [.slice (some ⟨g,0,none⟩) p.m p.m] U8<|Tj (j:=1) U12<|Th [6] a Z<|G.freezeArr 1 (((List.range p.m).map (Lp.refV p t i)).map aQ) rfl (by rw [z,<- Mg K,<- bK bI 1 (by rw [gR];omega),enc1]) (by intro r hr;obtain ⟨y,_,rfl⟩:=PF.1 hr;rfl) ap fun Cg hg V=>Tn (TY ag U4 ?_);exact ⟨Z,g,Z,V⟩
def cK (t:Lp.Tab)(wF:Nat->Value):List (Rat × Value):=(List.range t.basic.length).map fun i=>((t.line i).c,wF i)
theorem fA :(cK t wF).length=t.basic.length:=by simp [cK]
theorem nO (h:i<t.basic.length):(cK t wF)[i]?=some ((t.line i).c,wF i):=by
 unfold cK;rw [PD,Qd h];rfl
def Ka (t:Lp.Tab)(wF:Nat->Value)(i:Nat):Lent:=.arr (wF i) t.others.length 1 32 ((t.line i).f.map aQ)
def eY (b n:Nat)(t:Lp.Tab)(wB wL wO wW:Value)(wF:Nat->Value):List Lent :=
 .obj b [.int .i64 n,wB,wL,wO,ah (qtx t.worth.c),wW] 231::.arr wB t.basic.length 1 3 (t.basic.map aS)::.arr wL t.basic.length 2 228 ((cK t wF).map bE)
  :: .arr wO t.others.length 1 3 (t.others.map aS)::.arr wW t.others.length 1 32 (t.worth.f.map aQ)::(List.range t.basic.length).map (Ka t wF)
theorem gW (a:t.Ok N)(h:i<t.basic.length):(t.line i).f.length=t.others.length:=a.fl _ (Lp.line_mem a h)
theorem bS {l:List Rat}:∀ r∈l.map aQ,r.length=1:=fun r hr=>by
 obtain ⟨x,_,rfl⟩:=PF.1 hr;rfl
theorem uj {l:List Nat}:∀ r∈l.map aS,r.length=1:=fun r hr=>by
 obtain ⟨x,_,rfl⟩:=PF.1 hr;rfl
theorem fZ (c:t.Ok N):∀ x∈eY b n t wB wL wO wW wF,x.wf:=by
 intro x a;unfold eY at a;simp only [PN,PF,PS] at a;rcases a with rfl | rfl | rfl | rfl | rfl | ⟨i,d,rfl⟩
 ·trivial
 ·exact ⟨by simp,uj⟩
 ·exact ⟨by simp [fA],fun r hr=>by obtain ⟨y,_,rfl⟩:=PF.1 hr;rfl⟩
 ·exact ⟨by simp,uj⟩
 ·exact ⟨by simp [c.wl],bS⟩
 exact ⟨by simp [gW c d],bS⟩
theorem DE {b:Type}{f:Lp.Line->Value->b}(a:t.Ok N):List.zipWith f t.lines ((List.range t.basic.length).map wF)=(List.range t.basic.length).map fun i=>f (t.line i) (wF i):=by
 refine List.ext_getElem? fun i=>?_;rw [List.getElem?_zipWith,PD,PD];by_cases h:i<t.basic.length
 ·have h2:t.lines[i]?=some (t.line i):=by
   unfold Lp.Tab.line;rw [ay,al (by rw [a.ll];exact h)];rfl
  rw [h2,Qd h];rfl
 rw [PJ (show (List.range t.basic.length).length<=i by simp;omega),PJ (show t.lines.length<=i by rw [a.ll];omega)];rfl
theorem eT (c:t.Ok N)(h:∀ x∈eY b n t wB wL wO wW wF,x.seen C):TabV C b n t wB wL wO wW ((List.range t.basic.length).map wF):=by
 have h1:=h _ (PB ..);have h2:=h _ (PK _ (PB ..));have h3:=h _ (PK _ (PK _ (PB ..)));have h4:=h _ (PK _ (PK _ (PK _ (PB ..))));have h5:=h _ (PK _ (PK _ (PK _ (PK _ (PB ..)))));have j:∀ i,i<t.basic.length->Sl C 1 (wF i) ((t.line i).f.map aQ):=fun i a =>
  h (Ka t wF i) (PK _ (PK _ (PK _ (PK _ (PK _ (PF.2 ⟨i,PS.2 a,rfl⟩))))))
 refine ⟨h1,h2,h4,h5, ?_,by simp [c.ll],fun i l w e g=>?_⟩
 ·rw [DE c];have d:Sl C 2 wL ((cK t wF).map bE):=h3;unfold cK at d;rw [Qv] at d;exact d
 have a:i<t.lines.length:=(aJ.1 e).1;rw [c.ll] at a;rw [PD,Qd a] at g;cases g
 have:t.line i=l:=by unfold Lp.Tab.line;rw [ay,e];rfl
 rw [<- this];exact j i a
theorem Im (C:Mem)(p:Tabs C)(e m f i n s:Nat)(w g:Value)(d:List (Rat × Value))(a b:List Rat)(c h:Rat)(q:d.length=m)(r:d[i]?=some (c,w))(t:a.length=n)(k:b.length=n)(v:s<n)(y:QB 50 c)(z:∀ x∈a,QB 50 x)(A:QB 50 h)(B:∀ x∈b,QB 50 x) :
  Jog.Fn cx.P 262 [.pointer (some ⟨e,i*2,none⟩),.int .i64 s,.agg ⟨[ah (qtx h),g]⟩] C [.arr g 32 1 n (b.map aQ).flatten,.arr (.slice (some ⟨e,0,none⟩) m f) 228 2 m (d.map bE).flatten,.arr w 32 1 n (a.map aQ).flatten]
   fun u _ j=>u=.tuple #[]/\j=[.arr g 32 1 n (b.map aQ).flatten,.arr (.slice (some ⟨e,0,none⟩) m f) 228 2 m ((d.set i (c+a.getD s 0*h,w)).map bE).flatten,.arr w 32 1 n ((kr a b s (a.getD s 0) n).map aQ).flatten]:=by
 have l:Jog.Enters cx.P 262=true:=by kernel_rfl
 refine Fn.perm (L2:=[.arr w 32 1 n (a.map aQ).flatten,.arr g 32 1 n (b.map aQ).flatten,.arr (.slice (some ⟨e,0,none⟩) m f) 228 2 m (d.map bE).flatten]) (Qw (l₁:=[_,_]) (l₂:=[_]))<|Fn.form l om_ fun E F G=>?_;subst G;refine Fn.perm (Qw (l₁:=[_]) (l₂:=[_,_]))<|(UK (post:=fun u j=>u=.tuple #[]/\j=[.arr (.slice (some ⟨e,0,none⟩) m f) 228 2 m ((d.set i (c+a.getD s 0*h,_)).map bE).flatten,.arr _ 32 1 n ((kr a b s (a.getD s 0) n).map aQ).flatten]) l bS (by simp [k]) fun o H I=>LO o (p.mono H) e m f i E F n s g d a b c h q r t k v I y z A B).mono ?_;rintro u o j _ ⟨D,rfl,h1,rfl⟩;exact ⟨h1,Z⟩
theorem Ik (C:Mem)(p:Tabs C)(d n s:Nat)(e f g h w i:Value)(a b:List Rat)(c j:Rat)(q:a.length=n)(l:b.length=n)(r:s<n)(t:QB 50 c)(v:∀ x∈a,QB 50 x)(y:QB 50 j)(z:∀ x∈b,QB 50 x) :
  Jog.Fn cx.P 262 [.pointer (some ⟨d,4,none⟩),.int .i64 s,.agg ⟨[ah (qtx j),i]⟩] C [.arr i 32 1 n (b.map aQ).flatten,.obj d (.cells ⟨[e,f,g,h,ah (qtx c),w]⟩ 231 (0,0)),.arr w 32 1 n (a.map aQ).flatten]
   fun u _ k=>u=.tuple #[]/\k=[.arr i 32 1 n (b.map aQ).flatten,.obj d (.cells ⟨[e,f,g,h,ah (qtx (c+a.getD s 0*j)),w]⟩ 231 (0,0)),.arr w 32 1 n ((kr a b s (a.getD s 0) n).map aQ).flatten]:=by
 have m:Jog.Enters cx.P 262=true:=by kernel_rfl
 refine Fn.perm (L2:=[.arr w 32 1 n (a.map aQ).flatten,.arr i 32 1 n (b.map aQ).flatten,.obj d (.cells ⟨[e,f,g,h,ah (qtx c),w]⟩ 231 (0,0))]) (Qw (l₁:=[_,_]) (l₂:=[_]))<|Fn.form m om_ fun B D E=>?_;subst E;refine Fn.perm (Qw (l₁:=[_]) (l₂:=[_,_]))<|(UK (post:=fun u k=>u=.tuple #[]/\k=[.obj d (.cells ⟨[e,f,g,h,ah (qtx (c+a.getD s 0*j)),_]⟩ 231 (0,0)),.arr _ 32 1 n ((kr a b s (a.getD s 0) n).map aQ).flatten]) m bS (by simp [l]) fun o F G=>LN o (p.mono F) d B D n s e f g h i a b c j q l r G t v y z).mono ?_;rintro u o k _ ⟨A,rfl,h1,rfl⟩;exact ⟨h1,Z⟩
theorem nu {F:Nat}(h:Lp.LeaveR F t s n o):o=-1∨∃ r:Nat,o=r/\r<n/\F<=t.bas r/\(t.line r).g s<0:=by
 cases h with
 | none _=>exact .inl rfl
 | some r h1 h2 h3 _=>exact .inr ⟨r,rfl,h1,h2,h3⟩
theorem EZ (a b:Rat):decide (su a b > 0)=decide (b<a):=by
 unfold su;rw [Qo];split
 ·next h=>exact ⟨fun h2=>absurd h2 dc_,fun h2=>by grind⟩
 split
 ·next h=>exact ⟨fun _=>h,fun _=>by decide⟩
 next h=>exact ⟨fun h2=>absurd h2 dc_,fun h2=>absurd h2 h⟩
theorem E0 (a b:Rat):(su a b == 0)=decide (b=a):=by
 unfold su;split
 ·next h=>rw [P7 (by grind)];rfl
 split
 ·next h=>rw [P7 (by grind)];rfl
 next h=>rw [PV (by grind)];rfl
theorem IU (C:Mem)(S:Tabs C)(b n s N:Nat)(t:Lp.Tab)(wB wL T U:Value)(k:List Value)(h:TabV C b n t wB wL T U k)(V:t.Ok N)(hs:s<t.others.length)(W:∀ i,i<t.basic.length->QB 20 (t.line i).c/\QB 20 ((t.line i).g s)) :
  Pur cx.P 211 [.pointer (some ⟨b,0,none⟩),.int .i64 s] C fun u _=>∃ o:Int,u=.int .i64 o/\Lp.LeaveR n t s t.basic.length o:=by
 obtain ⟨A1,c1,rfl,aw,ax,_⟩:=id h.B;obtain ⟨A2,c2,rfl,ay,az,_⟩:=id h.L;have E:=h.B;have aA:maxLen<=9223372036854775807:=by simp [maxLen]
 have aB:=V.ll;have ac:=h.fl;have aC:(List.zipWith (fun (l:Lp.Line) w=>[ah (qtx l.c),w]) t.lines k).length=t.basic.length:=by simp;omega
 refine Tk func211 85 U3 fun w0=>Tb 1 [0,1] Z<|Tb 1 [0,1,5] Z<|Tb 1 [0,1,5,6] Z<|Tc 3 Z fun R a=>Td (PtrTo.blockT (h.m_.o) _ 1) U8<|C6 2 [0,1,5,6,15,16,17] a Z<|G.loop (fun fr C' L' μ=>∃ (i:Nat)(o:Int)(v:Str),(i<=t.basic.length/\Lp.LeaveR n t s i o/\∀ r:Nat,o=r->v=qtx ((t.line r).c / -(t.line r).g s))/\fr=[(0,[],.pointer (some ⟨b,0,none⟩)),(1,[],.int .i64 s),(5,[],.int .i64 o),(6,[],ah v),(15,[],.slice A2 (List.zipWith (fun (l:Lp.Line) w=>[ah (qtx l.c),w]) t.lines k).length c2),(16,[],.int .i64 (List.zipWith (fun (l:Lp.Line) w=>[ah (qtx l.c),w]) t.lines k).length),(17,[],.int .i64 i)]/\L'=[]/\μ=t.basic.length-i) (hn_ [0,1,5,6,15,16,17] Z) ⟨0, -1,[],⟨PG _,.none fun j hj=>absurd hj (Nat.not_lt_zero _),fun r hr=>by omega⟩,Z,Z,Z⟩ (fun fr aD aE m _ hI=>?_);obtain ⟨i,o,v,⟨hi,f,F⟩,rfl,rfl,rfl⟩:=hI;refine Tb 1 [0,1,5,6,15,16,17,18] Z<|G.cd (fun H=>?_) fun H=>?_
 ·have p:i<t.basic.length:=by
   have:=OQ H;omega
  obtain ⟨z,aF⟩:=lD h V p;obtain ⟨A3,c3,ad,aG,aH,_⟩:=id z;obtain ⟨X,I⟩:=W i p;have Y:=jE (ls:=t.lines) (ws:=k) (i:=i) om_ ac;rw [ad] at Y z;have aa:(qtx ((t.line i).g s)).length<=1000000:=PP (bl I dc_) dc_;refine Tc 1 Z fun R a=>Tt h.L.m_ U10 om_ Y fl_ fun aI ae=>Td ae U8<|Tq U5 fun b8=>Te U6<|Tj (j:=0) U12<|Th [0,1,5,6,7,8,15,16,17] a Z<|G.freeze 0 Z fun _ _ J=>Tc 4 Z fun R a=>Td (PtrTo.blockT (h.m_.o) _ 1) U8<|Te U6<|Tt E.m_ U10 om_ (eZ p) fl_ fun aJ af=>Td af U8<|To (fg _ b n (t.bas i) t _ _ T U k h.m_) U7<|Tg 3 Z<|TF U6 (fun _=>PtrTo.blockT (Mem.get J mup) _ 1) U3<|Te U6<|D.index U10 (fun hg=>⟨z.mono mup,by omega,dM om_⟩) fl_ Z fun aK ag=>TF U6 ag U3<|TO (fun _=>(er _ ((t.line i).g s) aa)) U9<|Te U6<|TN U8<|Th [0,1,5,6,7,8,15,16,17,40] a Z<|G.cd (fun K=>?_) fun K=>?_
  ·have d:n<=t.bas i->0<=(t.line i).g s:=by
    intro h1;have d:(!decide (n<=t.bas i) || decide (dE ((t.line i).g s).num ≥ 0))=true:=K;rw [ER,PV h1] at d;simpa using d
   refine Tf fun R a=>Tm _ U7<|C6 1 [0,1,5,6,15,16,17] a Z<|Tp (m':=t.basic.length-(i+1)) om_ mup (hn_ [0,1,5,6,15,16,17] Z) ⟨i+1,o,v,⟨by omega,f.no d,F⟩,Z,Z,Z⟩
  have d:n<=t.bas i/\(t.line i).g s<0:=by
   have d:(!decide (n<=t.bas i) || decide (dE ((t.line i).g s).num ≥ 0))=false:=K;rw [ER] at d;simp only [Rc,Bool.not_eq_false',PI,P3] at d;exact ⟨d.1,by have:=d.2;grind⟩
  have ab:-(t.line i).g s≠0:=by have:=d.2;grind
  have ai:=lY X (fM I) ab;refine Tx [0,1,2,3,4,5,6,7,8,9,10,11,12,13] [(7,1),(8,1)] Z kr_ fun R hB a=>Te U6<|Td (bkT J 1) U8<|Te U6<|Td (bkT J 1) U8<|Te U6<|Tt z.m_ U10 om_ (dM om_) fl_ fun aL aj=>Td aj U8<|TO (fun _=>(eC _ ((t.line i).g s) aa)) U9<|TA (fun _=>(gb _ S.m_ (t.line i).c (-(t.line i).g s) 20 dc_ dc_ X (fM I) ab)) U9<|C6 5 [0,1,5,6,7,9,15,16,17] a Z<|Tb 1 [0,1,5,6,7,9,15,16,17] Z<|Tb 2 [0,1,5,6,7,9,15,16,17,54] Z<|G.cd (fun M=>?_) fun M=>?_
  ·have ak:0<=o:=by simpa using OQ M
   obtain ⟨r,O,aM,aN,aO⟩:=(nu f).resolve_left om_;obtain ⟨al,am⟩:=W r om_;have an:-(t.line r).g s≠0:=by grind
   have ao:=lY al (fM am) an;have ap:=F r O;rw [O] at f;subst O;subst ap;obtain ⟨x,A⟩:∃ x,(t.line i).c / -(t.line i).g s=x:=⟨_,rfl⟩;obtain ⟨y,hy⟩:∃ y,(t.line r).c / -(t.line r).g s=y:=⟨_,rfl⟩;refine Tc 2 Z fun R a=>Ts (gJ _ S.m_ _ _ 40 dc_ dc_ ai ao) U7 fl_<|C6 1 [0,1,5,6,7,9,11,15,16,17] a Z<|Tx [0,1,2,3,4,5,6,7,8,9,10,11,12,13,14,15,16,17,18,19,20,21,22] [] Z kr_ fun R hB a=>Tg 9 Z<|TF U6 (fun _=>PtrTo.blockT (h.m_.o) _ 1) U3<|Te U6<|D.index U10 (fun hg=>⟨E.mono mup,by omega,eZ p⟩) fl_ Z fun aP aq=>TF U6 aq U3<|Tg 3 Z<|TF U6 (fun _=>PtrTo.blockT (h.m_.o) _ 1) U3<|Te U6<|D.index U10 (fun hg=>⟨E.mono mup,by omega,by rw [Rk];exact eZ om_⟩) fl_ Z fun aQ ar=>TF U6 ar U3<|Te U6<|TB U8<|TN U8<|Th [0,1,5,6,7,9,15,16,17,80] a Z<|G.cd (fun Q=>?_) fun Q=>?_
   ·have e:y<x∨y=x/\t.bas r<t.bas i:=by
     have e:(decide (su ((t.line i).c / -(t.line i).g s) ((t.line r).c / -(t.line r).g s) > 0) || (su ((t.line i).c / -(t.line i).g s) ((t.line r).c / -(t.line r).g s) == 0 && decide ((t.bas i:Int) > (t.bas r:Int))))=true:=Q;rw [A,hy,EZ,E0] at e;simp only [Ro,PL,PI] at e;rcases e with h1 | ⟨h1,h2⟩
     ·exact .inl h1
     exact .inr ⟨h1,by omega⟩
    have q:=f.keep (by rw [A,hy];exact e.elim .inl (fun h1=>.inr ⟨h1.1,by have:=h1.2;omega⟩));refine Tf fun R a=>Tm _ U7<|C6 1 [0,1,5,6,15,16,17] a Z<|Tp (m':=t.basic.length-(i+1)) om_ mup (hn_ [0,1,5,6,15,16,17] Z) ⟨i+1,(r:Int),qtx ((t.line r).c / -(t.line r).g s),⟨by omega,q,F⟩,Z,Z,Z⟩
   have e:x<y∨x=y/\t.bas i<=t.bas r:=by
    have e:(decide (su ((t.line i).c / -(t.line i).g s) ((t.line r).c / -(t.line r).g s) > 0) || (su ((t.line i).c / -(t.line i).g s) ((t.line r).c / -(t.line r).g s) == 0 && decide ((t.bas i:Int) > (t.bas r:Int))))=false:=Q;rw [A,hy,EZ,E0] at e;simp only [Rc,Bool.and_eq_false_iff,P3] at e;obtain ⟨h1,h2⟩:=e;by_cases h3:x<y
    ·exact .inl h3
    have h4:y=x:=by grind
    rcases h2 with h2 | h2
    ·exact absurd h4 h2
    exact .inr ⟨h4.symm,by omega⟩
   have q:=f.less d.1 d.2 (by rw [A,hy];exact e);refine Tb 4 [0,1,5,6,15,16,17] Z<|Tf fun R a=>Tm _ U7<|C6 1 [0,1,5,6,15,16,17] a Z<|Tp (m':=t.basic.length-(i+1)) om_ mup (hn_ [0,1,5,6,15,16,17] Z) ⟨i+1,(i:Int),qtx ((t.line i).c / -(t.line i).g s),⟨by omega,q,fun r' au=>by rw [show r'=i by omega]⟩,Z,Z,Z⟩
  have ak:¬ 0<=o:=by simpa using PE M
  have av:o=-1:=by
   rcases nu f with h1 | ⟨r,h1,_⟩
   ·exact h1
   omega
  subst av;have q:=f.first d.1 d.2;refine Tb 4 [0,1,5,6,15,16,17] Z<|Tf fun R a=>Tm _ U7<|C6 1 [0,1,5,6,15,16,17] a Z<|Tp (m':=t.basic.length-(i+1)) om_ mup (hn_ [0,1,5,6,15,16,17] Z) ⟨i+1,(i:Int),qtx ((t.line i).c / -(t.line i).g s),⟨by omega,q,fun r' au=>by rw [show r'=i by omega]⟩,Z,Z,Z⟩
 have p:i=t.basic.length:=by
  have:=PE H;omega
 exact Tb 2 [4] Z<|Tl U2<|⟨Z,o,Z,by rw [<- p];exact f⟩
def ryF (t:Lp.Tab)(s n:Nat)(k:Rat)(i:Nat):List Rat:=(List.range n).map fun v=>if v∈t.basic.take i then k*t.dir s v else if v=t.oth s then k else 0
theorem kl :(ryF t s n k i).length=n:=by simp [ryF]
theorem zU (h:v<n):(ryF t s n k i)[v]?=some (if v∈t.basic.take i then k*t.dir s v else if v=t.oth s then k else 0):=by
 unfold ryF;rw [PD,Qd h];rfl
theorem H5 (h:n<=t.oth s):List.replicate n 0=ryF t s n k 0:=by
 refine List.ext_getElem? fun v=>?_;by_cases a:v<n
 ·rw [zU a,Q2,aL a,List.take_zero,aF QH,aF om_]
 rw [PJ aq,PJ (by rw [kl];omega)]
theorem Ln (h:t.oth s<n):(List.replicate n 0).set (t.oth s) k=ryF t s n k 0:=by
 refine List.ext_getElem? fun v=>?_;rw [List.getElem?_set];by_cases a:v<n
 ·rw [zU a,Q2,aL a,List.take_zero,aF QH];by_cases e:t.oth s=v
  ·rw [aL e,aL (by simpa using h),aL e.symm]
  rw [aF e,aF (fun b=>e b.symm)]
 rw [aF om_,PJ aq,PJ (by rw [kl];omega)]
theorem Lm (b:Lp.TabOf p t)(c:s<t.others.length)(h:i<t.basic.length)(d:t.bas i<n):(ryF t s n k i).set (t.bas i) (k*(t.line i).g s)=ryF t s n k (i+1):=by
 refine List.ext_getElem? fun v=>?_;rw [List.getElem?_set,kl];by_cases a:v<n
 ·rw [zU a,zU a,kV h];by_cases e:t.bas i=v
  ·subst e;rw [aL rfl,aL a,aL ap,Lp.dir_bas b c h]
  rw [aF e];by_cases hm:v∈t.basic.take i
  ·rw [aL hm,aL (by simp [hm])]
  rw [aF hm,aF (show ¬ v∈t.basic.take i++[t.bas i] by simp [hm];exact fun h2=>e h2.symm)]
 rw [aF om_,PJ (by rw [kl];omega),PJ (by rw [kl];omega)]
theorem H6 (h:i<t.basic.length)(a:n<=t.bas i):ryF t s n k i=ryF t s n k (i+1):=by
 refine List.map_congr_left fun v hm=>?_;have b:=PS.1 hm;rw [kV h];by_cases hm:v∈t.basic.take i
 ·rw [aL hm,aL (by simp [hm])]
 rw [aF hm,aF (show ¬ v∈t.basic.take i++[t.bas i] by simp [hm];omega)]
theorem Lo (a:Lp.TabOf p t):ryF t s n k t.basic.length=(List.range n).map fun v=>k*t.dir s v:=by
 refine List.map_congr_left fun v _=>?_;rw [PO];split
 ·rfl
 next h =>
 rw [Lp.dir_oth a h];split <;> grind
def kJ (t:Lp.Tab)(s:Nat):Rat:=if 0<t.worth.g s then -1 else 1
theorem NW:qtx (-1)=[45,49]:=by decide +kernel
theorem NV (C:Mem)(Q:Tabs C)(p:Lp.Sys)(b s:Nat)(t:Lp.Tab)(S T U V:Value)(r:List Value)(h:TabV C b p.n t S T U V r)(x:Lp.TabOf p t)(I:s<t.others.length)(X:p.n<=1000000)(Y:∀ i,i<t.basic.length->QB 20 ((t.line i).g s))(aa:QB 20 (t.worth.g s)) :
  Jog.Fn cx.P 142 [.pointer (some ⟨b,0,none⟩),.int .i64 s] C [] fun u _ c=>∃ g,u=.slice (some ⟨g,0,none⟩) p.n p.n/\c=[.arr u 32 1 p.n (((List.range p.n).map fun v=>kJ t s*t.dir s v).map aQ).flatten]:=by
 have ok:=x.ok;obtain ⟨A1,J,rfl,ab,ar,_⟩:=id h.B;obtain ⟨A2,c2,rfl,au,av,_⟩:=id h.L;obtain ⟨A3,c3,rfl,aw,ax,_⟩:=id h.O;obtain ⟨A4,c4,rfl,ay,az,_⟩:=id h.W;have ac:=h.B;have aA:t.basic.length<=J:=by rwa [am] at ab
 have aB:maxLen<=9223372036854775807:=by simp [maxLen]
 have aC:=ok.ll;have ad:=h.fl;have aD:=ok.wl;have ae:QB 20 (kJ t s):=by unfold kJ;split <;> exact ⟨by decide,by decide⟩
 refine Tk func142 72 U3 fun w0=>Tb 1 [0,1] Z<|Tb 1 [0,1,5] Z<|Tc 4 Z fun R a=>Td (PtrTo.blockT (h.m_.o) _ 1) U8<|Te U6<|Tt h.W.m_ U10 om_ (dM om_) fl_ fun aE af=>Td af U8<|Ts (er _ (t.worth.g s) (PP (bl aa dc_) dc_)) U7 fl_<|C6 1 [0,1,5,19] a Z<|G.cut (fun fr K c f=>(True)/\fr=[(0,[],.pointer (some ⟨b,0,none⟩)),(1,[],.int .i64 s),(5,[],ah (qtx (kJ t s)))]/\c=[]) ?_ (fun fr _ aG f _ l=>?_)
 ·refine G.cd (fun y=>?_) fun y=>?_
  ·have z:kJ t s=-1:=by
    have d:0<t.worth.g s:=by
     have d:decide (0<dE (t.worth.g s).num)=true:=y;rw [tG] at d;exact OQ d
    unfold kJ;rw [aL d]
   refine Tb 1 [0,1,5] Z<|Tr 0 (Mem.le.refl _) (hn_ [0,1,5] Z) ⟨trivial,by rw [z,NW];rfl,Z⟩
  have z:kJ t s=1:=by
   have d:¬ 0<t.worth.g s:=by
    have d:decide (0<dE (t.worth.g s).num)=false:=y;rw [tG] at d;exact PE d
   unfold kJ;rw [aF d]
  refine Tr 0 (Mem.le.refl _) (hn_ [0,1,5] Z) ⟨trivial,by rw [z,qtx1];rfl,Z⟩
 obtain ⟨ag,rfl,rfl⟩:=l;refine TC [(4,3)] Z fun R a=>Tg 3 Z<|Td (PtrTo.blockT (h.m_.o) _ 1) U8<|D.call (iN _ p.n X) Z (.inr dc_) U6 (PC _) fl_ fun aH _ aI _ ai=>C6 1 [0,1,5,6] a Z ?_;obtain ⟨g,rfl,rfl⟩:=ai;refine Tu (L':=[.arr (.slice (some ⟨g,0,none⟩) p.n p.n) 32 1 p.n ((List.replicate p.n (0:Rat)).map aQ).flatten]) (by rw [<- tA];rfl)<|Tc 3 Z fun R a=>Td (PtrTo.blockT (h.m_.o) _ 1) U8<|Te U6<|Tt h.O.m_ U10 om_ (show (t.others.map aS)[s]?=some (aS (t.oth s)) from eZ I) fl_ fun aJ ak=>Td ak U8<|C6 1 [0,1,5,6,7] a Z<|Tc 2 Z fun R a=>To (fg _ b p.n (t.oth s) t _ _ _ _ r h.m_) U7<|C6 1 [0,1,5,6,7,35] a Z<|G.cut (fun fr K c f=>(True)/\fr=[(0,[],.pointer (some ⟨b,0,none⟩)),(1,[],.int .i64 s),(5,[],ah (qtx (kJ t s))),(6,[],.slice (some ⟨g,0,none⟩) p.n p.n)]/\c=[.arr (.slice (some ⟨g,0,none⟩) p.n p.n) 32 1 p.n ((ryF t s p.n (kJ t s) 0).map aQ).flatten]) ?_ (fun fr _ aK f _ l=>?_)
 ·refine G.cd (fun A=>?_) fun A=>?_
  ·have q:t.oth s<p.n:=by
    have q:¬ p.n<=t.oth s:=by simpa using A
    omega
   refine Tc 3 Z fun R a=>TE (t.oth s*1) U10 aj U2<|TJ (j:=0) U11 (by show t.oth s*1+1<=_;rw [bP bI,P9];omega)<|Th [0,1,5,6] a Z<|Tu (L':=[.arr (.slice (some ⟨g,0,none⟩) p.n p.n) 32 1 p.n ((ryF t s p.n (kJ t s) 0).map aQ).flatten]) (by rw [<- Ln q,<- bK bI _ (by rw [P9];exact q)];rfl)<|Tr 0 (Mem.le.refl _) (hn_ [0,1,5,6] Z) ⟨trivial,Z,Z⟩
  have q:p.n<=t.oth s:=by simpa using A
  rw [H5 (k:=kJ t s) q];refine Tr 0 (Mem.le.refl _) (hn_ [0,1,5,6] Z) ⟨trivial,Z,Z⟩
 obtain ⟨ag,rfl,rfl⟩:=l;refine Tc 3 Z fun R a=>Td (PtrTo.blockT (h.m_.o) _ 1) U8<|C6 2 [0,1,5,6,43,44,45] a Z<|G.loop (fun fr K c f=>∃ (i:Nat),(i<=t.basic.length)/\fr=[(0,[],.pointer (some ⟨b,0,none⟩)),(1,[],.int .i64 s),(5,[],ah (qtx (kJ t s))),(6,[],.slice (some ⟨g,0,none⟩) p.n p.n),(43,[],.slice A1 (t.basic.map aS).length J),(44,[],.int .i64 (t.basic.map aS).length),(45,[],.int .i64 i)]/\c=[.arr (.slice (some ⟨g,0,none⟩) p.n p.n) 32 1 p.n ((ryF t s p.n (kJ t s) i).map aQ).flatten]/\f=t.basic.length-i) (hn_ [0,1,5,6,43,44,45] Z) ⟨0,PG _,Z,Z,Z⟩ (fun fr aM aN m M l=>?_);obtain ⟨i,hi,rfl,rfl,rfl⟩:=l;refine Tb 1 [0,1,5,6,43,44,45,46] Z<|G.cd (fun E=>?_) fun E=>?_
 ·have e:i<t.basic.length:=by
   have:=OQ E;rw [am] at this;omega
  obtain ⟨F,aO⟩:=lD h ok e;obtain ⟨A5,c5,al,aP,aR,_⟩:=id F;have N:=jE (ls:=t.lines) (ws:=r) (i:=i) om_ ad;rw [al] at N F;refine Tc 1 Z fun R a=>Tt ac.m_ U10 om_ (show (t.basic.map aS)[i]?=some (aS (t.bas i)) from eZ e) fl_ fun aT an=>Td an U8<|C6 2 [0,1,5,6,8,9,43,44,45] a Z<|Tc 2 Z fun R a=>To (fg _ b p.n (t.bas i) t _ _ _ _ r h.m_) U7<|C6 1 [0,1,5,6,8,9,43,44,45,53] a Z<|G.cd (fun H=>?_) fun H=>?_
  ·have w:t.bas i<p.n:=by
    have aU:¬ p.n<=t.bas i:=by simpa using H
    omega
   refine Tc 6 Z fun R a=>Td (PtrTo.blockT (h.m_.o) _ 1) U8<|Te U6<|Tt h.L.m_ U10 om_ N fl_ fun aV ao=>UA ao U10 fl_ fun aW ap=>Td ap U8<|Te U6<|Tt F.m_ U10 om_ (dM om_) fl_ fun aX aq=>Td aq U8<|Ts (cU _ Q.m_ (kJ t s) ((t.line i).g s) 20 dc_ dc_ ae (Y i e)) U7 fl_<|TE (t.bas i*1) U10 aj U2<|TJ (j:=0) U11 (by show t.bas i*1+1<=_;rw [bP bI,kl];omega)<|Th [0,1,5,6,43,44,45] a Z<|Tf fun R a=>Tm _ U7<|C6 1 [0,1,5,6,43,44,45] a Z<|Tu (L':=[.arr (.slice (some ⟨g,0,none⟩) p.n p.n) 32 1 p.n ((ryF t s p.n (kJ t s) (i+1)).map aQ).flatten]) (by rw [<- Lm x I e w,<- bK bI _ (by rw [kl];exact w)];rfl)<|Tp (m':=t.basic.length-(i+1)) om_ M (hn_ [0,1,5,6,43,44,45] Z) ⟨i+1,om_,Z,Z,Z⟩
  have w:p.n<=t.bas i:=by simpa using H
  rw [H6 e w];refine Tf fun R a=>Tm _ U7<|C6 1 [0,1,5,6,43,44,45] a Z<|Tp (m':=t.basic.length-(i+1)) om_ M (hn_ [0,1,5,6,43,44,45] Z) ⟨i+1,om_,Z,Z,Z⟩
 have e:i=t.basic.length:=by
  have:=PE E;rw [am] at this;omega
 refine Tb 2 [4] Z<|Tn (TQ Z Z ?_);exact ⟨g,Z,by rw [e,Lo x]⟩
end Go.Proofs.YtfjcldheldflbaaGreatDoor
