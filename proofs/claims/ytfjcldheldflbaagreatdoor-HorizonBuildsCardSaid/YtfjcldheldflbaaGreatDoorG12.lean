/- Laws that the proofs of this seat share, part 12. -/
import Derived.Test.YtfjcldheldflbaaGreatDoorG11
import Derived.Test.YtfjcldheldflbaaGreatDoorShelf
set_option maxHeartbeats 4000000
namespace Go.Proofs.YtfjcldheldflbaaGreatDoor
open Go.Proofs.Tryz
open Go Go.Jog
set_option maxRecDepth 100000
variable {C:Mem}{N:Nat}{a:Rat}{b:Nat}{bf ds fs:List Rat}{i j:Nat}{k:Rat}{l:Lp.Line}{ls:List (Rat × Value)}{m n:Nat}{o:Int}{p:Lp.Sys}{q:Nat}{r:List Str × Str}{rows:List (List Str × Str)}{rs:List (List Rat × Rat)}{s:Nat}{t:Lp.Tab}{v:Nat}{vs:List Value}{wB:Value}{wF:Nat->Value}{wL wO wW:Value}
def RowsT (C:Mem)(v:Value)(rows:List (List Str × Str)):Prop:=∃ vs:List Value,vs.length=rows.length/\(∀ (i:Nat)(w:Value)(r:List Str × Str),vs[i]?=some w->rows[i]?=some r->Sl C 1 w (r.1.map gb))/\Sl C 2 v (List.zipWith (fun w (r:List Str × Str)=>[w,af r.2]) vs rows)
theorem RowsT.mono {C D:Mem}{v:Value}{a:List (List Str × Str)}(h:RowsT C v a)(b:C.le D):RowsT D v a:=by
 obtain⟨vs,h1,h2,h3⟩:=h;exact⟨vs,h1,fun i w r c hr=>(h2 i w r c hr).mono b,h3.mono b⟩
theorem RowsT.m_ {D:Mem}{v:Value}(h:RowsT C v rows)(a:C.le D:=by exact mup):RowsT D v rows:=RowsT.mono h a
theorem kS {w:Value}(a:vs[i]?=some w)(b:rows[i]?=some r):(List.zipWith (fun w (r:List Str × Str)=>[w,af r.2]) vs rows)[i]?=some [w,af r.2]:=by
 rw[List.getElem?_zipWith,a,b]
theorem ia (h:vs.length=rows.length):(List.zipWith (fun w (r:List Str × Str)=>[w,af r.2]) vs rows).length=rows.length:=by simp[h]
def Gd (n:Int)(r:List Str × Str):Int:=if dV n r.1≠0 then dV n r.1 else oG (aS r.2)
def ut (n:Int):List (List Str × Str)->Int
|[]=>0
|r::l=>if Gd n r≠0 then Gd n r else ut n l
def tM (n:Int)(rows:List (List Str × Str))(obj:List Str):Int:=if n<0∨60<n then 3 else if 300<rows.length then 4 else if dV n obj≠0 then dV n obj else ut n rows
def Ls (rows:List (List Str × Str)):Prop:=∀ r∈rows,(∀ s∈r.1,s.length<=999998)/\r.2.length<=999998
theorem lY (C:Mem)(p:Tabs C)(n:Int)(E F:Value)(a:List (List Str × Str))(c:List Str)(M:RowsT C E a)(q:Sl C 1 F (c.map gb))(H:Ls a)(N:∀ s∈c,s.length<=999998) :
  Gives cx.P 73 [.agg ⟨[i_ n,E,F]⟩] C (i_ (tM n a c)):=by
 obtain⟨vs,O,Q,t⟩:=M;obtain⟨S,c0,rfl,T,ae,_⟩:=id t;obtain⟨A1,c1,rfl,V,af,_⟩:=id q;have ag:=mx_
 simp only[ia O,au]at t q T V⊢;refine UU func73 48 U3 fun w0=>UQ fun R b=>Vd U6 fun W=>C6 1 [1] b U<|G.freeze 0 U fun _ _ d=>UN 1 U fun R b=>UO (bkT d 1) U8<|UR 3 U<|Vm U6 (fun _=>PtrTo.blockT (Mem.get d mup) _ 1) U3<|UP U6<|Vq U8<|C6 1 [1,7] b U<|G.cd (fun u=>?_) fun u=>?_
 ·have f:n<0∨60<n:=by
   simp only[SX,Rj]at u;omega
  exact UM 1 [2] U<|UT U2<|⟨by unfold tM;rw[aJ f],U⟩
 have f:¬ (n<0∨60<n):=by
  simp only[SK,RJ]at u;omega
 refine UN 1 U fun R b=>UO (bkT d 1) U8<|C6 3 [1,16] b U<|G.cd (fun v=>?_) fun v=>?_
 ·have g:300<a.length:=by
   have:=Qw v;omega
  exact UM 1 [2] U<|UT U2<|⟨by unfold tM;rw[aF f,aJ g],U⟩
 have g:¬ 300<a.length:=by
  have:=Rc v;omega
 refine UN 1 U fun R b=>UO (bkT d 1) U8<|UP U6<|UO (bkT d 1) U8<|UZ (oP _ p.m_ _ n c q.m_ N) U7<|C6 1 [1,3] b U<|UM 2 [1,3,27] U<|G.cd (fun x=>?_) fun x=>?_
 ·have y:dV n c≠0:=by simpa using x
  exact UM 2 [2] U<|UT U2<|⟨by unfold tM;rw[aF f,aF g,aJ y],U⟩
 have y:¬ dV n c≠0:=by simpa using x
 have z:tM n a c=ut n a:=by unfold tM;rw[aF f,aF g,aF y]
 refine UN 1 U fun R b=>UO (bkT d 1) U8<|C6 2 [1,30,31,32] b U<|G.loop (fun fr C' X Y=>∃ (i:Nat),(i<=a.length/\ut n a=ut n (a.drop i))/\fr=[(1,[],p_ W),(30,[],.slice S a.length c0),(31,[],i_ a.length),(32,[],i_ i)]/\X=[]/\Y=a.length-i) (hn_ [1,30,31,32] U) ⟨0,⟨Re _,U⟩,U,U,U⟩ (fun fr ah aj m _ Z=>?_);obtain⟨i,⟨hi,e⟩,rfl,rfl,rfl⟩:=Z;refine UM 1 [1,30,31,32,33] U<|G.cd (fun A=>?_) fun A=>?_
 ·have h:i<a.length:=by
   have:=Qw A;omega
  obtain⟨r,k⟩:∃ r,a[i]?=some r:=⟨a[i],ai h⟩;obtain⟨w,I⟩:∃ w,vs[i]?=some w:=⟨vs[i]'om_,ai _⟩;have J:=aM k;have K:=Q i w r I k;obtain⟨Aw,cw,rfl,_⟩:=id K;have aa:a.drop i=r::a.drop (i+1):=Ry h |>.trans (by rw[(aT.1 k).2]);rw[aa]at e;simp only[ut]at e;refine UQ fun R b=>Va t.m_ U10 om_ (kS I k) fl_ fun ak ab=>UO ab U8<|Ve U5 fun b5=>UX (j:=0) U12<|US [1,5,30,31,32] b U<|G.freeze 0 U fun _ _ L=>UN 1 U fun R b=>UO (bkT L 1) U8<|UP U6<|UO (bkT d 1) U8<|UZ (oP _ p.m_ _ n r.1 K.m_ (H r J).1) U7<|C6 1 [1,5,6,30,31,32] b U<|UM 2 [1,5,6,30,31,32,42] U<|G.cd (fun B=>?_) fun B=>?_
  ·have l:dV n r.1≠0:=by simpa using B
   have o:Gd n r=dV n r.1:=by unfold Gd;rw[aJ l]
   exact UM 2 [2] U<|UT U2<|⟨by rw[z,e,o,aJ l],U⟩
  have l:¬ dV n r.1≠0:=by simpa using B
  have o:Gd n r=oG (aS r.2):=by unfold Gd;rw[aF l]
  refine UN 1 U fun R b=>UO (bkT L 1) U8<|UZ (qi _ p.m_ r.2 (H r J).2) U7<|US [1,30,31,32,46] b U<|G.cd (fun D=>?_) fun D=>?_
  ·have ac:aS r.2=false:=by simpa using D
   exact UM 1 [2] U<|UT U2<|⟨by rw[z,e,o,ac];rfl,U⟩
  have ad:aS r.2=true:=by simpa using D
  refine UQ fun R b=>UV _ U U6<|C6 1 [1,30,31,32] b U<|U0 (m':=a.length-(i+1)) om_ mup (hn_ [1,30,31,32] U) ⟨i+1,⟨by omega,by rw[e,o,ad];rfl⟩,U,U,U⟩
 have h:i=a.length:=by
  have:=Rc A;omega
 exact UM 1 [2] U<|UT U2<|⟨by rw[z,e,h,Sm];rfl,U⟩
theorem fO {b:Rat}{k:Nat}(c:QB k a)(d:QB m b):QB (k+m) (a*b):=by
 rw[eV];refine gu (Nat.mul_ne_zero a.den_nz b.den_nz) ?_ ?_
 ·rw[Sv,Tn];exact SA c.1 d.1
 rw[Tn];exact SA c.2 d.2
theorem zC {b:Rat}{k:Nat}(c:QB k a)(d:QB m b):QB (k+m+1) (a+b):=by
 rw[eW];have e:B9 ^ (k+m+1)=B9 ^ k*B9 ^ m*B9:=by rw[Sp,Tn]
 have f:(a.num*b.den).natAbs<B9 ^ k*B9 ^ m:=by rw[Sv,RS];exact SA c.1 d.2
 have g:(b.num*a.den).natAbs<B9 ^ k*B9 ^ m:=by rw[Sv,RS,RT];exact SA c.2 d.1
 have h:a.den*b.den<B9 ^ k*B9 ^ m:=SA c.2 d.2;have i:2*(B9 ^ k*B9 ^ m)<=B9 ^ k*B9 ^ m*B9:=by
  rw[RT];exact Sz _ dc_
 refine gu (Nat.mul_ne_zero a.den_nz b.den_nz) ?_ ?_
 ·rw[e];have:=Tz (a.num*b.den) (b.num*a.den);omega
 rw[e];omega
def Fh (rs:List (List Rat × Rat))(ds:List Rat)(j n:Nat):Rat:=Lp.sumN (fun k=>ds.getD k 0*(rs.getD k ([],0)).1.getD j 0) n
def EY (rs:List (List Rat × Rat))(ds:List Rat)(n:Nat):Rat:=Lp.sumN (fun k=>ds.getD k 0*(rs.getD k ([],0)).2) n
def di (r:List Rat × Rat):List Str × Str:=(r.1.map qtx,qtx r.2)
structure RowsQ (n:Nat)(rs:List (List Rat × Rat)):Prop where
 l:∀ r∈rs,r.1.length=n
 q:∀ r∈rs,(∀ x∈r.1,QB 23 x)/\QB 23 r.2
 m:rs.length<=150
theorem tj {l:List Rat}(h:∀ x∈l,QB 23 x):QB 23 (l.getD j 0):=by
 rw[am];cases e:l[j]? with
|none=>exact⟨by decide,by decide⟩
|some x=>exact h x (aM e)
theorem HP {n:Nat}{b:List (List Rat × Rat)}{c:List Rat}(d:RowsQ n b)(f:∀ x∈c,QB 23 x)(j:Nat):∀ i,QB (48*(i+1)) (Fh b c j i)
|0=>(show QB 1 (0:Rat) from⟨by decide,by decide⟩).le om_
|i+1=>by
  have h1:=HP d f j i;have h2:QB 23 ((b.getD i ([],0)).1.getD j 0):=by
   refine tj fun x a=>?_;rw[am]at a;cases e:b[i]? with
  |none=>rw[e]at a;simp at a
  |some r=>rw[e]at a;exact(d.q r (aM e)).1 x a
  exact(zC h1 (fO (tj (j:=i) f) h2)).le om_
theorem AT {n:Nat}{a:List (List Rat × Rat)}{b:List Rat}(c:RowsQ n a)(d:∀ x∈b,QB 23 x):∀ i,QB (48*(i+1)) (EY a b i)
|0=>(show QB 1 (0:Rat) from⟨by decide,by decide⟩).le om_
|i+1=>by
  have h1:=AT c d i;have h2:QB 23 (a.getD i ([],0)).2:=by
   rw[am];cases e:a[i]? with
  |none=>exact⟨by decide,by decide⟩
  |some r=>exact(c.q r (aM e)).2
  exact(zC h1 (fO (tj (j:=i) d) h2)).le om_
def zc (m:Nat)(d:List Str)(ds:List Rat):Int:=if dV m d≠0 then dV m d else if ds.any (fun q=>decide (q<0)) then 3 else 0
theorem oN (q:Rat):decide (eG q.num<0)=decide (q<0):=by
 have h:q.num<0 ↔ q<0:=by rw[Rat.lt_iff];simp
 rw[RY];unfold eG;by_cases h1:q.num<0
 ·rw[aJ h1];exact⟨fun _=>h.1 h1,fun _=>by decide⟩
 rw[aF h1];exact⟨fun h2=>by split at h2 <;> exact absurd h2 dc_,fun h2=>absurd (h.2 h2) h1⟩
theorem NC (C:Mem)(q:Rat)(a:(qtx q).length<=1000000):Gives cx.P 155 [af (qtx q)] C (.bool (decide (q<0))):=by
 exact UU func155 6 U3 fun w0=>UM 1 [0] U<|UN 1 U fun R b=>UZ (fb _ q a) U7<|C6 2 [2] b U<|UT U2<|⟨by rw[<- oN],U⟩
theorem QQ {q:Rat}(h:QB 23 q):(qtx q).length<=1000000:=Rn (aZ h dc_) dc_
open Classical in
theorem IE (C:Mem)(v:Value)(a:List Rat)(b:Sl C 1 v (a.map aQ))(c:∀ x∈a,QB 23 x) :
  Gives cx.P 33 [v,.func (.func 155) #[] #[]] C (.bool (a.any fun q=>decide (q<0))):=by
 have h:=qB C v (a.map qtx) 155 [] (fun s=>decide (∃ q:Rat,s=qtx q/\q<0)) (by rw[<- fj];exact b) rfl (fun s hs D f=>by
  obtain⟨q,d,rfl⟩:=Ra.1 hs;have e:decide (∃ p:Rat,qtx q=qtx p/\p<0)=decide (q<0):=by
   rw[RY];exact⟨fun⟨p,h1,h2⟩=>by rw[gr h1];exact h2,fun h2=>⟨q,U,h2⟩⟩
  rw[e];exact NC D q (QQ (c q d)))
 have e:(a.map qtx).any (fun s=>decide (∃ q:Rat,s=qtx q/\q<0))=a.any fun q=>decide (q<0):=by
  rw[List.any_map];congr 1;funext q;show decide (∃ p:Rat,qtx q=qtx p/\p<0)=decide (q<0);rw[RY];exact⟨fun⟨p,h1,h2⟩=>by rw[gr h1];exact h2,fun h2=>⟨q,U,h2⟩⟩
 rw[e]at h;exact h
def sS (n:Nat)(rs:List (List Rat × Rat))(ds:List Rat)(i j:Nat):List Rat:=(List.range n).map fun j2=>if j2<j then Fh rs ds j2 (i+1) else Fh rs ds j2 i
theorem kv (b:Bool):oG b=0/\b=true∨oG b=2/\b=false:=by cases b <;> simp[oG]
theorem fD (n:Nat)(a:List (List Rat × Rat))(b:List Rat)(i j:Nat):(sS n a b i j).length=n:=by simp[sS]
theorem nI {a:Nat}(h:a<n):(sS n rs ds i j)[a]?=some (if a<j then Fh rs ds a (i+1) else Fh rs ds a i):=by
 unfold sS;rw[Rb,RK h];rfl
theorem Ki (h:j<n):(sS n rs ds i j).set j (Fh rs ds j (i+1))=sS n rs ds i (j+1):=by
 refine List.ext_getElem? fun k=>?_;rw[List.getElem?_set,fD];by_cases a:k<n
 ·rw[nI a,nI a];by_cases e:j=k
  ·subst e;rw[aJ rfl,aJ a,aJ om_]
  rw[aF e];by_cases h1:k<j
  ·rw[aJ h1,aJ om_]
  rw[aF h1,aF om_]
 rw[Ri (by rw[fD];omega),Ri (by rw[fD];omega)];split
 ·exact absurd om_ a
 rfl
theorem G1 (n:Nat)(b:List (List Rat × Rat))(c:List Rat)(i:Nat):sS n b c i n=sS n b c (i+1) 0:=by
 refine List.ext_getElem? fun k=>?_;by_cases a:k<n
 ·rw[nI a,nI a,aJ a,aF om_]
 rw[Ri (by rw[fD];omega),Ri (by rw[fD];omega)]
theorem Kj (n:Nat)(b:List (List Rat × Rat))(c:List Rat):List.replicate n (af [48])=((sS n b c 0 0).map aQ).flatten:=by
 have e:sS n b c 0 0=List.replicate n 0:=by
  refine List.ext_getElem? fun k=>?_;by_cases a:k<n
  ·rw[nI a,Sq,aJ a,aF om_];rfl
  rw[Ri (by rw[fD];omega),Sq,aF a]
 rw[e,TJ,show aQ 0=[af [48]] by unfold aQ;rw[qtx_zero]];clear e;induction n with
|zero=>rfl
|succ n d=>rw[Sd,Sd,Si,<- d];rfl
theorem bI:∀ q:Rat,(aQ q).length=1:=fun _=>rfl
theorem J0 (C:Mem)(p:Tabs C)(n:Nat)(rv ov dv:Value)(a:List (List Rat × Rat))(d:List Str)(b:List Rat)(K:RowsT C rv (a.map di))(e:RowsQ n a)(hn:n<=1000)(z:Sl C 1 dv (d.map gb))(an:∀ s∈d,s.length<=999998)
  (ao:d.all aS=true->d=b.map qtx/\∀ x∈b,QB 23 x) :
  Pur cx.P 93 [.agg ⟨[i_ n,rv,ov]⟩,.agg ⟨[dv]⟩] C fun u D=>∃ fv bs,u=.tuple #[fv,af bs,i_ (zc a.length d b)]/\(zc a.length d b=0->Sl D 1 fv ((sS n a b a.length 0).map aQ)/\bs=qtx (EY a b a.length)):=by
 obtain⟨vs,ac,ap,A⟩:=K;obtain⟨A0,c0,rfl,aq,aP,_⟩:=id A;obtain⟨L,M,rfl,ar,aR,_⟩:=id z;have aT:=mx_
 have aU:=e.m;simp only[ia ac,au]at A z aq ar ac⊢;refine UU func93 72 U3 fun w0=>UQ fun R c=>Vd U6 fun b2=>Vd U6 fun b3=>C6 3 [2,3] c U<|G.freeze 1 U fun _ _ B=>G.freeze 0 U fun _ _ E=>UN 1 U fun R c=>UO (bkT E 1) U8<|UP U6<|UO (bkT B 1) U8<|UP U6<|UZ (oP _ p.m_ _ (a.length:Nat) d z.m_ an) U7<|C6 1 [2,3,7] c U<|UM 2 [2,3,7,19] U<|G.cd (fun N=>?_) fun N=>?_
 ·have o:dV (a.length:Nat) d≠0:=by simpa using N
  have f:zc a.length d b=dV (a.length:Nat) d:=by unfold zc;rw[aJ o]
  refine UM 4 [4,5,6] U<|U1 (G.dropAll (VG U4 ?_));exact⟨U,.slice none 0 0,[],by rw[f];rfl,fun h=>absurd (f.symm.trans h) o⟩
 have o:¬ dV (a.length:Nat) d≠0:=by simpa using N
 have g:dV (a.length:Nat) d=0:=by simpa using o
 have O:d.length=a.length:=by
  unfold dV at g;split at g
  ·omega
  cases g
 have av:d.all aS=true:=by
  unfold dV at g;rw[aJ om_]at g;rcases kv (d.all aS) with⟨h1,h2⟩|⟨h1,h2⟩
  ·exact h2
  rw[h1]at g;cases g
 obtain⟨ad,F⟩:=ao av;have aV:b.length=a.length:=by rw[<- O,ad,au]
 have ae:Sl C 1 (.slice L a.length M) (b.map aQ):=by rw[fj,<- ad,<- O];exact z
 rw[O]at E;refine UN 1 U fun R c=>UO (bkT E 1) U8<|UZ (IE _ _ b ae.m_ F) U7<|US [2,3,23] c U<|G.cd (fun Q=>?_) fun Q=>?_
 ·have f:zc a.length d b=3:=by unfold zc;rw[aF o,aJ Q]
  refine UM 3 [4,5,6] U<|U1 (G.dropAll (VG U4 ?_));exact⟨U,.slice none 0 0,[],by rw[f];rfl,fun h=>absurd (f.symm.trans h) dc_⟩
 have f:zc a.length d b=0:=by unfold zc;rw[aF o,aF (by rw[Q];decide)]
 refine Vl [(2,3)] U fun R c=>UP U6<|UO (bkT B 1) U8<|D.call (gN _ n om_) U (.inr dc_) U6 (Rh _) fl_ (fun aW _ aX _ aw=>?_);obtain⟨bz,rfl,rfl⟩:=aw;refine C6 2 [2,3,4,5] c U<|UN 1 U fun R c=>UO (bkT E 1) U8<|C6 2 [2,4,5,28,29,30] c U<|Vc (L':=[.arr (s_ bz n n) 32 1 n ((sS n a b 0 0).map aQ).flatten]) (by rw[Kj n a b];rfl)<|G.loop (fun fr C' t S=>∃ (i:Nat)(T:Str),(i<=a.length/\T=qtx (EY a b i))/\fr=[(2,[],p_ b2),(4,[],s_ bz n n),(5,[],af T),(28,[],.slice L a.length M),(29,[],i_ a.length),(30,[],i_ i)]/\t=[.arr (s_ bz n n) 32 1 n ((sS n a b i 0).map aQ).flatten]/\S=a.length-i) (hn_ [2,4,5,28,29,30] U) ⟨0,[48],⟨Re _,qtx_zero.symm⟩,U,U,U⟩ (fun fr aY aZ m _ V=>?_);obtain⟨i,T,⟨hi,ah⟩,rfl,rfl,rfl⟩:=V;refine UM 1 [2,4,5,28,29,30,31] U<|G.cd (fun W=>?_) fun W=>?_
 ·subst ah;have X:i<a.length:=by
   have:=Qw W;omega
  obtain⟨r,Y⟩:∃ r,a[i]?=some r:=⟨a[i],ai X⟩;have Z:(a.map di)[i]?=some (di r):=by rw[Rb,Y];rfl
  obtain⟨w,H⟩:∃ w,vs[i]?=some w:=⟨vs[i]'om_,ai _⟩;obtain⟨k,hk⟩:∃ k,b[i]?=some k:=⟨b[i]'om_,ai om_⟩;have I:=aM Y;have ax:=ap i w _ H Z;have aa:Sl C 1 w (r.1.map aQ):=by rw[fj];exact ax
  obtain⟨Aw,cw,rfl,_⟩:=id aa;have ay:=e.l r I;rw[au,ay]at aa H;have J:QB 23 k:=F k (aM hk);have aj:b.getD i 0=k:=by rw[am,hk];rfl
  have ak:a.getD i ([],0)=r:=by rw[am,Y];rfl
  have az:=AT e F i;have aA:EY a b (i+1)=EY a b i+k*r.2:=by
   unfold EY;simp only[Lp.sumN];rw[aj,ak]
  refine UN 1 U fun R c=>Va ae.m_ U10 om_ (ep hk) fl_ fun a0 aB=>UO aB U8<|C6 2 [2,4,5,8,9,28,29,30] c U<|UN 3 U fun R c=>UO (bkT B 1) U8<|UP U6<|Va A.m_ U10 om_ (kS H Z) fl_ fun a1 aC=>V0 aC U10 fl_ fun a2 aD=>UO aD U8<|UY (cP _ p.m_ k r.2 23 dc_ dc_ J (e.q r I).2) U7 fl_<|UY (il _ p.m_ (EY a b i) (k*r.2) (48*(i+1)) om_ om_ az ((fO J (e.q r I).2).le om_)) U7 fl_<|C6 1 [2,4,5,8,9,28,29,30] c U ?_;rw[<- aA];refine UN 1 U fun R c=>UO (bkT B 1) U8<|UP U6<|Va A.m_ U10 om_ (kS H Z) fl_ fun a3 aE=>V0 aE U10 fl_ fun a4 aG=>UO aG U8<|C6 2 [2,4,5,9,28,29,30,50,51,52] c U<|G.loop (fun fr C' t S=>∃ (j:Nat),(j<=n)/\fr=[(2,[],p_ b2),(4,[],s_ bz n n),(5,[],af (qtx (EY a b (i+1)))),(9,[],af (qtx k)),(28,[],.slice L a.length M),(29,[],i_ a.length),(30,[],i_ i),(50,[],.slice Aw n cw),(51,[],i_ n),(52,[],i_ j)]/\t=[.arr (s_ bz n n) 32 1 n ((sS n a b i j).map aQ).flatten]/\S=n-j) (hn_ [2,4,5,9,28,29,30,50,51,52] U) ⟨0,Re _,U,U,U⟩ (fun fr a5 a6 m _ V=>?_);obtain⟨j,hj,rfl,rfl,rfl⟩:=V;refine UM 1 [2,4,5,9,28,29,30,50,51,52,53] U<|G.cd (fun ab=>?_) fun ab=>?_
  ·have v:j<n:=by
    have:=Qw ab;omega
   obtain⟨x,hx⟩:∃ x,r.1[j]?=some x:=⟨r.1[j]'om_,ai om_⟩;have al:QB 23 x:=(e.q r I).1 x (aM hx);have aH:r.1.getD j 0=x:=by rw[am,hx];rfl
   have aI:=HP e F j i;have aK:Fh a b j (i+1)=Fh a b j i+k*x:=by
    unfold Fh;simp only[Lp.sumN];rw[aj,ak,aH]
   have aL:(sS n a b i j)[j]?=some (Fh a b j i):=by rw[nI v,aF om_]
   refine UN 1 U fun R c=>Va aa.m_ U10 om_ (ep hx) fl_ fun a7 aN=>UO aN U8<|C6 2 [2,4,5,9,10,11,28,29,30,50,51,52] c U<|Vg [0,1,2,3,4,5,6,7,8,9,10,11] [(8,1),(9,1)] U kr_ fun R hB c=>UR 4 U<|Vp (j*1) U10 w_ U2<|VE ag U6 (fun _=>(by rw[dO bI aL];rfl)) U2<|UR 2 U<|Vh (fun _=>(cP _ p.m_ k x 23 dc_ dc_ J al)) U9<|Vh (fun _=>(il _ p.m_ (Fh a b j i) (k*x) (48*(i+1)) om_ om_ aI ((fO J al).le om_))) U9<|Vp (j*1) U10 w_ U2<|Vr (j:=0) U11 (by show j*1+1<=_;rw[bT bI,fD];omega)<|US [2,4,5,9,28,29,30,50,51,52] c U<|UQ fun R c=>UV _ U U6<|C6 1 [2,4,5,9,28,29,30,50,51,52] c U<|Vc (L':=[.arr (s_ bz n n) 32 1 n ((sS n a b i (j+1)).map aQ).flatten]) (by rw[<- Ki v,aK,<- bM bI _ (by rw[fD];exact v)];rfl)<|U0 (m':=n-(j+1)) om_ mup (hn_ [2,4,5,9,28,29,30,50,51,52] U) ⟨j+1,om_,U,U,U⟩
  have v:j=n:=by
   have:=Rc ab;omega
  refine UQ fun R c=>UV _ U U6<|C6 1 [2,4,5,28,29,30] c U ?_;rw[v,G1];refine U0 (m':=a.length-(i+1)) om_ mup (hn_ [2,4,5,28,29,30] U) ⟨i+1,_,⟨by omega,U⟩,U,U,U⟩
 subst ah;have X:i=a.length:=by
  have:=Rc W;omega
 subst X;refine UM 5 [4,5,6] U<|G.freezeArr 0 ((sS n a b a.length 0).map aQ) U2 (by intro r K;obtain⟨y,_,rfl⟩:=Ra.1 K;rfl) (by rw[au,fD]) fun Cg hg aO=>U1 (G.dropAll (VG U4 ?_));exact⟨U,_,_,by rw[f],fun _=>⟨aO,U⟩⟩
theorem PL (C:Mem)(q:Rat):Gives cx.P 95 [af (qtx q)] C (.bool (!decide (q=0))):=by
 exact UU func95 5 U3 fun w0=>UM 1 [0] U<|UM 3 [2] U<|UT U2<|⟨by rw[<- eK],U⟩
open Classical in
theorem Ln (C:Mem)(v:Value)(a:List Rat)(c:Sl C 1 v (a.map aQ)) :
  Gives cx.P 33 [v,.func (.func 95) #[] #[]] C (.bool (a.any fun q=>!decide (q=0))):=by
 have b:∀ q:Rat,decide (∃ p:Rat,qtx q=qtx p/\¬ p=0)=!decide (q=0):=fun q=>by
  rw[<- decide_not,RY];exact⟨fun⟨p,h1,h2⟩=>by rw[gr h1];exact h2,fun h2=>⟨q,U,h2⟩⟩
 have h:=qB C v (a.map qtx) 95 [] (fun s=>decide (∃ q:Rat,s=qtx q/\¬ q=0)) (by rw[<- fj];exact c) rfl (fun s hs D d=>by
  obtain⟨q,f,rfl⟩:=Ra.1 hs;rw[b];exact PL D q)
 have e:(a.map qtx).any (fun s=>decide (∃ q:Rat,s=qtx q/\¬ q=0))=a.any fun q=>!decide (q=0):=by
  rw[List.any_map];congr 1;funext q;exact b q
 rw[e]at h;exact h
theorem uF (q:Rat):decide (eG q.num ≥ 0)=decide (0<=q):=by
 have h:=oN q;have h2:decide (0<=q)=!decide (q<0):=by
  rw[<- decide_not,RY];grind
 rw[h2,<- h,<- decide_not,RY];omega
def LX (n:Nat)(rows:List (List Str × Str))(obj d:List Str)(rs:List (List Rat × Rat))(ds:List Rat):Int :=
 if tM n rows obj≠0 then tM n rows obj else if zc rs.length d ds≠0 then zc rs.length d ds else if 0<=EY rs ds rs.length∨(sS n rs ds rs.length 0).any (fun q=>!decide (q=0))=true then 23 else 0
theorem qo (C:Mem)(r:Tabs C)(n:Nat)(t u v:Value)(c:List (List Str × Str))(e d:List Str)(a:List (List Rat × Rat))(b:List Rat)(w:RowsT C t c)(y:Sl C 1 u (e.map gb))(E:Ls c)(F:∀ s∈e,s.length<=999998)
  (z:Sl C 1 v (d.map gb)) (H:∀ s∈d,s.length<=999998) (I:tM n c e=0->c=a.map di/\RowsQ n a) (A:d.all aS=true->d=b.map qtx/\∀ x∈b,QB 23 x) :
  Gives cx.P 39 [.agg ⟨[i_ n,t,u]⟩,.agg ⟨[v]⟩] C (i_ (LX n c e d a b)):=by
 have B:=w;have J:=y;have K:=z;obtain⟨vs,X,Y,L⟩:=w;obtain⟨Z,c0,rfl,aa,ab,_⟩:=id L;obtain⟨A1,c1,rfl,ac,ad,_⟩:=id y;obtain⟨A2,c2,rfl,ae,af,_⟩:=id z;refine UU func39 33 U3 fun w0=>UQ fun R f=>Vd U6 fun b2=>Vd U6 fun b3=>C6 1 [2,3] f U<|G.freeze 1 U fun _ _ D=>G.freeze 0 U fun _ _ M=>UQ fun R f=>UO (bkT D 3) U8<|UZ (lY _ r.m_ (n:Nat) _ _ c e B.m_ J.m_ E F) U7<|C6 1 [2,3,5] f U<|UM 2 [2,3,5,12] U<|G.cd (fun k=>?_) fun k=>?_
 ·have g:tM n c e≠0:=by simpa using k
  exact UM 2 [4] U<|UT U2<|⟨by unfold LX;rw[aJ g],U⟩
 have g:¬ tM n c e≠0:=by simpa using k
 have i:tM n c e=0:=by simpa using g
 obtain⟨N,l⟩:=I i;have ag:n<=60:=by
  unfold tM at i;split at i
  ·cases i
  omega
 refine UQ fun R f=>UO (bkT D 3) U8<|UO (bkT M 1) U8<|Vo (J0 _ r.m_ n _ _ _ a d b (by rw[<- N];exact B.mono mup) l om_ K.m_ H A) U7 fl_ (fun ah _ _ O=>?_);obtain⟨fv,bt,rfl,Q⟩:=O;refine C6 7 [6,7,8] f U<|UM 3 [6,7,8,21] U<|G.cd (fun o=>?_) fun o=>?_
 ·have hs:zc a.length d b≠0:=by simpa using o
  exact UM 2 [4] U<|UT U2<|⟨by unfold LX;rw[aF g,aJ hs],U⟩
 have hs:¬ zc a.length d b≠0:=by simpa using o
 have j:zc a.length d b=0:=by simpa using hs
 obtain⟨S,T⟩:=Q j;subst T;have V:d.all aS=true:=by
  unfold zc at j;split at j
  ·rename_i h1;exact absurd j h1
  rename_i h1;have h2:dV (a.length:Nat) d=0:=by simpa using h1
  unfold dV at h2;split at h2
  ·rcases kv (d.all aS) with⟨_,h4⟩|⟨h3,_⟩
   ·exact h4
   rw[h3]at h2;cases h2
  cases h2
 have W:=AT l (A V).2 a.length;have ai:=l.m;refine UN 1 U fun R f=>UY (fb _ (EY a b a.length) (Rn (aZ W om_) om_)) U7 fl_<|UR 3 U<|Vv (fun _=>(Ln _ _ _ S.m_)) U9<|Vq U8<|C6 1 [25] f U<|G.cd (fun h=>?_) fun h=>?_
 ·have p:0<=EY a b a.length∨(sS n a b a.length 0).any (fun q=>!decide (q=0))=true:=by
   rw[SX,uF,Rj]at h;exact h
  exact UM 1 [4] U<|UT U2<|⟨by unfold LX;rw[aF g,aF hs,aJ p],U⟩
 have p:¬ (0<=EY a b a.length∨(sS n a b a.length 0).any (fun q=>!decide (q=0))=true):=by
  rw[SK,uF,RJ]at h;rintro (h1|h1)
  ·exact h.1 h1
  rw[h.2]at h1;cases h1
 exact UM 1 [4] U<|UT U2<|⟨by unfold LX;rw[aF g,aF hs,aF p],U⟩
theorem IX:qtx 0=[48]:=by decide +kernel
theorem Q0:aQ 0=[Value.string ⟨#[48]⟩]:=by
 show [af (qtx 0)]=_;rw[IX];rfl
def zF (fs:List Rat)(s q:Nat):Rat:=if q=s then 0 else fs.getD q 0
def kX (fs bf:List Rat)(s:Nat)(k:Rat)(j:Nat):List Rat:=(List.range fs.length).map fun q=>zF fs s q+(if q<j then k*bf.getD q 0 else 0)
theorem io :(kX fs bf s k j).length=fs.length:=by simp[kX]
theorem xp :fs.set s 0=kX fs bf s k 0:=by
 refine List.ext_getElem? fun q=>?_;unfold kX;rw[List.getElem?_set,Rb];by_cases a:q<fs.length
 ·rw[RK a];simp only[SN,Nat.not_lt_zero,SF];unfold zF;split
  ·next e=>rw[aJ om_,aJ e.symm];rw[Rat.add_zero]
  next e=>rw[aF (fun b=>e b.symm),am,ai a];simp only[Sr];congr 1;grind
 rw[Ri om_,Ri ap];split
 ·split
  ·omega
  rfl
 rfl
theorem uB (h:q<fs.length):(kX fs bf s k j)[q]?=some (zF fs s q+(if q<j then k*bf.getD q 0 else 0)):=by
 unfold kX;rw[Rb,RK h];rfl
theorem Cd (h:j<fs.length):(kX fs bf s k j).set j (zF fs s j+k*bf.getD j 0)=kX fs bf s k (j+1):=by
 refine List.ext_getElem? fun q=>?_;rw[List.getElem?_set,io];by_cases a:q<fs.length
 ·rw[uB a,uB a];by_cases e:j=q
  ·subst e;rw[aJ rfl,aJ a,aJ om_]
  rw[aF e];by_cases h1:q<j
  ·rw[aJ h1,aJ om_]
  rw[aF h1,aF om_]
 rw[Ri (by rw[io];omega),Ri (by rw[io];omega)];split
 ·exact absurd om_ a
 rfl
theorem xr (a:bf.getD j 0=0):kX fs bf s k j=kX fs bf s k (j+1):=by
 refine List.map_congr_left fun q _=>?_;by_cases e:q=j
 ·subst e;rw[aF om_,aJ om_,a];grind
 by_cases h1:q<j
 ·rw[aJ h1,aJ om_]
 rw[aF h1,aF om_]
theorem xq :kX fs bf s 0 j=kX fs bf s 0 0:=by
 refine List.map_congr_left fun q _=>?_;split <;> split <;> grind
theorem Gr {c bc:Rat}(_b:s<fs.length):Lp.putL ⟨c,fs⟩ s ⟨bc,bf⟩=⟨c+fs.getD s 0*bc,kX fs bf s (fs.getD s 0) fs.length⟩:=by
 unfold Lp.putL;congr 1;refine List.map_congr_left fun q a=>?_;rw[aJ (Rv.1 a)];rfl
theorem O0 (a:∀ x∈fs,QB 50 x)(b:q<fs.length):QB 50 (zF fs s q):=by
 unfold zF;split
 ·exact⟨by decide,by decide⟩
 rw[am,ai b];exact a _ (R6 _)
def bH (p:Rat × Value):List Value:=[af (qtx p.1),p.2]
theorem gW:∀ p,(bH p).length=2:=fun _=>rfl
theorem oR {p:Rat × Value}(h:ls[i]?=some p):(ls.map bH).flatten.drop (i*2)=af (qtx p.1)::p.2::(ls.map bH).flatten.drop (i*2+2):=by
 obtain⟨h1,h2⟩:=aT.1 h;have e:=(cI gW ls i).2;have a:=(cI gW ls (i+1)).2;rw[SL]at a;rw[e,a,Ry h1,h2];rfl
theorem JA {p:Rat × Value}(h:ls[i]?=some p):ls.set i p=ls:=by
 refine List.ext_getElem? fun j=>?_;rw[List.getElem?_set];split
 ·next e=>subst e;rw[aJ (aT.1 h).1,h]
 rfl
theorem En {p:Rat × Value}(h:ls[i]?=some p):((ls.map bH).flatten.drop (i*2)).take 1=[af (qtx p.1)]:=by rw[oR h];rfl
theorem kf {p:Rat × Value}(h:ls[i]?=some p):((ls.map bH).flatten.drop (i*2+1)).take 1=[p.2]:=by rw[<- List.drop_drop,oR h];rfl
theorem zM {p:Rat × Value}(h:ls[i]?=some p)(c:Rat):aE (ls.map bH).flatten [af (qtx c)] (i*2)=((ls.set i (c,p.2)).map bH).flatten:=by
 rw[<- bM gW (c,p.2) (aT.1 h).1];unfold aE;have:(ls.map bH).flatten.drop (i*2+1)=p.2::(ls.map bH).flatten.drop (i*2+2):=by rw[<- List.drop_drop,oR h];rfl
 show _++[_]++List.drop (i*2+1) _=_++[_,_]++List.drop (i*2+2) _;rw[this];simp
theorem Nv (C:Mem)(t:Tabs C)(g e f n s:Nat)(i l o p z:Value)(b d:List Rat)(c h:Rat)(ah:b.length=n)(aj:d.length=n)(hs:s<n)(q:Sl C 1 z (d.map aQ))(Q:QB 50 c)(A:∀ x∈b,QB 50 x)(B:QB 50 h)(S:∀ x∈d,QB 50 x) :
  Jog.Fn cx.P 262 [.pointer (some ⟨g,4,none⟩),i_ s,.agg ⟨[af (qtx h),z]⟩] C [.obj g (.cells ⟨[i,l,o,p,af (qtx c),s_ e n f]⟩ 231 (0,0)),.arr (s_ e n f) 32 1 n (b.map aQ).flatten]
   fun u _ r=>u=.tuple #[]/\r=[.obj g (.cells ⟨[i,l,o,p,af (qtx (c+b.getD s 0*h)),s_ e n f]⟩ 231 (0,0)),.arr (s_ e n f) 32 1 n ((kX b d s (b.getD s 0) n).map aQ).flatten]:=by
 obtain⟨T,V,rfl,W,ak,_⟩:=id q;simp only[au]at W q⊢;have D:s<b.length:=by omega
 have al:=mx_
 obtain⟨k,E⟩:∃ k,b.getD s 0=k:=⟨_,rfl⟩;have F:b[s]?=some k:=by rw[<- E,am,ai D];rfl
 have v:QB 50 k:=A k (aM F);rw[E];refine UU func262 64 U3 fun w0=>?_;refine Vc (L':=[.obj g (.cells ⟨[i,l,o,p,af (qtx c),s_ e n f]⟩ 231 (0,0)),.arr (s_ e n f) 32 1 n (b.map aQ).flatten]) U ?_;refine UQ fun R a=>?_;refine Vd U6 (fun b5=>?_);refine US [0,1,5] a U ?_;clear a R;refine G.freeze 0 U (fun _ _ H=>?_);refine UN 3 U fun R a=>?_;refine UW ag U9 ?_;refine UP U6 ?_;refine Vp (s*1) U10 w_ U2 ?_;refine VE ae U6 (fun _=>(by rw[dO bI F];rfl)) U2 ?_;refine C6 1 [0,1,5,6] a U ?_;clear a R;refine UN 3 U fun R a=>?_;refine UW ag U9 ?_;refine UP U6 ?_;refine Vp (s*1) U10 w_ U2 ?_;refine Vr (j:=1) U11 (by show s*1+1<=_;rw[bT bI];omega) ?_;refine US [0,5,6] a U ?_;clear a R;refine G.perm (L':=[.obj g (.cells ⟨[i,l,o,p,af (qtx c),s_ e n f]⟩ 231 (0,0)),.arr (s_ e n f) 32 1 n ((kX b d s k 0).map aQ).flatten]) (by rw[<- xp,<- bM bI 0 D,Q0];exact List.Perm.swap _ _ _) ?_;refine UM 2 [0,5,6,23] U ?_;refine G.cd (fun I=>?_) fun I=>?_
 ·have X:qtx k=[48]:=by simpa using I
  have Y:k=0:=gr (X.trans (by decide +kernel:([48]:List UInt8)=qtx 0));subst Y;have Z:c+0*h=c:=by grind
  refine Vc (L':=[.obj g (.cells ⟨[i,l,o,p,af (qtx (c+0*h)),s_ e n f]⟩ 231 (0,0)),.arr (s_ e n f) 32 1 n ((kX b d s 0 n).map aQ).flatten]) (by rw[Z,xq (j:=n)]) ?_;refine U1 (WT U  ?_);exact⟨U,U⟩
 refine Vg [0,1,2,3,4,5,6,7,8,9,10,11,12] [(8,1),(9,1)] U kr_ (fun R q a=>?_);refine UR 4 U ?_;refine UW ag U9 ?_;refine UR 2 U ?_;refine UO (bkT H 1) U8 ?_;refine Vh (fun _=>(cP _ t.m_ k h 50 dc_ dc_ v B)) U9 ?_;refine Vh (fun _=>(il _ t.m_ c (k*h) 100 dc_ dc_ (Q.le dc_) ((fO v B).le dc_))) U9 ?_;refine UR 2 U ?_;refine UX (j:=0) U12 ?_;refine US [0,5,6] a U ?_;clear a q R;refine UN 1 U fun R a=>?_;refine UO (bkT H 1) U8 ?_;refine C6 2 [0,6,37,38,39] a U ?_;clear a R;refine G.loop (fun fr C' r μ=>∃ (j:Nat),(j<=n)/\fr=[(0,[],.pointer (some ⟨g,4,none⟩)),(6,[],af (qtx k)),(37,[],.slice T d.length V),(38,[],i_ d.length),(39,[],i_ j)]/\r=[.obj g (.cells ⟨[i,l,o,p,af (qtx (c+k*h)),s_ e n f]⟩ 231 (0,0)),.arr (s_ e n f) 32 1 n ((kX b d s k j).map aQ).flatten]/\μ=n-j) (hn_ [0,6,37,38,39] U) ⟨0,Re _,U,U,U⟩ (fun fr an ao m J hI=>?_);obtain⟨j,hj,rfl,rfl,rfl⟩:=hI;refine UM 1 [0,6,37,38,39,40] U ?_;refine G.cd (fun w=>?_) fun w=>?_
 ·have K:j<n:=by
   have:=Qw w;omega
  obtain⟨x,y⟩:∃ x,d[j]?=some x:=⟨d[j]'om_,ai om_⟩;have L:QB 50 x:=S x (aM y);have M:d.getD j 0=x:=by rw[am,y];rfl
  have aa:(kX b d s k j)[j]?=some (zF b s j):=by
   rw[uB om_,aF (Nat.lt_irrefl _)];congr 1;grind
  have qz:=O0 (s:=s) A (show j<b.length by omega);have N:=Cd (bf:=d) (s:=s) (k:=k) (show j<b.length by omega);rw[M]at N;refine UN 1 U fun R a=>?_;refine Va q.m_ U10 om_ (ep y) fl_ (fun ap ab=>?_);refine UO ab U8 ?_;refine C6 2 [0,6,7,8,37,38,39] a U ?_;clear a R;refine UM 2 [0,6,7,8,37,38,39,45] U ?_;refine G.cd (fun O=>?_) fun O=>?_
  ·refine Vg [0,1,2,3,4,5,6,7,8,9,10,11,12,13,14,15,16,17] [(14,1),(15,1)] U kr_ (fun R q a=>?_);refine UR 3 U ?_;refine UW ag U9 ?_;refine UR 4 U ?_;refine UW ag U9 ?_;refine UP U6 ?_;refine Vp (j*1) U10 w_ U2 ?_;refine VE ae U6 (fun _=>(by rw[dO bI aa];rfl)) U2 ?_;refine UR 2 U ?_;refine Vh (fun _=>(cP _ t.m_ k x 50 dc_ dc_ v L)) U9 ?_;refine Vh (fun _=>(il _ t.m_ (zF b s j) (k*x) 100 dc_ dc_ (qz.le dc_) ((fO v L).le dc_))) U9 ?_;refine Vp (j*1) U10 w_ U2 ?_;refine Vr (j:=1) U11 (by show j*1+1<=_;rw[bT bI,io];omega) ?_;refine US [0,6,37,38,39] a U ?_;clear a q R;refine UQ fun R a=>?_;refine UV _ U U6 ?_;refine C6 1 [0,6,37,38,39] a U ?_;clear a R;refine G.perm (L':=[.obj g (.cells ⟨[i,l,o,p,af (qtx (c+k*h)),s_ e n f]⟩ 231 (0,0)),.arr (s_ e n f) 32 1 n ((kX b d s k (j+1)).map aQ).flatten]) (by rw[<- N,<- bM bI _ (by rw[io];omega)];exact List.Perm.swap _ _ _) ?_;refine U0 (m':=n-(j+1)) om_ J (hn_ [0,6,37,38,39] U) ⟨j+1,om_,U,U,U⟩
  have ac:x=0:=by
   have ad:qtx x=[48]:=by simpa using O
   exact gr (ad.trans (by decide +kernel:([48]:List UInt8)=qtx 0))
  rw[xr (j:=j) (by rw[M];exact ac)];refine UQ fun R a=>?_;refine UV _ U U6 ?_;refine C6 1 [0,6,37,38,39] a U ?_;clear a R;refine U0 (m':=n-(j+1)) om_ J (hn_ [0,6,37,38,39] U) ⟨j+1,om_,U,U,U⟩
 have K:j=n:=by
  have:=Rc w;omega
 rw[K];refine V1 U ?_;exact⟨U,U⟩
theorem Nw (C:Mem)(t:Tabs C)(l m o i e f n s:Nat)(z:Value)(h:List (Rat × Value))(b d:List Rat)(c g:Rat)(aj:h.length=m)(q:h[i]?=some (c,s_ e n f))(ak:b.length=n)(al:d.length=n)(hs:s<n)(r:Sl C 1 z (d.map aQ))(S:QB 50 c)(A:∀ x∈b,QB 50 x)(B:QB 50 g)(T:∀ x∈d,QB 50 x) :
  Jog.Fn cx.P 262 [.pointer (some ⟨l,i*2,none⟩),i_ s,.agg ⟨[af (qtx g),z]⟩] C [.arr (s_ l m o) 228 2 m (h.map bH).flatten,.arr (s_ e n f) 32 1 n (b.map aQ).flatten]
   fun u _ p=>u=.tuple #[]/\p=[.arr (s_ l m o) 228 2 m ((h.set i (c+b.getD s 0*g,s_ e n f)).map bH).flatten,.arr (s_ e n f) 32 1 n ((kX b d s (b.getD s 0) n).map aQ).flatten]:=by
 obtain⟨V,W,rfl,X,an,_⟩:=id r;simp only[au]at X r⊢;have D:s<b.length:=by omega
 have ao:=mx_
 obtain⟨k,E⟩:∃ k,b.getD s 0=k:=⟨_,rfl⟩;have F:b[s]?=some k:=by rw[<- E,am,ai D];rfl
 have v:QB 50 k:=A k (aM F);rw[E];refine UU func262 64 U3 fun w0=>?_;refine Vc (L':=[.arr (s_ l m o) 228 2 m (h.map bH).flatten,.arr (s_ e n f) 32 1 n (b.map aQ).flatten]) U ?_;refine UQ fun R a=>?_;refine Vd U6 (fun b5=>?_);refine US [0,1,5] a U ?_;clear a R;refine G.freeze 0 U (fun _ _ H=>?_);refine UN 3 U fun R a=>?_;refine VE ag U6 (fun _=>(by rw[kf q];rfl)) U2 ?_;refine UP U6 ?_;refine Vp (s*1) U10 w_ U2 ?_;refine VE ae U6 (fun _=>(by rw[dO bI F];rfl)) U2 ?_;refine C6 1 [0,1,5,6] a U ?_;clear a R;refine UN 3 U fun R a=>?_;refine VE ag U6 (fun _=>(by rw[kf q];rfl)) U2 ?_;refine UP U6 ?_;refine Vp (s*1) U10 w_ U2 ?_;refine Vr (j:=1) U11 (by show s*1+1<=_;rw[bT bI];omega) ?_;refine US [0,5,6] a U ?_;clear a R;refine G.perm (L':=[.arr (s_ l m o) 228 2 m (h.map bH).flatten,.arr (s_ e n f) 32 1 n ((kX b d s k 0).map aQ).flatten]) (by rw[<- xp,<- bM bI 0 D,Q0];exact List.Perm.swap _ _ _) ?_;refine UM 2 [0,5,6,23] U ?_;refine G.cd (fun I=>?_) fun I=>?_
 ·have Y:qtx k=[48]:=by simpa using I
  have Z:k=0:=gr (Y.trans (by decide +kernel:([48]:List UInt8)=qtx 0));subst Z;have aa:c+0*g=c:=by grind
  refine Vc (L':=[.arr (s_ l m o) 228 2 m ((h.set i (c+0*g,s_ e n f)).map bH).flatten,.arr (s_ e n f) 32 1 n ((kX b d s 0 n).map aQ).flatten]) (by rw[aa,xq (j:=n),JA q]) ?_;refine U1 (WT U  ?_);exact⟨U,U⟩
 refine Vg [0,1,2,3,4,5,6,7,8,9,10,11,12] [(8,1),(9,1)] U kr_ (fun R r a=>?_);refine UR 4 U ?_;refine VE ag U6 (fun _=>(by rw[En q];rfl)) U2 ?_;refine UR 2 U ?_;refine UO (bkT H 1) U8 ?_;refine Vh (fun _=>(cP _ t.m_ k g 50 dc_ dc_ v B)) U9 ?_;refine Vh (fun _=>(il _ t.m_ c (k*g) 100 dc_ dc_ (S.le dc_) ((fO v B).le dc_))) U9 ?_;refine UR 2 U ?_;refine Vr (j:=0) U11 (by show i*2+1<=_;rw[bT gW];have:=(aT.1 q).1;omega) ?_;refine US [0,5,6] a U ?_;clear a r R;refine Vc (L':=[.arr (s_ l m o) 228 2 m ((h.set i (c+k*g,s_ e n f)).map bH).flatten,.arr (s_ e n f) 32 1 n ((kX b d s k 0).map aQ).flatten]) (by rw[<- zM q];rfl) ?_;have J:(h.set i (c+k*g,s_ e n f))[i]?=some (c+k*g,s_ e n f):=T2 (aT.1 q).1;refine UN 1 U fun R a=>?_;refine UO (bkT H 1) U8 ?_;refine C6 2 [0,6,37,38,39] a U ?_;clear a R;refine G.loop (fun fr C' p μ=>∃ (j:Nat),(j<=n)/\fr=[(0,[],.pointer (some ⟨l,i*2,none⟩)),(6,[],af (qtx k)),(37,[],.slice V d.length W),(38,[],i_ d.length),(39,[],i_ j)]/\p=[.arr (s_ l m o) 228 2 m ((h.set i (c+k*g,s_ e n f)).map bH).flatten,.arr (s_ e n f) 32 1 n ((kX b d s k j).map aQ).flatten]/\μ=n-j) (hn_ [0,6,37,38,39] U) ⟨0,Re _,U,U,U⟩ (fun fr ap aq m K hI=>?_);obtain⟨j,hj,rfl,rfl,rfl⟩:=hI;refine UM 1 [0,6,37,38,39,40] U ?_;refine G.cd (fun w=>?_) fun w=>?_
 ·have L:j<n:=by
   have:=Qw w;omega
  obtain⟨x,y⟩:∃ x,d[j]?=some x:=⟨d[j]'om_,ai om_⟩;have M:QB 50 x:=T x (aM y);have N:d.getD j 0=x:=by rw[am,y];rfl
  have ab:(kX b d s k j)[j]?=some (zF b s j):=by
   rw[uB om_,aF (Nat.lt_irrefl _)];congr 1;grind
  have qz:=O0 (s:=s) A (show j<b.length by omega);have O:=Cd (bf:=d) (s:=s) (k:=k) (show j<b.length by omega);rw[N]at O;refine UN 1 U fun R a=>?_;refine Va r.m_ U10 om_ (ep y) fl_ (fun ar ac=>?_);refine UO ac U8 ?_;refine C6 2 [0,6,7,8,37,38,39] a U ?_;clear a R;refine UM 2 [0,6,7,8,37,38,39,45] U ?_;refine G.cd (fun Q=>?_) fun Q=>?_
  ·refine Vg [0,1,2,3,4,5,6,7,8,9,10,11,12,13,14,15,16,17] [(14,1),(15,1)] U kr_ (fun R r a=>?_);refine UR 3 U ?_;refine VE ag U6 (fun _=>(by rw[kf J];rfl)) U2 ?_;refine UR 4 U ?_;refine VE ag U6 (fun _=>(by rw[kf J];rfl)) U2 ?_;refine UP U6 ?_;refine Vp (j*1) U10 w_ U2 ?_;refine VE ae U6 (fun _=>(by rw[dO bI ab];rfl)) U2 ?_;refine UR 2 U ?_;refine Vh (fun _=>(cP _ t.m_ k x 50 dc_ dc_ v M)) U9 ?_;refine Vh (fun _=>(il _ t.m_ (zF b s j) (k*x) 100 dc_ dc_ (qz.le dc_) ((fO v M).le dc_))) U9 ?_;refine Vp (j*1) U10 w_ U2 ?_;refine Vr (j:=1) U11 (by show j*1+1<=_;rw[bT bI,io];omega) ?_;refine US [0,6,37,38,39] a U ?_;clear a r R;refine UQ fun R a=>?_;refine UV _ U U6 ?_;refine C6 1 [0,6,37,38,39] a U ?_;clear a R;refine G.perm (L':=[.arr (s_ l m o) 228 2 m ((h.set i (c+k*g,s_ e n f)).map bH).flatten,.arr (s_ e n f) 32 1 n ((kX b d s k (j+1)).map aQ).flatten]) (by rw[<- O,<- bM bI _ (by rw[io];omega)];exact List.Perm.swap _ _ _) ?_;refine U0 (m':=n-(j+1)) om_ K (hn_ [0,6,37,38,39] U) ⟨j+1,om_,U,U,U⟩
  have ad:x=0:=by
   have ah:qtx x=[48]:=by simpa using Q
   exact gr (ah.trans (by decide +kernel:([48]:List UInt8)=qtx 0))
  rw[xr (j:=j) (by rw[N];exact ad)];refine UQ fun R a=>?_;refine UV _ U U6 ?_;refine C6 1 [0,6,37,38,39] a U ?_;clear a R;refine U0 (m':=n-(j+1)) om_ K (hn_ [0,6,37,38,39] U) ⟨j+1,om_,U,U,U⟩
 have L:j=n:=by
  have:=Rc w;omega
 rw[L];refine V1 U ?_;exact⟨U,U⟩
def lA (a b:List Rat)(n:Nat):Rat:=Lp.sumN (fun k=>a.getD k 0*b.getD k 0) n
theorem Am {a b:List Rat}(c:∀ x∈a,QB 23 x)(d:∀ x∈b,QB 23 x):∀ i,QB (48*(i+1)) (lA a b i)
|0=>(show QB 20 (0:Rat) from⟨by decide,by decide⟩).le om_
|i+1=>(zC (Am c d i) (fO (tj (j:=i) c) (tj (j:=i) d))).le om_
theorem yr {a b:List Rat}{x y:Rat}(c:a[i]?=some x)(d:b[i]?=some y):lA a b (i+1)=lA a b i+x*y:=by
 unfold lA;simp only[Lp.sumN];rw[am,c,am,d];rfl
theorem P9 (C:Mem)(l:Tabs C)(n o:Value)(a b:List Rat)(d:Sl C 1 n (a.map aQ))(e:Sl C 1 o (b.map aQ))(O:b.length=a.length)(Q:a.length<=150)(p:∀ x∈a,QB 23 x)(q:∀ x∈b,QB 23 x) :
  Gives cx.P 219 [n,o] C (af (qtx (lA a b a.length))):=by
 obtain⟨w,z,rfl,A,S,_⟩:=id d;obtain⟨A2,c2,rfl,B,T,_⟩:=id e;have V:=mx_
 simp only[au]at d e A B⊢;refine UU func219 37 U3 fun w0=>UM 1 [0,1] U<|UM 1 [0,1,5] U<|UM 3 [0,1,5,8,9] U ?_;have E:Value.string ⟨#[48]⟩=af (qtx (lA a b 0)):=by
  show _=af (qtx 0);rw[IX];rfl
 rw[E];refine G.loop (fun fr W F H=>∃ (i:Nat),(i<=a.length)/\fr=[(0,[],.slice w a.length z),(1,[],.slice A2 b.length c2),(5,[],af (qtx (lA a b i))),(8,[],i_ a.length),(9,[],i_ i)]/\F=[]/\H=a.length-i) (hn_ [0,1,5,8,9] U) ⟨0,Re _,U,U,U⟩ (fun fr X Y m r I=>?_);obtain⟨i,Z,rfl,rfl,rfl⟩:=I;refine UM 1 [0,1,5,8,9,10] U<|G.cd (fun g=>?_) fun g=>?_
 ·have s:i<a.length:=by
   have:=Qw g;omega
  obtain⟨x,f⟩:∃ x,a[i]?=some x:=⟨a[i]'om_,ai om_⟩;obtain⟨y,hy⟩:∃ y,b[i]?=some y:=⟨b[i]'om_,ai om_⟩;have t:QB 23 x:=p x (aM f);have u:QB 23 y:=q y (aM hy);have J:=Am p q i;have v:=yr f hy;refine UM 2 [0,1,5,6,8,9] U<|UN 2 U fun R c=>Va d.m_ U10 om_ (ep f) fl_ fun aa K=>UO K U8<|UR 4 U<|D.index U10 (fun hg=>⟨e.mono mup,by omega,ep hy⟩) fl_ U fun ab L=>Vm U6 L U3<|UP U6<|Vk U8<|US [0,1,5,6,8,9,23] c U<|G.cd (fun j=>?_) fun j=>?_
  ·refine Vg [0,1,2,3,4,5,6,7,8,9,10,11] [(9,1),(10,1)] U kr_ fun R hB c=>UR 3 U<|Va d.m_ U10 om_ (ep f) fl_ fun ac M=>UO M U8<|UR 2 U<|Va e.m_ U10 om_ (ep hy) fl_ fun ad N=>UO N U8<|Vh (fun _=>(cP _ l.m_ x y 23 dc_ dc_ t u)) U9<|Vh (fun _=>(il _ l.m_ (lA a b i) (x*y) (48*(i+1)) om_ om_ J ((fO t u).le om_))) U9<|C6 1 [0,1,5,8,9] c U<|UQ fun R c=>UV _ U U6<|C6 1 [0,1,5,8,9] c U ?_;rw[<- v];refine U0 (m':=a.length-(i+1)) om_ r (hn_ [0,1,5,8,9] U) ⟨i+1,om_,U,U,U⟩
  have h0:x*y=0:=by
   simp only[Bool.and_eq_false_iff]at j;rcases j with h|h
   ·have k:qtx x=qtx (lA a b 0):=by simpa using h
    rw[gr k,show lA a b 0=0 from rfl];grind
   have k:qtx y=qtx (lA a b 0):=by simpa using h
   rw[gr k,show lA a b 0=0 from rfl];grind
  have h1:lA a b i=lA a b (i+1):=by rw[v,h0];grind
  rw[h1];refine UQ fun R c=>UV _ U U6<|C6 1 [0,1,5,8,9] c U<|U0 (m':=a.length-(i+1)) om_ r (hn_ [0,1,5,8,9] U) ⟨i+1,om_,U,U,U⟩
 have s:i=a.length:=by
  have:=Rc g;omega
 exact UM 2 [4] U<|UT U2<|⟨by rw[s],U⟩
theorem gS {n:Int}{l:List Str}:dV n l=0 ↔ (l.length:Int)=n/\l.all aS=true:=by
 unfold dV;by_cases h:(l.length:Int)=n
 ·rw[aJ h];rcases kv (l.all aS) with⟨h1,h2⟩|⟨h1,h2⟩
  ·rw[h1];exact⟨fun _=>⟨h,h2⟩,fun _=>rfl⟩
  rw[h1,h2];exact⟨fun h=>(by cases h),fun h=>(by cases h.2)⟩
 rw[aF h];exact⟨fun h=>(by cases h),fun h2=>absurd h2.1 h⟩
theorem Gc {n:Int}:Gd n r=0 ↔ dV n r.1=0/\aS r.2=true:=by
 unfold Gd;by_cases h:dV n r.1=0
 ·rw[aF (fun a=>a h)];rcases kv (aS r.2) with⟨h1,h2⟩|⟨h1,h2⟩
  ·rw[h1];exact⟨fun _=>⟨h,h2⟩,fun _=>rfl⟩
  rw[h1,h2];exact⟨fun h=>(by cases h),fun h=>(by cases h.2)⟩
 rw[aJ h];exact⟨fun h2=>absurd h2 h,fun h2=>absurd h2.1 h⟩
def yZ (rs:List (List Rat × Rat))(ps:List Rat)(n:Nat):Nat->List Int
|0=>[]
|i+1=>if (rs.getD i ([],0)).2<lA (rs.getD i ([],0)).1 ps n then yZ rs ps n i++[(i:Int)] else yZ rs ps n i
theorem Bv (a:List (List Rat × Rat))(b:List Rat)(n:Nat):∀ i,(yZ a b n i).length<=i
|0=>Q7 _
|i+1=>by
  have:=Bv a b n i;unfold yZ;split
  ·rw[Rf,Q8];omega
  omega
theorem zg (C:Mem)(k:Tabs C)(n:Nat)(N O Q:Value)(a:List (List Rat × Rat))(e:List Str)(o b:List Rat)(S:RowsT C N (a.map di))(T:Sl C 1 O ((o.map qtx).map gb))(ah:Ls (a.map di))(f:RowsQ n a)(hz:tM n (a.map di) (o.map qtx)=0)
  (hn:n<=60) (qc:∀ x∈o,QB 23 x) (V:Sl C 1 Q (e.map gb)) (aj:∀ s∈e,s.length<=999998) (ak:e.all aS=true->e=b.map qtx/\∀ x∈b,QB 23 x) :
  Pur cx.P 154 [.agg ⟨[i_ n,N,O]⟩,Q] C fun u _D=>∃ A m c,u=.tuple #[.slice A m c,i_ (dV n e)]/\(dV n e=0->m=(yZ a b n a.length).length):=by
 have W:=S;have X:=T;have v:=V;obtain⟨vs,Y,al,y⟩:=S;obtain⟨A0,c0,rfl,an,ay,_⟩:=id y;obtain⟨A1,c1,rfl,az,aA,_⟩:=id T;obtain⟨A2,c2,rfl,aB,aC,_⟩:=id V;have aD:=mx_
 have aE:=f.m;simp only[ia Y,au]at y an W X v Y⊢;refine UU func154 45 U3 fun w0=>UQ fun R d=>Vd U6 fun b2=>C6 2 [1,2] d U<|G.freeze 0 U fun _ _ z=>UQ fun R d=>UO (bkT z 3) U8<|UY (lY _ k.m_ (n:Nat) _ _ (a.map di) (o.map qtx) W.m_ X.m_ ah (fun s hs=>by
  obtain⟨q,f,rfl⟩:=Ra.1 hs;exact Rn (aZ (qc q f) dc_) dc_)) U7 fl_ ?_
 refine C6 1 [1,2,6] d U<|UM 2 [1,2,6,14] U<|G.cd (fun Z=>?_) fun Z=>?_
 ·simp[hz]at Z
 refine UN 2 U fun R d=>UO (bkT z 1) U8<|UZ (oP _ k.m_ _ (n:Nat) e v.m_ aj) U7<|C6 1 [1,2,7] d U<|UM 2 [1,2,7,21] U<|G.cd (fun B=>?_) fun B=>?_
 ·have p:dV (n:Nat) e≠0:=by simpa using B
  refine UM 3 [4,5] U<|U1 (G.dropAll (Vn U3 ?_));exact⟨U,none,0,0,U,fun h=>absurd h p⟩
 have p:dV (n:Nat) e=0:=by simpa using B
 obtain⟨ao,ap⟩:=gS.1 p;obtain⟨aa,qp⟩:=ak ap;have aG:b.length=n:=by
  rw[aa,au]at ao;omega
 refine UM 1 [1,2,8] U<|UN 1 U fun R d=>UO (bkT z 1) U8<|C6 2 [1,8,24,25,26] d U<|G.nilArr 3 1<|G.loop (fun fr C' L' μ=>∃ (i:Nat)(E:Value),(i<=a.length)/\fr=[(1,[],.slice A2 e.length c2),(8,[],E),(24,[],.slice A0 a.length c0),(25,[],i_ a.length),(26,[],i_ i)]/\L'=[.arr E 3 1 (yZ a b n i).length ((yZ a b n i).map nP).flatten]/\μ=a.length-i) (hn_ [1,8,24,25,26] U) ⟨0,.slice none 0 0,Re _,U,U,U⟩ (fun fr aH aI m _ hI=>?_);obtain⟨i,E,hi,rfl,rfl,rfl⟩:=hI;refine UM 1 [1,8,24,25,26,27] U<|G.cd (fun F=>?_) fun F=>?_
 ·have H:i<a.length:=by
   have:=Qw F;omega
  obtain⟨r,I⟩:∃ r,a[i]?=some r:=⟨a[i],ai H⟩;have ab:(a.map di)[i]?=some (di r):=by rw[Rb,I];rfl
  obtain⟨w,t⟩:∃ w,vs[i]?=some w:=⟨vs[i]'om_,ai _⟩;have ac:=aM I;have ad:=al i w (di r) t ab;obtain⟨aK,aL,rfl,_,_,_⟩:=id ad;have J:=f.l r ac;have K:=f.q r ac;have ae:a.getD i ([],0)=r:=by rw[am,I];rfl
  have aq:=Am K.1 qp n;have aN:=Bv a b n i;refine UN 1 U fun R d=>Va y.m_ U10 om_ (kS t ab) fl_ fun aO ar=>UO ar U8<|Ve U5 fun aP=>UP U6<|UX (j:=0) U12<|US [1,8,9,10,24,25,26] d U<|G.freeze 0 U fun _ _ af=>Vg [0,1,2,3,4,5,6,7] [(3,1),(6,1)] U kr_ fun R hB d=>UP U6<|UO (bkT af 1) U8<|UP U6<|Vh (fun _=>(P9 _ k.m_ _ _ r.1 b (by rw[fj];exact ad.mono mup) (by rw[fj,<- aa];exact v.mono mup) om_ om_ K.1 qp)) U9<|UP U6<|UO (bkT af 1) U8<|Vh (fun _=>(fN _ k.m_ (lA r.1 b r.1.length) r.2 (48*(n+1)) om_ om_ (by rw[J];exact aq) (K.2.le om_))) U9<|C6 1 [1,8,9,24,25,26,38] d U<|G.cd (fun g=>?_) fun g=>?_
  ·have L:r.2<lA r.1 b n:=by
    rw[J]at g;have h:=Qw g;unfold nU at h;split at h
    ·omega
    split at h
    ·next h2=>exact h2
    omega
   have M:yZ a b n (i+1)=yZ a b n i++[(i:Int)]:=by
    show(if _ then _ else _)=_;rw[ae,aJ L]
   refine UN 2 U fun R d=>Vj [nP i] U12 fun aQ _ _ av=>D.append (j:=0) U11 av U ax q_ fl_ fun aw=>C6 1 [1,8,24,25,26] d U<|UQ fun R d=>UV _ U U6<|C6 1 [1,8,24,25,26] d U<|Vc (L':=[.arr aw 3 1 (yZ a b n (i+1)).length ((yZ a b n (i+1)).map nP).flatten]) (by rw[M];simp)<|U0 (m':=a.length-(i+1)) om_ mup (hn_ [1,8,24,25,26] U) ⟨i+1,_,om_,U,U,U⟩
  have L:¬ r.2<lA r.1 b n:=by
   rw[J]at g;have h:=Rc g;intro h2;have h3:nU (lA r.1 b n) r.2=1:=by
    unfold nU;rw[aF (by grind),aJ h2]
   rw[h3]at h;exact h dc_
  have M:yZ a b n (i+1)=yZ a b n i:=by
   show(if _ then _ else _)=_;rw[ae,aF L]
  rw[<- M];refine UQ fun R d=>UV _ U U6<|C6 1 [1,8,24,25,26] d U<|U0 (m':=a.length-(i+1)) om_ mup (hn_ [1,8,24,25,26] U) ⟨i+1,_,om_,U,U,U⟩
 have H:i=a.length:=by
  have:=Rc F;omega
 refine UM 3 [4,5] U<|WR ag fun Aw cw t _ _ _=>U1 (G.dropAll (Vn U3 ?_));exact⟨U,Aw,_,cw,by rw[t,p],fun _=>by rw[H]⟩
theorem uM {l:List Nat}{x:Nat}(h:l[i]?=some x):(l.map aW)[i]?=some (aW x):=by rw[Rb,h];rfl
theorem xY {l:List Nat}{q:Nat->Prop}(h:Lp.LeastR l q n o):o=-1∨∃ i:Nat,o=i/\i<n:=by
 cases h with
|none _=>exact .inl rfl
|some i a _ _=>exact .inr ⟨i,rfl,a⟩
theorem oS (C:Mem)(v:Value)(l:List Nat)(g:Nat)(f:List Value)(q:Nat->Bool)(d:Sl C 1 v (l.map aW))(_O:Jog.Enters cx.P g=true)
  (E:∀ i,i<l.length->∀ D:Mem,C.le D->Gives cx.P g (i_ i::f) D (.bool (q i))) :
  Pur cx.P 206 [v,.func (.func g) #[] ⟨f⟩] C fun u _=>∃ o:Int,u=i_ o/\Lp.LeastR l (fun i=>q i=true) l.length o:=by
 obtain⟨s,c0,rfl,F,Q,_⟩:=id d;have S:=mx_
 simp only[au]at d F⊢;refine UU func206 33 U3 fun w0=>UM 1 [0,1] U<|UM 1 [0,1,5] U<|UM 3 [0,1,5,8,9,10] U<|G.loop (fun fr T H I=>∃ (i:Nat)(o:Int),(i<=l.length/\Lp.LeastR l (fun i=>q i=true) i o)/\fr=[(0,[],.slice s l.length c0),(1,[],.func (.func g) #[] ⟨f⟩),(5,[],i_ o),(8,[],.slice s l.length c0),(9,[],i_ l.length),(10,[],i_ i)]/\H=[]/\I=l.length-i) (hn_ [0,1,5,8,9,10] U) ⟨0, -1,⟨Re _,.none fun j J=>absurd J (Nat.not_lt_zero _)⟩,U,U,U⟩ (fun fr V W m t K=>?_);obtain⟨i,o,⟨X,a⟩,rfl,rfl,rfl⟩:=K;refine UM 1 [0,1,5,8,9,10,11] U<|G.cd (fun k=>?_) fun k=>?_
 ·have e:i<l.length:=by
   have:=Qw k;omega
  obtain⟨x,w⟩:∃ x,l[i]?=some x:=⟨l[i],ai e⟩;have y:l.getD i 0=x:=by rw[am,w];rfl
  have n:=xY a;have L:¬ o<0->(l.map aW)[o.toNat]?=some (aW (l.getD o.toNat 0)):=fun h=>by
   rcases n with h1|⟨z,h1,h2⟩
   ·omega
   rw[h1,S6];exact uM (by rw[am,ai om_];rfl)
  refine UN 1 U fun R b=>Va d.m_ U10 om_ (uM w) fl_ fun Y M=>UO M U8<|C6 2 [0,1,5,6,7,8,9,10] b U<|UN 2 U fun R b=>UZ (E i e _ mup) U7<|UR 7 U<|D.index U10 (fun A=>⟨d.mono mup,(by have h:decide (o<0)=false:=A.1;have:=Rc h;omega),L (by have h:decide (o<0)=false:=A.1;exact Rc h)⟩) fl_ U fun Z N=>Vm U6 N U3<|UP U6<|Vq U8<|Vk U8<|US [0,1,5,6,8,9,10,29] b U<|G.cd (fun p=>?_) fun p=>?_
  ·have c:q i=true/\(o<0∨x<l.getD o.toNat 0):=by
    simpa using p
   have r:Lp.LeastR l (fun i=>q i=true) (i+1) i:=by
    rcases n with h1|⟨z,h1,h2⟩
    ·rw[h1]at a;exact a.first c.1
    rw[h1]at a c;refine a.less c.1 ?_;rw[y];rcases c.2 with h3|h3
    ·omega
    exact h3
   refine UM 2 [0,1,5,8,9,10] U<|UQ fun R b=>UV _ U U6<|C6 1 [0,1,5,8,9,10] b U<|U0 (m':=l.length-(i+1)) om_ t (hn_ [0,1,5,8,9,10] U) ⟨i+1,_,⟨by omega,r⟩,U,U,U⟩
  have c:q i=true->¬ (o<0∨x<l.getD o.toNat 0):=by
   simpa using p
  have r:Lp.LeastR l (fun i=>q i=true) (i+1) o:=by
   by_cases B:q i=true
   ·have h3:=c B;rcases n with h1|⟨z,h1,h2⟩
    ·exact absurd (.inl om_) h3
    rw[h1]at a h3⊢;refine a.keep ?_;rw[y];exact fun h=>h3 (.inr h)
   exact a.no B
  refine UQ fun R b=>UV _ U U6<|C6 1 [0,1,5,8,9,10] b U<|U0 (m':=l.length-(i+1)) om_ t (hn_ [0,1,5,8,9,10] U) ⟨i+1,_,⟨by omega,r⟩,U,U,U⟩
 have e:i=l.length:=by
  have:=Rc k;omega
 exact UM 2 [4] U<|UT U2<|⟨U,o,U,by rw[<- e];exact a⟩
structure TabV (D:Mem)(b n:Nat)(t:Lp.Tab)(wB wL wO wW:Value)(wF:List Value):Prop where
 o:D b=some (.cells ⟨[.int .i64 n,wB,wL,wO,af (qtx t.worth.c),wW]⟩ 231 (0,0))
 B:Sl D 1 wB (t.basic.map aW)
 O:Sl D 1 wO (t.others.map aW)
 W:Sl D 1 wW (t.worth.f.map aQ)
 L:Sl D 2 wL (List.zipWith (fun(l:Lp.Line) w=>[af (qtx l.c),w]) t.lines wF)
 fl:wF.length=t.lines.length
 F:∀ (i:Nat)(l:Lp.Line)(w:Value),t.lines[i]?=some l->wF[i]?=some w->Sl D 1 w (l.f.map aQ)
theorem TabV.mono {D E:Mem}{b n:Nat}{t:Lp.Tab}{c d e f:Value}{g:List Value}(h:TabV D b n t c d e f g)(a:D.le E):TabV E b n t c d e f g :=
 ⟨a _ _ h.o,h.B.mono a,h.O.mono a,h.W.mono a,h.L.mono a,h.fl,fun i l w h1 h2=>(h.F i l w h1 h2).mono a⟩
theorem TabV.m_ {D E:Mem}{a:List Value}(h:TabV D b n t wB wL wO wW a)(c:D.le E:=by exact mup):TabV E b n t wB wL wO wW a:=TabV.mono h c
theorem fA (C:Mem)(b n v:Nat)(t:Lp.Tab)(a c d e:Value)(f:List Value)(h:TabV C b n t a c d e f) :
  Gives cx.P 203 [p_ b,i_ v] C (.bool (decide (n<=v))):=by
 refine UU func203 11 U3 fun w0=>UM 1 [0,1] U<|UN 4 U fun R g=>UO (PtrTo.blockT (h.m_.o) _ 1) U8<|C6 2 [4] g U<|UT U2<|⟨?_,U⟩;congr 1;rw[RY];omega
theorem fp {l:List Nat}(h:i<l.length):(l.map aW)[i]?=some (aW (l.getD i 0)):=uM (by rw[am,ai h];rfl)
theorem dN {l:List Rat}(h:i<l.length):(l.map aQ)[i]?=some (aQ (l.getD i 0)):=ep (by rw[am,ai h];rfl)
theorem kc {ls:List Lp.Line}{ws:List Value}(h:i<ls.length)(a:ws.length=ls.length):(List.zipWith (fun(l:Lp.Line) w=>[af (qtx l.c),w]) ls ws)[i]?=some [af (qtx (ls.getD i ⟨0,[]⟩).c),ws.getD i (.slice none 0 0)]:=by
 rw[List.getElem?_zipWith,ai h,ai (show i<ws.length by omega),am,am,ai h,ai (show i<ws.length by omega)];rfl
theorem KQ (C:Mem)(a b n i N:Nat)(t:Lp.Tab)(j k e f:Value)(g:List Value)(h:TabV C b n t j k e f g)(l:t.Ok N)(d:C a=some (.cells ⟨[p_ b]⟩ 221 (0,0)))(m:i<t.basic.length)(p:QB 50 (t.line i).c) :
  Gives cx.P 207 [i_ i,p_ a] C (.bool (decide (n<=t.bas i) && decide ((t.line i).c<0))):=by
 obtain⟨v,w,rfl,x,y,_⟩:=id h.B;obtain⟨A2,c2,rfl,z,A,_⟩:=id h.L;have E:=mx_
 have F:=l.ll;exact UU func207 25 U3 fun w0=>UM 1 [0,1] U<|Vg [0,1,2,3,4,5,6,7,8,9,10,11,12,13,14,15,16,17,18,19,20,21] [(8,1)] U kr_ fun R G q=>UO (bkT d 1) U8<|UO (bkT d 1) U8<|UR 2 U<|UO (PtrTo.blockT (h.m_.o) _ 1) U8<|UP U6<|Va h.B.m_ U10 om_ (fp m) fl_ fun H r=>UO r U8<|Vv (fun _=>(fA _ b n (t.bas i) t _ _ e f g h.m_)) U9<|UP U6<|Vm U6 (fun _=>PtrTo.blockT (Mem.get d mup) _ 1) U3<|UR 2 U<|Vm U6 (fun _=>PtrTo.blockT (h.m_.o) _ 1) U3<|UP U6<|D.index U10 (fun I=>⟨h.L.mono mup,by omega,kc om_ h.fl⟩) fl_ U fun J s=>Ws U U U U U U U U U U s fl_ U fun K u=>Vm U6 u U3<|Vh (fun _=>(fb _ (t.line i).c (Rn (aZ p dc_) dc_))) U9<|UP U6<|Vk U8<|C6 1 [3] q U<|UT U2<|⟨by rw[oN],U⟩
theorem uE (q:Rat):decide (0<eG q.num)=decide (0<q):=by
 have h:0<q.num ↔ 0<q:=by rw[Rat.lt_iff];simp
 rw[RY];unfold eG;by_cases h1:q.num<0
 ·rw[aJ h1];exact⟨fun h2=>absurd h2 dc_,fun h2=>absurd (h.2 h2) om_⟩
 rw[aF h1];by_cases h2:q.num=0
 ·rw[aJ h2];exact⟨fun h3=>absurd h3 dc_,fun h3=>absurd (h.2 h3) om_⟩
 rw[aF h2];exact⟨fun _=>h.1 om_,fun _=>by decide⟩
theorem mm {a:List Value}(h:TabV C b n t wB wL wO wW a)(c:t.Ok N)(d:i<t.basic.length):Sl C 1 (a.getD i (.slice none 0 0)) ((t.line i).f.map aQ)/\(t.line i).f.length=t.others.length:=by
 have e:=c.ll;have g:=h.fl;refine⟨?_,c.fl _ (Lp.line_mem c d)⟩;refine h.F i _ _ (show t.lines[i]?=some (t.line i) from ?_) (show a[i]?=some _ from ?_)
 ·unfold Lp.Tab.line;rw[am,ai om_];rfl
 rw[am,ai om_];rfl
theorem KP (C:Mem)(a j b n i r N:Nat)(t:Lp.Tab)(p q s k:Value)(c:List Value)(h:TabV C b n t p q s k c)(d:t.Ok N)(e:C a=some (.cells ⟨[p_ b]⟩ 221 (0,0)))(u:C j=some (.cells ⟨[i_ r]⟩ 3 (0,0)))
  (l:r<t.basic.length) (v:i<t.others.length) (w:QB 50 ((t.line r).g i)) :
  Gives cx.P 208 [i_ i,p_ a,p_ j] C (.bool (decide (n<=t.oth i) && decide (0<(t.line r).g i))):=by
 obtain⟨G,H,rfl,I,J,_⟩:=id h.O;obtain⟨A2,c2,rfl,K,M,_⟩:=id h.L;obtain⟨f,Q⟩:=mm h d l;obtain⟨S,T,x,V,W,_⟩:=id f;have m:=kc (ls:=t.lines) (ws:=c) (i:=r) (by rw[d.ll];exact l) h.fl;rw[x]at m f;have X:=mx_
 have Y:=d.ll;exact UU func208 29 U3 fun w0=>UM 1 [0,1,2] U<|Vg [0,1,2,3,4,5,6,7,8,9,10,11,12,13,14,15,16,17,18,19,20,21,22,23,24] [(8,1)] U kr_ fun R Z y=>UO (bkT e 1) U8<|UO (bkT e 1) U8<|UR 2 U<|UO (PtrTo.blockT (h.m_.o) _ 1) U8<|UP U6<|Va h.O.m_ U10 om_ (fp v) fl_ fun aa z=>UO z U8<|Vv (fun _=>(fA _ b n (t.oth i) t _ _ _ k c h.m_)) U9<|UP U6<|Vm U6 (fun _=>PtrTo.blockT (Mem.get e mup) _ 1) U3<|UR 2 U<|Vm U6 (fun _=>PtrTo.blockT (h.m_.o) _ 1) U3<|Vm U6 (fun _=>PtrTo.blockT (Mem.get u mup) _ 1) U3<|D.index U10 (fun A=>⟨h.L.mono mup,by omega,m⟩) fl_ U fun ab B=>Ws U U U U U U U U U U B fl_ U fun ac E=>Vm U6 E U3<|UP U6<|D.index U10 (fun A=>⟨f.mono mup,by omega,dN om_⟩) fl_ U fun ad F=>Vm U6 F U3<|Vh (fun _=>(fb _ ((t.line r).g i) (Rn (aZ w dc_) dc_))) U9<|UP U6<|Vk U8<|C6 1 [4] y U<|UT U2<|⟨by rw[<- uE],U⟩
theorem NY (C:Mem)(a b n i N:Nat)(t:Lp.Tab)(e f j k:Value)(d:List Value)(h:TabV C b n t e f j k d)(l:t.Ok N)(c:C a=some (.cells ⟨[p_ b]⟩ 221 (0,0)))(m:i<t.others.length) :
  Gives cx.P 209 [i_ i,p_ a] C (.bool (!decide (n<=t.oth i) && !decide (t.worth.g i=0))):=by
 obtain⟨s,u,rfl,v,w,_⟩:=id h.O;obtain⟨A2,c2,rfl,x,y,_⟩:=id h.W;have z:=mx_
 have A:=l.wl;refine UU func209 25 U3 fun w0=>UM 1 [0,1] U<|Vg [0,1,2,3,4,5,6,7,8,9,10,11,12,13,14,15,16,17,18,19,20,21] [(8,1)] U kr_ fun R B p=>UO (bkT c 1) U8<|UO (bkT c 1) U8<|UR 2 U<|UO (PtrTo.blockT (h.m_.o) _ 1) U8<|UP U6<|Va h.O.m_ U10 om_ (fp m) fl_ fun E q=>UO q U8<|Vv (fun _=>(fA _ b n (t.oth i) t _ _ _ _ d h.m_)) U9<|UR 2 U<|Vm U6 (fun _=>PtrTo.blockT (Mem.get c mup) _ 1) U3<|UR 3 U<|Vm U6 (fun _=>PtrTo.blockT (h.m_.o) _ 1) U3<|UP U6<|D.index U10 (fun F=>⟨h.W.mono mup,by omega,dN om_⟩) fl_ U fun G r=>Vm U6 r U3<|UP U6<|Vk U8<|C6 1 [3] p U<|UT U2<|⟨?_,U⟩;show Value.bool _=Value.bool _;congr 1;congr 1;show(!((⟨(qtx (t.worth.g i)).toArray⟩:ByteArray).data.toList == (⟨#[48]⟩:ByteArray).data.toList))=_;rw[eK]
theorem NX (C:Mem)(a b n i N:Nat)(t:Lp.Tab)(e f j k:Value)(d:List Value)(h:TabV C b n t e f j k d)(l:t.Ok N)(c:C a=some (.cells ⟨[p_ b]⟩ 221 (0,0)))(m:i<t.others.length)(p:QB 50 (t.worth.g i)) :
  Gives cx.P 210 [i_ i,p_ a] C (.bool (decide (n<=t.oth i) && decide (t.worth.g i<0))):=by
 obtain⟨u,v,rfl,w,x,_⟩:=id h.O;obtain⟨A2,c2,rfl,y,z,_⟩:=id h.W;have A:=mx_
 have B:=l.wl;exact UU func210 25 U3 fun w0=>UM 1 [0,1] U<|Vg [0,1,2,3,4,5,6,7,8,9,10,11,12,13,14,15,16,17,18,19,20,21] [(8,1)] U kr_ fun R E q=>UO (bkT c 1) U8<|UO (bkT c 1) U8<|UR 2 U<|UO (PtrTo.blockT (h.m_.o) _ 1) U8<|UP U6<|Va h.O.m_ U10 om_ (fp m) fl_ fun F r=>UO r U8<|Vv (fun _=>(fA _ b n (t.oth i) t _ _ _ _ d h.m_)) U9<|UP U6<|Vm U6 (fun _=>PtrTo.blockT (Mem.get c mup) _ 1) U3<|UR 3 U<|Vm U6 (fun _=>PtrTo.blockT (h.m_.o) _ 1) U3<|UP U6<|D.index U10 (fun G=>⟨h.W.mono mup,by omega,dN om_⟩) fl_ U fun H s=>Vm U6 s U3<|Vh (fun _=>(fb _ (t.worth.g i) (Rn (aZ p dc_) dc_))) U9<|UP U6<|Vk U8<|C6 1 [3] q U<|UT U2<|⟨by rw[oN],U⟩
theorem ux (n:Nat):List.replicate n (af [48])=((List.replicate n (0:Rat)).map aQ).flatten:=by
 rw[TJ,show aQ 0=[af [48]] by unfold aQ;rw[IX]];induction n with
|zero=>rfl
|succ n a=>rw[Sd,Sd,Si,<- a];rfl
def ptF (t:Lp.Tab)(n i:Nat):List Rat:=(List.range n).map fun v=>if v∈t.basic.take i then t.sol v else 0
theorem nE :(ptF t n i).length=n:=by simp[ptF]
theorem Gt (h:v<n):(ptF t n i)[v]?=some (if v∈t.basic.take i then t.sol v else 0):=by
 unfold ptF;rw[Rb,RK h];rfl
theorem JY (t:Lp.Tab)(n:Nat):ptF t n 0=List.replicate n 0:=by
 refine List.ext_getElem? fun v=>?_;by_cases h:v<n
 ·rw[Gt h,Sq,aJ h,List.take_zero,aF Sh]
 rw[Ri (by rw[nE];omega),Ri ap]
theorem lO (h:i<t.basic.length):t.basic.take (i+1)=t.basic.take i++[t.bas i]:=by
 rw[RE];congr 1;unfold Lp.Tab.bas;rw[am,ai h];rfl
theorem Ny (b:t.Ok N)(h:i<t.basic.length)(d:t.bas i<n):(ptF t n i).set (t.bas i) (t.line i).c=ptF t n (i+1):=by
 refine List.ext_getElem? fun v=>?_;rw[List.getElem?_set,nE];by_cases a:v<n
 ·rw[Gt a,Gt a,lO h];by_cases e:t.bas i=v
  ·subst e;rw[aJ rfl,aJ a,aJ ak,Lp.sol_bas b h]
  rw[aF e];by_cases hm:v∈t.basic.take i
  ·rw[aJ hm,aJ (by simp[hm])]
  rw[aF hm,aF (by simp[hm];exact fun h2=>e h2.symm)]
 rw[aF om_,Ri (by rw[nE];omega),Ri (by rw[nE];omega)]
theorem JZ (h:i<t.basic.length)(a:n<=t.bas i):ptF t n i=ptF t n (i+1):=by
 refine List.map_congr_left fun v hm=>?_;have b:=Rv.1 hm;rw[lO h];by_cases hm:v∈t.basic.take i
 ·rw[aJ hm,aJ (by simp[hm])]
 rw[aF hm,aF (by simp[hm];omega)]
theorem NA (a:t.Ok N):ptF t n t.basic.length=(List.range n).map t.sol:=by
 refine List.map_congr_left fun v _=>?_;rw[Rk];split
 ·rfl
 next h=>exact(Lp.sol_oth a h).symm
theorem Co (C:Mem)(b n N:Nat)(t:Lp.Tab)(w x p q:Value)(r:List Value)(h:TabV C b n t w x p q r)(f:t.Ok N)(y:n<=1000000) :
  Jog.Fn cx.P 141 [p_ b] C [] fun u _ c=>∃ g,u=s_ g n n/\c=[.arr u 32 1 n (((List.range n).map t.sol).map aQ).flatten]:=by
 obtain⟨z,s,rfl,A,Q,_⟩:=id h.B;obtain⟨A2,c2,rfl,S,T,_⟩:=id h.L;have E:=h.B;have V:t.basic.length<=s:=by rwa [au]at A
 have W:=mx_
 have X:=f.ll;have F:=h.fl;refine UU func141 38 U3 fun w0=>UM 1 [0] U<|Vl [(4,3)] U fun R a=>UR 3 U<|UO (PtrTo.blockT (h.m_.o) _ 1) U8<|D.call (gN _ n y) U (.inr dc_) U6 (Rh _) fl_ (fun Y _ Z _ H=>?_);obtain⟨g,rfl,rfl⟩:=H;refine C6 1 [0,3] a U<|UN 3 U fun R a=>UO (PtrTo.blockT (h.m_.o) _ 1) U8<|C6 2 [0,3,14,15,16] a U<|Vc (L':=[.arr (s_ g n n) 32 1 n ((ptF t n 0).map aQ).flatten]) (by rw[JY,<- ux];rfl)<|G.loop (fun fr C' c I=>∃ (i:Nat),(i<=t.basic.length)/\fr=[(0,[],p_ b),(3,[],s_ g n n),(14,[],.slice z (t.basic.map aW).length s),(15,[],i_ (t.basic.map aW).length),(16,[],i_ i)]/\c=[.arr (s_ g n n) 32 1 n ((ptF t n i).map aQ).flatten]/\I=t.basic.length-i) (hn_ [0,3,14,15,16] U) ⟨0,Re _,U,U,U⟩ (fun fr aa ab m v J=>?_);obtain⟨i,hi,rfl,rfl,rfl⟩:=J;refine UM 1 [0,3,14,15,16,17] U<|G.cd (fun k=>?_) fun k=>?_
 ·have d:i<t.basic.length:=by
   have:=Qw k;rw[au]at this;omega
  refine UN 1 U fun R a=>Va E.m_ U10 om_ (show(t.basic.map aW)[i]?=some (aW (t.bas i)) from fp d) fl_ fun ac K=>UO K U8<|C6 2 [0,3,4,5,14,15,16] a U<|UN 2 U fun R a=>UZ (fA _ b n (t.bas i) t _ _ p q r h.m_) U7<|C6 1 [0,3,4,5,14,15,16,24] a U<|G.cd (fun l=>?_) fun l=>?_
  ·have e:t.bas i<n:=by
    have ad:¬ n<=t.bas i:=by simpa using l
    omega
   refine UN 5 U fun R a=>UO (PtrTo.blockT (h.m_.o) _ 1) U8<|UP U6<|Va h.L.m_ U10 om_ (kc om_ F) fl_ fun ae M=>V0 M U10 fl_ fun af O=>UO O U8<|Vp (t.bas i*1) U10 w_ U2<|Vr (j:=0) U11 (by show t.bas i*1+1<=_;rw[bT bI,nE];omega)<|US [0,3,14,15,16] a U<|UQ fun R a=>UV _ U U6<|C6 1 [0,3,14,15,16] a U<|Vc (L':=[.arr (s_ g n n) 32 1 n ((ptF t n (i+1)).map aQ).flatten]) (by rw[<- Ny f d e,<- bM bI _ (by rw[nE];exact e)];rfl)<|U0 (m':=t.basic.length-(i+1)) om_ v (hn_ [0,3,14,15,16] U) ⟨i+1,om_,U,U,U⟩
  have e:n<=t.bas i:=by simpa using l
  rw[JZ d e];refine UQ fun R a=>UV _ U U6<|C6 1 [0,3,14,15,16] a U<|U0 (m':=t.basic.length-(i+1)) om_ v (hn_ [0,3,14,15,16] U) ⟨i+1,om_,U,U,U⟩
 have d:i=t.basic.length:=by
  have:=Rc k;rw[au]at this;omega
 refine UM 2 [2] U<|U1 (Vx U U ?_);exact⟨g,U,by rw[d,NA f]⟩
def duF (p:Lp.Sys)(t:Lp.Tab)(l:Lp.Line)(i:Nat):List Rat:=(List.range p.m).map fun r=>if p.n+r∈t.others.take i then Lp.dualV p t l r else 0
theorem nQ :(duF p t l i).length=p.m:=by simp[duF]
theorem HW {r:Nat}(h:r<p.m):(duF p t l i)[r]?=some (if p.n+r∈t.others.take i then Lp.dualV p t l r else 0):=by
 unfold duF;rw[Rb,RK h];rfl
theorem KX (p:Lp.Sys)(t:Lp.Tab)(l:Lp.Line):duF p t l 0=List.replicate p.m 0:=by
 refine List.ext_getElem? fun v=>?_;by_cases h:v<p.m
 ·rw[HW h,Sq,aJ h,List.take_zero,aF Sh]
 rw[Ri (by rw[nQ];omega),Ri ap]
theorem BI (h:i<t.others.length):t.others.take (i+1)=t.others.take i++[t.oth i]:=by
 rw[RE];congr 1;unfold Lp.Tab.oth;rw[am,ai h];rfl
theorem Oi (b:Lp.TabOf p t)(h:i<t.others.length)(c:p.n<=t.oth i):(duF p t l i).set (t.oth i-p.n) (l.g i)=duF p t l (i+1):=by
 refine List.ext_getElem? fun v=>?_;rw[List.getElem?_set,nQ];by_cases a:v<p.m
 ·rw[HW a,HW a,BI h];by_cases e:t.oth i-p.n=v
  ·subst e;rw[aJ rfl,aJ a,aJ (by rw[show p.n+(t.oth i-p.n)=t.oth i by omega];simp),Lp.dualV_at b h c]
  rw[aF e];by_cases hm:p.n+v∈t.others.take i
  ·rw[aJ hm,aJ (by simp[hm])]
  rw[aF hm,aF (by simp[hm];omega)]
 rw[Ri (by rw[nQ];omega),Ri (by rw[nQ];omega)];have:=b.ok.lt _ (Rr.2 (.inr (Lp.oth_mem h)));split
 ·exact aF om_
 rfl
theorem KY (h:i<t.others.length)(a:t.oth i<p.n):duF p t l i=duF p t l (i+1):=by
 refine List.map_congr_left fun v _=>?_;rw[BI h];by_cases hm:p.n+v∈t.others.take i
 ·rw[aJ hm,aJ (by simp[hm])]
 rw[aF hm,aF (by simp[hm];omega)]
theorem Oj :duF p t l t.others.length=(List.range p.m).map (Lp.dualV p t l):=by
 refine List.map_congr_left fun v _=>?_;rw[Rk];split
 ·rfl
 next h=>exact(Lp.dualV_none h).symm
theorem HV (C:Mem)(p:Lp.Sys)(b:Nat)(t:Lp.Tab)(l:Lp.Line)(E F H s w:Value)(v:List Value)(h:TabV C b p.n t E F H s v)(x:Lp.TabOf p t)(I:p.m<=1000000)(y:Sl C 1 w (l.f.map aQ))(Y:l.f.length=t.others.length) :
  Jog.Fn cx.P 143 [p_ b,.agg ⟨[af (qtx l.c),w]⟩,i_ p.m] C [] fun u _ e=>∃ g,u=s_ g p.m p.m/\e=[.arr u 32 1 p.m (((List.range p.m).map (Lp.dualV p t l)).map aQ).flatten]:=by
 obtain⟨J,z,rfl,K,Z,_⟩:=id h.O;obtain⟨A3,c3,rfl,aa,ab,_⟩:=id y;have L:=h.O;have ac:t.others.length<=z:=by rwa [au]at K
 have ad:=mx_
 refine UU func143 40 U3 fun w0=>UQ fun R a=>Vd U6 fun M=>C6 1 [0,2,4] a U<|G.freeze 0 U fun _ _ N=>Vl [(1,3)] U fun R a=>UP U6<|D.call (gN _ p.m I) U (.inr dc_) U6 (Rh _) fl_ (fun ae _ ag _ Q=>?_);obtain⟨g,rfl,rfl⟩:=Q;refine C6 1 [0,4,7] a U<|UN 3 U fun R a=>UO (PtrTo.blockT (h.m_.o) _ 1) U8<|C6 2 [0,4,7,15,16,17] a U<|Vc (L':=[.arr (s_ g p.m p.m) 32 1 p.m ((duF p t l 0).map aQ).flatten]) (by rw[KX,<- ux];rfl)<|G.loop (fun fr C' e S=>∃ (i:Nat),(i<=t.others.length)/\fr=[(0,[],p_ b),(4,[],p_ M),(7,[],s_ g p.m p.m),(15,[],.slice J (t.others.map aW).length z),(16,[],i_ (t.others.map aW).length),(17,[],i_ i)]/\e=[.arr (s_ g p.m p.m) 32 1 p.m ((duF p t l i).map aQ).flatten]/\S=t.others.length-i) (hn_ [0,4,7,15,16,17] U) ⟨0,Re _,U,U,U⟩ (fun fr ah ai m A T=>?_);obtain⟨i,hi,rfl,rfl,rfl⟩:=T;refine UM 1 [0,4,7,15,16,17,18] U<|G.cd (fun k=>?_) fun k=>?_
 ·have d:i<t.others.length:=by
   have:=Qw k;rw[au]at this;omega
  have aj:=x.ok.lt _ (Rr.2 (.inr (Lp.oth_mem d)));refine UN 1 U fun R a=>Va L.m_ U10 om_ (show(t.others.map aW)[i]?=some (aW (t.oth i)) from fp d) fl_ fun ak V=>UO V U8<|C6 2 [0,4,7,8,9,15,16,17] a U<|UN 2 U fun R a=>UZ (fA _ b p.n (t.oth i) t _ _ _ s v h.m_) U7<|US [0,4,7,8,9,15,16,17,24] a U<|G.cd (fun q=>?_) fun q=>?_
  ·have r:p.n<=t.oth i:=by simpa using q
   have B:((t.oth i:Int)-(p.n:Int)).toNat=t.oth i-p.n:=by omega
   have W:=Oi (l:=l) x d r;refine Vg [0,1,2,3,4,5,6,7,8,9,10,11,12,13] [] U kr_ fun R hB a=>UR 5 U<|UO (PtrTo.blockT (h.m_.o) _ 1) U8<|UV _ U U6<|UP U6<|UO (bkT N 1) U8<|UP U6<|Va y.m_ U10 om_ (dN om_) fl_ fun al X=>UO X U8<|Vp (((t.oth i:Int)-(p.n:Int)).toNat*1) U10 w_ U2<|Vr (j:=0) U11 (by show((t.oth i:Int)-(p.n:Int)).toNat*1+1<=_;rw[B,bT bI,nQ];omega)<|US [0,4,7,15,16,17] a U<|UQ fun R a=>UV _ U U6<|C6 1 [0,4,7,15,16,17] a U<|Vc (L':=[.arr (s_ g p.m p.m) 32 1 p.m ((duF p t l (i+1)).map aQ).flatten]) (by rw[B,<- W,<- bM bI _ (by rw[nQ];omega)];rfl)<|U0 (m':=t.others.length-(i+1)) om_ A (hn_ [0,4,7,15,16,17] U) ⟨i+1,om_,U,U,U⟩
  have r:t.oth i<p.n:=by
   have am:¬ p.n<=t.oth i:=by simpa using q
   omega
  rw[KY d r];refine UQ fun R a=>UV _ U U6<|C6 1 [0,4,7,15,16,17] a U<|U0 (m':=t.others.length-(i+1)) om_ A (hn_ [0,4,7,15,16,17] U) ⟨i+1,om_,U,U,U⟩
 have d:i=t.others.length:=by
  have:=Rc k;rw[au]at this;omega
 refine UM 2 [6] U<|U1 (Vx U U ?_);exact⟨g,U,by rw[d,Oj]⟩
def ngF (p:Lp.Sys)(t:Lp.Tab)(l:Lp.Line)(i:Nat):List Rat:=(List.range p.m).map fun r=>if r<i then -Lp.dualV p t l r else Lp.dualV p t l r
theorem ir :(ngF p t l i).length=p.m:=by simp[ngF]
theorem CG {r:Nat}(h:r<p.m):(ngF p t l i)[r]?=some (if r<i then -Lp.dualV p t l r else Lp.dualV p t l r):=by
 unfold ngF;rw[Rb,RK h];rfl
theorem Kf (p:Lp.Sys)(t:Lp.Tab)(l:Lp.Line):(List.range p.m).map (Lp.dualV p t l)=ngF p t l 0:=List.map_congr_left fun r _=>by rw[aF (Nat.not_lt_zero _)]
theorem NT (h:i<p.m):(ngF p t l i).set i (-Lp.dualV p t l i)=ngF p t l (i+1):=by
 refine List.ext_getElem? fun v=>?_;rw[List.getElem?_set,ir];by_cases a:v<p.m
 ·rw[CG a,CG a];by_cases e:i=v
  ·subst e;rw[aJ rfl,aJ a,aJ om_]
  rw[aF e];by_cases hm:v<i
  ·rw[aJ hm,aJ om_]
  rw[aF hm,aF om_]
 rw[aF om_,Ri (by rw[ir];omega),Ri (by rw[ir];omega)]
theorem NU (h:t.bas i-p.n<p.m):(ngF p t (t.line i) p.m).set (t.bas i-p.n) 1=(List.range p.m).map (Lp.refV p t i):=by
 refine List.ext_getElem? fun v=>?_;rw[List.getElem?_set,ir,Rb];by_cases a:v<p.m
 ·rw[CG a,RK a,aJ a];unfold Lp.refV;by_cases e:t.bas i-p.n=v
  ·subst e;rw[aJ rfl,aJ h,SN,aJ rfl]
  rw[aF e,SN,aF (fun b=>e b.symm)]
 rw[aF om_,Ri (by rw[ir];omega),Ri ap];rfl
theorem qtx1:qtx 1=[49]:=by decide +kernel
theorem enc1:aQ 1=[Value.string ⟨#[49]⟩]:=by
 show [af (qtx 1)]=_;rw[qtx1];rfl
theorem JO (C:Mem)(p:Lp.Sys)(b i:Nat)(t:Lp.Tab)(A E s v:Value)(e:List Value)(h:TabV C b p.n t A E s v e)(w:Lp.TabOf p t)(F:p.m<=1000000)(f:i<t.basic.length)(X:p.n<=t.bas i)(H:∀ r,QB 50 (Lp.dualV p t (t.line i) r)) :
  Pur cx.P 139 [p_ b,i_ i,i_ p.m] C fun u D=>∃ g,u=.agg ⟨[s_ g p.m p.m]⟩/\Sl D 1 (s_ g p.m p.m) (((List.range p.m).map (Lp.refV p t i)).map aQ):=by
 have ok:=w.ok;obtain⟨Y,Z,rfl,aa,ab,_⟩:=id h.B;obtain⟨A2,c2,rfl,ac,ad,_⟩:=id h.L;obtain⟨k,I⟩:=mm h ok f;obtain⟨A3,c3,J,ae,af,_⟩:=id k;have ah:=ok.ll;have x:=kc (ls:=t.lines) (ws:=e) (i:=i) om_ h.fl;rw[J]at x k;have ai:=mx_
 have aj:=ok.lt _ (Rr.2 (.inl (Lp.bas_mem f)));have K:t.bas i-p.n<p.m:=by omega
 have z:((t.bas i:Int)-(p.n:Int)).toNat=t.bas i-p.n:=by omega
 refine UU func139 49 U3 fun w0=>UQ fun R a=>Ve U5 fun c=>US [0,1,2,6] a U<|Vl [(9,3)] U fun R a=>UR 4 U<|UO (PtrTo.blockT (h.m_.o) _ 1) U8<|UP U6<|Va h.L.m_ U10 om_ x fl_ fun al M=>UO M U8<|UP U6<|D.call (HV _ p b t (t.line i) _ _ s v _ e h.m_ w F k.m_ I) U (.inr dc_) U6 (Rh _) fl_ (fun am _ an _ N=>?_);obtain⟨g,rfl,rfl⟩:=N;refine C6 1 [0,1,6,7] a U<|UM 3 [0,1,6,7,20,21,22] U<|Vc (L':=[.arr (s_ g p.m p.m) 32 1 p.m ((ngF p t (t.line i) 0).map aQ).flatten,.obj c (.cells ⟨[.slice none 0 0]⟩ 68 (0,0))]) (by rw[<- Kf];rfl)<|G.loop (fun fr C' l O=>∃ (j:Nat),(j<=p.m)/\fr=[(0,[],p_ b),(1,[],i_ i),(6,[],p_ c),(7,[],s_ g p.m p.m),(20,[],s_ g p.m p.m),(21,[],i_ p.m),(22,[],i_ j)]/\l=[.arr (s_ g p.m p.m) 32 1 p.m ((ngF p t (t.line i) j).map aQ).flatten,.obj c (.cells ⟨[.slice none 0 0]⟩ 68 (0,0))]/\O=p.m-j) (hn_ [0,1,6,7,20,21,22] U) ⟨0,Re _,U,U,U⟩ (fun fr ao ap m Q S=>?_);obtain⟨j,hj,rfl,rfl,rfl⟩:=S;refine UM 1 [0,1,6,7,20,21,22,23] U<|G.cd (fun q=>?_) fun q=>?_
 ·have d:j<p.m:=by
   have:=Qw q;omega
  have T:(ngF p t (t.line i) j)[j]?=some (Lp.dualV p t (t.line i) j):=by rw[CG d,aF (Nat.lt_irrefl _)]
  refine UN 1 U fun R a=>Vp (j*1) U10 w_ U2<|VE ag U6 (fun _=>(by rw[dO bI T];rfl)) U2<|C6 2 [0,1,6,7,8,9,20,21,22] a U<|UN 3 U fun R a=>UY (eJ _ _ (Rn (aZ (H j) dc_) dc_)) U7 fl_<|Vp (j*1) U10 w_ U2<|Vr (j:=0) U11 (by show j*1+1<=_;rw[bT bI,ir];omega)<|US [0,1,6,7,20,21,22] a U<|UQ fun R a=>UV _ U U6<|C6 1 [0,1,6,7,20,21,22] a U<|Vc (L':=[.arr (s_ g p.m p.m) 32 1 p.m ((ngF p t (t.line i) (j+1)).map aQ).flatten,.obj c (.cells ⟨[.slice none 0 0]⟩ 68 (0,0))]) (by rw[<- NT d,<- bM bI _ (by rw[ir];omega)];rfl)<|U0 (m':=p.m-(j+1)) om_ Q (hn_ [0,1,6,7,20,21,22] U) ⟨j+1,om_,U,U,U⟩
 have d:j=p.m:=by
  have:=Rc q;omega
 subst d;refine Vg [0,1,2,3,4,5,6,7,8,9,10,11,12,13,14] [] U kr_ fun R hB a=>UR 4 U<|UO (PtrTo.blockT (h.m_.o) _ 1) U8<|UP U6<|Va h.B.m_ U10 om_ (show(t.basic.map aW)[i]?=some (aW (t.bas i)) from fp f) fl_ fun aq V=>UO V U8<|UR 3 U<|UO (PtrTo.blockT (h.m_.o) _ 1) U8<|UV _ U U6<|Vp (((t.bas i:Int)-(p.n:Int)).toNat*1) U10 w_ U2<|Vr (j:=0) U11 (by show((t.bas i:Int)-(p.n:Int)).toNat*1+1<=_;rw[z,bT bI,ir];omega)<|US [6,7] a U<|UN 1 U fun R a=>Vf [s_ g p.m p.m] U8<|UX (j:=1) U12<|US [6] a U<|G.freezeArr 1 (((List.range p.m).map (Lp.refV p t i)).map aQ) ⟨rfl,(by rw[z,<- NU K,<- bM bI 1 (by rw[ir];omega),enc1])⟩ e_ ak fun Cg hg W=>U1 (VF ag U4 ?_);exact⟨U,g,U,W⟩
def cN (t:Lp.Tab)(wF:Nat->Value):List (Rat × Value):=(List.range t.basic.length).map fun i=>((t.line i).c,wF i)
theorem fL :(cN t wF).length=t.basic.length:=by simp[cN]
theorem oM (h:i<t.basic.length):(cN t wF)[i]?=some ((t.line i).c,wF i):=by
 unfold cN;rw[Rb,RK h];rfl
def LS (t:Lp.Tab)(wF:Nat->Value)(i:Nat):Lent:=.arr (wF i) t.others.length 1 32 ((t.line i).f.map aQ)
def fo (b n:Nat)(t:Lp.Tab)(wB wL wO wW:Value)(wF:Nat->Value):List Lent :=
 .obj b [.int .i64 n,wB,wL,wO,af (qtx t.worth.c),wW] 231::.arr wB t.basic.length 1 3 (t.basic.map aW)::.arr wL t.basic.length 2 228 ((cN t wF).map bH)
  :: .arr wO t.others.length 1 3 (t.others.map aW)::.arr wW t.others.length 1 32 (t.worth.f.map aQ)::(List.range t.basic.length).map (LS t wF)
theorem iw (a:t.Ok N)(h:i<t.basic.length):(t.line i).f.length=t.others.length:=a.fl _ (Lp.line_mem a h)
theorem bP {l:List Rat}:∀ r∈l.map aQ,r.length=1:=fun r hr=>by
 obtain⟨x,_,rfl⟩:=Ra.1 hr;rfl
theorem vk {l:List Nat}:∀ r∈l.map aW,r.length=1:=fun r hr=>by
 obtain⟨x,_,rfl⟩:=Ra.1 hr;rfl
theorem gw (c:t.Ok N):∀ x∈fo b n t wB wL wO wW wF,x.wf:=by
 intro x a;unfold fo at a;simp only[Rp,Ra,Rv]at a;rcases a with rfl|rfl|rfl|rfl|rfl|⟨i,d,rfl⟩
 ·trivial
 ·exact⟨by simp,vk⟩
 ·exact⟨by simp[fL],fun r hr=>by obtain⟨y,_,rfl⟩:=Ra.1 hr;rfl⟩
 ·exact⟨by simp,vk⟩
 ·exact⟨by simp[c.wl],bP⟩
 exact⟨by simp[iw c d],bP⟩
theorem Fk {b:Type}{f:Lp.Line->Value->b}(a:t.Ok N):List.zipWith f t.lines ((List.range t.basic.length).map wF)=(List.range t.basic.length).map fun i=>f (t.line i) (wF i):=by
 refine List.ext_getElem? fun i=>?_;rw[List.getElem?_zipWith,Rb,Rb];by_cases h:i<t.basic.length
 ·have h2:t.lines[i]?=some (t.line i):=by
   unfold Lp.Tab.line;rw[am,ai (by rw[a.ll];exact h)];rfl
  rw[h2,RK h];rfl
 rw[Ri (show(List.range t.basic.length).length<=i by simp;omega),Ri (show t.lines.length<=i by rw[a.ll];omega)];rfl
theorem ff (c:t.Ok N)(h:∀ x∈fo b n t wB wL wO wW wF,x.seen C):TabV C b n t wB wL wO wW ((List.range t.basic.length).map wF):=by
 have h1:=h _ (Q9 ..);have h2:=h _ (Rm _ (Q9 ..));have h3:=h _ (Rm _ (Rm _ (Q9 ..)));have h4:=h _ (Rm _ (Rm _ (Rm _ (Q9 ..))));have h5:=h _ (Rm _ (Rm _ (Rm _ (Rm _ (Q9 ..)))));have j:∀ i,i<t.basic.length->Sl C 1 (wF i) ((t.line i).f.map aQ):=fun i a =>
  h (LS t wF i) (Rm _ (Rm _ (Rm _ (Rm _ (Rm _ (Ra.2 ⟨i,Rv.2 a,rfl⟩))))))
 refine⟨h1,h2,h4,h5, ?_,by simp[c.ll],fun i l w e g=>?_⟩
 ·rw[Fk c];have d:Sl C 2 wL ((cN t wF).map bH):=h3;unfold cN at d;rw[R8]at d;exact d
 have a:i<t.lines.length:=(aT.1 e).1;rw[c.ll]at a;rw[Rb,RK a]at g;cases g
 have:t.line i=l:=by unfold Lp.Tab.line;rw[am,e];rfl
 rw[<- this];exact j i a
theorem JW (C:Mem)(p:Tabs C)(e m f i n s:Nat)(w g:Value)(d:List (Rat × Value))(a b:List Rat)(c h:Rat)(q:d.length=m)(r:d[i]?=some (c,w))(t:a.length=n)(k:b.length=n)(v:s<n)(y:QB 50 c)(z:∀ x∈a,QB 50 x)(A:QB 50 h)(B:∀ x∈b,QB 50 x) :
  Jog.Fn cx.P 262 [.pointer (some ⟨e,i*2,none⟩),i_ s,.agg ⟨[af (qtx h),g]⟩] C [.arr g 32 1 n (b.map aQ).flatten,.arr (s_ e m f) 228 2 m (d.map bH).flatten,.arr w 32 1 n (a.map aQ).flatten]
   fun u _ j=>u=.tuple #[]/\j=[.arr g 32 1 n (b.map aQ).flatten,.arr (s_ e m f) 228 2 m ((d.set i (c+a.getD s 0*h,w)).map bH).flatten,.arr w 32 1 n ((kX a b s (a.getD s 0) n).map aQ).flatten]:=by
 have l:Jog.Enters cx.P 262=true:=by kernel_rfl
 refine Fn.perm (L2:=[.arr w 32 1 n (a.map aQ).flatten,.arr g 32 1 n (b.map aQ).flatten,.arr (s_ e m f) 228 2 m (d.map bH).flatten]) (Se (l₁:=[_,_]) (l₂:=[_]))<|Fn.form l om_ fun E F G=>?_;subst G;refine Fn.perm (Se (l₁:=[_]) (l₂:=[_,_]))<|(Wg (post:=fun u j=>u=.tuple #[]/\j=[.arr (s_ e m f) 228 2 m ((d.set i (c+a.getD s 0*h,_)).map bH).flatten,.arr _ 32 1 n ((kX a b s (a.getD s 0) n).map aQ).flatten]) l bP (by simp[k]) fun o H I=>Nw o (p.mono H) e m f i E F n s g d a b c h q r t k v I y z A B).mono ?_;rintro u o j _ ⟨D,rfl,h1,rfl⟩;exact⟨h1,U⟩
theorem JU (C:Mem)(p:Tabs C)(d n s:Nat)(e f g h w i:Value)(a b:List Rat)(c j:Rat)(q:a.length=n)(l:b.length=n)(r:s<n)(t:QB 50 c)(v:∀ x∈a,QB 50 x)(y:QB 50 j)(z:∀ x∈b,QB 50 x) :
  Jog.Fn cx.P 262 [.pointer (some ⟨d,4,none⟩),i_ s,.agg ⟨[af (qtx j),i]⟩] C [.arr i 32 1 n (b.map aQ).flatten,.obj d (.cells ⟨[e,f,g,h,af (qtx c),w]⟩ 231 (0,0)),.arr w 32 1 n (a.map aQ).flatten]
   fun u _ k=>u=.tuple #[]/\k=[.arr i 32 1 n (b.map aQ).flatten,.obj d (.cells ⟨[e,f,g,h,af (qtx (c+a.getD s 0*j)),w]⟩ 231 (0,0)),.arr w 32 1 n ((kX a b s (a.getD s 0) n).map aQ).flatten]:=by
 have m:Jog.Enters cx.P 262=true:=by kernel_rfl
 refine Fn.perm (L2:=[.arr w 32 1 n (a.map aQ).flatten,.arr i 32 1 n (b.map aQ).flatten,.obj d (.cells ⟨[e,f,g,h,af (qtx c),w]⟩ 231 (0,0))]) (Se (l₁:=[_,_]) (l₂:=[_]))<|Fn.form m om_ fun B D E=>?_;subst E;refine Fn.perm (Se (l₁:=[_]) (l₂:=[_,_]))<|(Wg (post:=fun u k=>u=.tuple #[]/\k=[.obj d (.cells ⟨[e,f,g,h,af (qtx (c+a.getD s 0*j)),_]⟩ 231 (0,0)),.arr _ 32 1 n ((kX a b s (a.getD s 0) n).map aQ).flatten]) m bP (by simp[l]) fun o F G=>Nv o (p.mono F) d B D n s e f g h i a b c j q l r G t v y z).mono ?_;rintro u o k _ ⟨A,rfl,h1,rfl⟩;exact⟨h1,U⟩
theorem ot {F:Nat}(h:Lp.LeaveR F t s n o):o=-1∨∃ r:Nat,o=r/\r<n/\F<=t.bas r/\(t.line r).g s<0:=by
 cases h with
|none _=>exact .inl rfl
|some r h1 h2 h3 _=>exact .inr ⟨r,rfl,h1,h2,h3⟩
theorem GB (a b:Rat):decide (nU a b > 0)=decide (b<a):=by
 unfold nU;rw[RY];split
 ·next h=>exact⟨fun h2=>absurd h2 dc_,fun h2=>by grind⟩
 split
 ·next h=>exact⟨fun _=>h,fun _=>by decide⟩
 next h=>exact⟨fun h2=>absurd h2 dc_,fun h2=>absurd h2 h⟩
theorem GC (a b:Rat):(nU a b == 0)=decide (b=a):=by
 unfold nU;split
 ·next h=>rw[RG (by grind)];rfl
 split
 ·next h=>rw[RG (by grind)];rfl
 next h=>rw[Rt (by grind)];rfl
theorem Ks (C:Mem)(S:Tabs C)(b n s N:Nat)(t:Lp.Tab)(wB wL T V:Value)(k:List Value)(h:TabV C b n t wB wL T V k)(W:t.Ok N)(hs:s<t.others.length)(X:∀ i,i<t.basic.length->QB 20 (t.line i).c/\QB 20 ((t.line i).g s)) :
  Pur cx.P 211 [p_ b,i_ s] C fun u _=>∃ o:Int,u=i_ o/\Lp.LeaveR n t s t.basic.length o:=by
 obtain⟨A1,c1,rfl,aw,ax,_⟩:=id h.B;obtain⟨A2,c2,rfl,ay,az,_⟩:=id h.L;have E:=h.B;have aA:=mx_
 have aB:=W.ll;have ac:=h.fl;have aC:(List.zipWith (fun(l:Lp.Line) w=>[af (qtx l.c),w]) t.lines k).length=t.basic.length:=by simp;omega
 refine UU func211 85 U3 fun w0=>UM 1 [0,1] U<|UM 1 [0,1,5] U<|UM 1 [0,1,5,6] U<|UN 3 U fun R a=>UO (PtrTo.blockT (h.m_.o) _ 1) U8<|C6 2 [0,1,5,6,15,16,17] a U<|G.loop (fun fr C' L' μ=>∃ (i:Nat)(o:Int)(v:Str),(i<=t.basic.length/\Lp.LeaveR n t s i o/\∀ r:Nat,o=r->v=qtx ((t.line r).c / -(t.line r).g s))/\fr=[(0,[],p_ b),(1,[],i_ s),(5,[],i_ o),(6,[],af v),(15,[],.slice A2 (List.zipWith (fun(l:Lp.Line) w=>[af (qtx l.c),w]) t.lines k).length c2),(16,[],i_ (List.zipWith (fun(l:Lp.Line) w=>[af (qtx l.c),w]) t.lines k).length),(17,[],i_ i)]/\L'=[]/\μ=t.basic.length-i) (hn_ [0,1,5,6,15,16,17] U) ⟨0, -1,[],⟨Re _,.none fun j hj=>absurd hj (Nat.not_lt_zero _),fun r hr=>by omega⟩,U,U,U⟩ (fun fr aD aE m _ hI=>?_);obtain⟨i,o,v,⟨hi,f,F⟩,rfl,rfl,rfl⟩:=hI;refine UM 1 [0,1,5,6,15,16,17,18] U<|G.cd (fun H=>?_) fun H=>?_
 ·have p:i<t.basic.length:=by
   have:=Qw H;omega
  obtain⟨z,aF⟩:=mm h W p;obtain⟨A3,c3,ad,aG,aH,_⟩:=id z;obtain⟨Y,I⟩:=X i p;have Z:=kc (ls:=t.lines) (ws:=k) (i:=i) om_ ac;rw[ad]at Z z;have aa:(qtx ((t.line i).g s)).length<=1000000:=Rn (aZ I dc_) dc_;refine UN 1 U fun R a=>Va h.L.m_ U10 om_ Z fl_ fun aI ae=>UO ae U8<|Ve U5 fun b8=>UP U6<|UX (j:=0) U12<|US [0,1,5,6,7,8,15,16,17] a U<|G.freeze 0 U fun _ _ J=>UN 4 U fun R a=>UO (PtrTo.blockT (h.m_.o) _ 1) U8<|UP U6<|Va E.m_ U10 om_ (fp p) fl_ fun aJ ag=>UO ag U8<|UZ (fA _ b n (t.bas i) t _ _ T V k h.m_) U7<|UR 3 U<|Vm U6 (fun _=>PtrTo.blockT (Mem.get J mup) _ 1) U3<|UP U6<|D.index U10 (fun hg=>⟨z.mono mup,by omega,dN om_⟩) fl_ U fun aK ah=>Vm U6 ah U3<|Vv (fun _=>(fb _ ((t.line i).g s) aa)) U9<|UP U6<|Vq U8<|US [0,1,5,6,7,8,15,16,17,40] a U<|G.cd (fun K=>?_) fun K=>?_
  ·have d:n<=t.bas i->0<=(t.line i).g s:=by
    intro h1;have d:(!decide (n<=t.bas i) || decide (eG ((t.line i).g s).num ≥ 0))=true:=K;rw[uF,Rt h1]at d;simpa using d
   refine UQ fun R a=>UV _ U U6<|C6 1 [0,1,5,6,15,16,17] a U<|U0 (m':=t.basic.length-(i+1)) om_ mup (hn_ [0,1,5,6,15,16,17] U) ⟨i+1,o,v,⟨by omega,f.no d,F⟩,U,U,U⟩
  have d:n<=t.bas i/\(t.line i).g s<0:=by
   have d:(!decide (n<=t.bas i) || decide (eG ((t.line i).g s).num ≥ 0))=false:=K;rw[uF]at d;simp only[SK,Bool.not_eq_false',Rj,RJ]at d;exact⟨d.1,by have:=d.2;grind⟩
  have ab:-(t.line i).g s≠0:=by have:=d.2;grind
  have ai:=jH Y (eP I) ab;refine Vg [0,1,2,3,4,5,6,7,8,9,10,11,12,13] [(7,1),(8,1)] U kr_ fun R hB a=>UP U6<|UO (bkT J 1) U8<|UP U6<|UO (bkT J 1) U8<|UP U6<|Va z.m_ U10 om_ (dN om_) fl_ fun aL aj=>UO aj U8<|Vv (fun _=>(eJ _ ((t.line i).g s) aa)) U9<|Vh (fun _=>(ik _ S.m_ (t.line i).c (-(t.line i).g s) 20 dc_ dc_ Y (eP I) ab)) U9<|C6 5 [0,1,5,6,7,9,15,16,17] a U<|UM 1 [0,1,5,6,7,9,15,16,17] U<|UM 2 [0,1,5,6,7,9,15,16,17,54] U<|G.cd (fun M=>?_) fun M=>?_
  ·have ak:0<=o:=by simpa using Qw M
   obtain⟨r,O,aM,aN,aO⟩:=(ot f).resolve_left om_;obtain⟨al,am⟩:=X r om_;have an:-(t.line r).g s≠0:=by grind
   have ao:=jH al (eP am) an;have ap:=F r O;rw[O]at f;subst O;subst ap;obtain⟨x,A⟩:∃ x,(t.line i).c / -(t.line i).g s=x:=⟨_,rfl⟩;obtain⟨y,hy⟩:∃ y,(t.line r).c / -(t.line r).g s=y:=⟨_,rfl⟩;refine UN 2 U fun R a=>UY (fN _ S.m_ _ _ 40 dc_ dc_ ai ao) U7 fl_<|C6 1 [0,1,5,6,7,9,11,15,16,17] a U<|Vg [0,1,2,3,4,5,6,7,8,9,10,11,12,13,14,15,16,17,18,19,20,21,22] [] U kr_ fun R hB a=>UR 9 U<|Vm U6 (fun _=>PtrTo.blockT (h.m_.o) _ 1) U3<|UP U6<|D.index U10 (fun hg=>⟨E.mono mup,by omega,fp p⟩) fl_ U fun aP aq=>Vm U6 aq U3<|UR 3 U<|Vm U6 (fun _=>PtrTo.blockT (h.m_.o) _ 1) U3<|UP U6<|D.index U10 (fun hg=>⟨E.mono mup,by omega,by rw[S6];exact fp om_⟩) fl_ U fun aQ ar=>Vm U6 ar U3<|UP U6<|Vk U8<|Vq U8<|US [0,1,5,6,7,9,15,16,17,80] a U<|G.cd (fun Q=>?_) fun Q=>?_
   ·have e:y<x∨y=x/\t.bas r<t.bas i:=by
     have e:(decide (nU ((t.line i).c / -(t.line i).g s) ((t.line r).c / -(t.line r).g s) > 0) || (nU ((t.line i).c / -(t.line i).g s) ((t.line r).c / -(t.line r).g s) == 0 && decide ((t.bas i:Int) > (t.bas r:Int))))=true:=Q;rw[A,hy,GB,GC]at e;simp only[SX,Rq,Rj]at e;rcases e with h1|⟨h1,h2⟩
     ·exact .inl h1
     exact .inr ⟨h1,by omega⟩
    have q:=f.keep (by rw[A,hy];exact e.elim .inl (fun h1=>.inr ⟨h1.1,by have:=h1.2;omega⟩));refine UQ fun R a=>UV _ U U6<|C6 1 [0,1,5,6,15,16,17] a U<|U0 (m':=t.basic.length-(i+1)) om_ mup (hn_ [0,1,5,6,15,16,17] U) ⟨i+1,(r:Int),qtx ((t.line r).c / -(t.line r).g s),⟨by omega,q,F⟩,U,U,U⟩
   have e:x<y∨x=y/\t.bas i<=t.bas r:=by
    have e:(decide (nU ((t.line i).c / -(t.line i).g s) ((t.line r).c / -(t.line r).g s) > 0) || (nU ((t.line i).c / -(t.line i).g s) ((t.line r).c / -(t.line r).g s) == 0 && decide ((t.bas i:Int) > (t.bas r:Int))))=false:=Q;rw[A,hy,GB,GC]at e;simp only[SK,Bool.and_eq_false_iff,RJ]at e;obtain⟨h1,h2⟩:=e;by_cases h3:x<y
    ·exact .inl h3
    have h4:y=x:=by grind
    rcases h2 with h2|h2
    ·exact absurd h4 h2
    exact .inr ⟨h4.symm,by omega⟩
   have q:=f.less d.1 d.2 (by rw[A,hy];exact e);refine UM 4 [0,1,5,6,15,16,17] U<|UQ fun R a=>UV _ U U6<|C6 1 [0,1,5,6,15,16,17] a U<|U0 (m':=t.basic.length-(i+1)) om_ mup (hn_ [0,1,5,6,15,16,17] U) ⟨i+1,(i:Int),qtx ((t.line i).c / -(t.line i).g s),⟨by omega,q,fun r' au=>by rw[show r'=i by omega]⟩,U,U,U⟩
  have ak:¬ 0<=o:=by simpa using Rc M
  have av:o=-1:=by
   rcases ot f with h1|⟨r,h1,_⟩
   ·exact h1
   omega
  subst av;have q:=f.first d.1 d.2;refine UM 4 [0,1,5,6,15,16,17] U<|UQ fun R a=>UV _ U U6<|C6 1 [0,1,5,6,15,16,17] a U<|U0 (m':=t.basic.length-(i+1)) om_ mup (hn_ [0,1,5,6,15,16,17] U) ⟨i+1,(i:Int),qtx ((t.line i).c / -(t.line i).g s),⟨by omega,q,fun r' au=>by rw[show r'=i by omega]⟩,U,U,U⟩
 have p:i=t.basic.length:=by
  have:=Rc H;omega
 exact UM 2 [4] U<|UT U2<|⟨U,o,U,by rw[<- p];exact f⟩
def ryF (t:Lp.Tab)(s n:Nat)(k:Rat)(i:Nat):List Rat:=(List.range n).map fun v=>if v∈t.basic.take i then k*t.dir s v else if v=t.oth s then k else 0
theorem kV :(ryF t s n k i).length=n:=by simp[ryF]
theorem BV (h:v<n):(ryF t s n k i)[v]?=some (if v∈t.basic.take i then k*t.dir s v else if v=t.oth s then k else 0):=by
 unfold ryF;rw[Rb,RK h];rfl
theorem JD (h:n<=t.oth s):List.replicate n 0=ryF t s n k 0:=by
 refine List.ext_getElem? fun v=>?_;by_cases a:v<n
 ·rw[BV a,Sq,aJ a,List.take_zero,aF Sh,aF om_]
 rw[Ri ap,Ri (by rw[kV];omega)]
theorem Na (h:t.oth s<n):(List.replicate n 0).set (t.oth s) k=ryF t s n k 0:=by
 refine List.ext_getElem? fun v=>?_;rw[List.getElem?_set];by_cases a:v<n
 ·rw[BV a,Sq,aJ a,List.take_zero,aF Sh];by_cases e:t.oth s=v
  ·rw[aJ e,aJ (by simpa using h),aJ e.symm]
  rw[aF e,aF (fun b=>e b.symm)]
 rw[aF om_,Ri ap,Ri (by rw[kV];omega)]
theorem M9 (b:Lp.TabOf p t)(c:s<t.others.length)(h:i<t.basic.length)(d:t.bas i<n):(ryF t s n k i).set (t.bas i) (k*(t.line i).g s)=ryF t s n k (i+1):=by
 refine List.ext_getElem? fun v=>?_;rw[List.getElem?_set,kV];by_cases a:v<n
 ·rw[BV a,BV a,lO h];by_cases e:t.bas i=v
  ·subst e;rw[aJ rfl,aJ a,aJ ak,Lp.dir_bas b c h]
  rw[aF e];by_cases hm:v∈t.basic.take i
  ·rw[aJ hm,aJ (by simp[hm])]
  rw[aF hm,aF (show ¬ v∈t.basic.take i++[t.bas i] by simp[hm];exact fun h2=>e h2.symm)]
 rw[aF om_,Ri (by rw[kV];omega),Ri (by rw[kV];omega)]
theorem JE (h:i<t.basic.length)(a:n<=t.bas i):ryF t s n k i=ryF t s n k (i+1):=by
 refine List.map_congr_left fun v hm=>?_;have b:=Rv.1 hm;rw[lO h];by_cases hm:v∈t.basic.take i
 ·rw[aJ hm,aJ (by simp[hm])]
 rw[aF hm,aF (show ¬ v∈t.basic.take i++[t.bas i] by simp[hm];omega)]
theorem Nb (a:Lp.TabOf p t):ryF t s n k t.basic.length=(List.range n).map fun v=>k*t.dir s v:=by
 refine List.map_congr_left fun v _=>?_;rw[Rk];split
 ·rfl
 next h =>
 rw[Lp.dir_oth a h];split <;> grind
def lE (t:Lp.Tab)(s:Nat):Rat:=if 0<t.worth.g s then -1 else 1
theorem PF:qtx (-1)=[45,49]:=by decide +kernel
theorem PE (C:Mem)(Q:Tabs C)(p:Lp.Sys)(b s:Nat)(t:Lp.Tab)(S T V X:Value)(r:List Value)(h:TabV C b p.n t S T V X r)(x:Lp.TabOf p t)(I:s<t.others.length)(Y:p.n<=1000000)(Z:∀ i,i<t.basic.length->QB 20 ((t.line i).g s))(aa:QB 20 (t.worth.g s)) :
  Jog.Fn cx.P 142 [p_ b,i_ s] C [] fun u _ c=>∃ g,u=s_ g p.n p.n/\c=[.arr u 32 1 p.n (((List.range p.n).map fun v=>lE t s*t.dir s v).map aQ).flatten]:=by
 have ok:=x.ok;obtain⟨A1,J,rfl,ab,ap,_⟩:=id h.B;obtain⟨A2,c2,rfl,aq,ar,_⟩:=id h.L;obtain⟨A3,c3,rfl,av,aw,_⟩:=id h.O;obtain⟨A4,c4,rfl,ax,ay,_⟩:=id h.W;have ac:=h.B;have az:t.basic.length<=J:=by rwa [au]at ab
 have aA:=mx_
 have aB:=ok.ll;have ad:=h.fl;have aC:=ok.wl;have ae:QB 20 (lE t s):=by unfold lE;split <;> exact⟨by decide,by decide⟩
 refine UU func142 72 U3 fun w0=>UM 1 [0,1] U<|UM 1 [0,1,5] U<|UN 4 U fun R a=>UO (PtrTo.blockT (h.m_.o) _ 1) U8<|UP U6<|Va h.W.m_ U10 om_ (dN om_) fl_ fun aD ag=>UO ag U8<|UY (fb _ (t.worth.g s) (Rn (aZ aa dc_) dc_)) U7 fl_<|C6 1 [0,1,5,19] a U<|G.cut (fun fr K c f=>(True)/\fr=[(0,[],p_ b),(1,[],i_ s),(5,[],af (qtx (lE t s)))]/\c=[]) ?_ (fun fr _ aE f _ l=>?_)
 ·refine G.cd (fun y=>?_) fun y=>?_
  ·have z:lE t s=-1:=by
    have d:0<t.worth.g s:=by
     have d:decide (0<eG (t.worth.g s).num)=true:=y;rw[uE]at d;exact Qw d
    unfold lE;rw[aJ d]
   refine UM 1 [0,1,5] U<|Vb 0 l_ (hn_ [0,1,5] U) ⟨trivial,by rw[z,PF];rfl,U⟩
  have z:lE t s=1:=by
   have d:¬ 0<t.worth.g s:=by
    have d:decide (0<eG (t.worth.g s).num)=false:=y;rw[uE]at d;exact Rc d
   unfold lE;rw[aF d]
  refine Vb 0 l_ (hn_ [0,1,5] U) ⟨trivial,by rw[z,qtx1];rfl,U⟩
 obtain⟨ah,rfl,rfl⟩:=l;refine Vl [(4,3)] U fun R a=>UR 3 U<|UO (PtrTo.blockT (h.m_.o) _ 1) U8<|D.call (gN _ p.n Y) U (.inr dc_) U6 (Rh _) fl_ fun aG _ aH _ ai=>C6 1 [0,1,5,6] a U ?_;obtain⟨g,rfl,rfl⟩:=ai;refine Vc (L':=[.arr (s_ g p.n p.n) 32 1 p.n ((List.replicate p.n (0:Rat)).map aQ).flatten]) (by rw[<- ux];rfl)<|UN 3 U fun R a=>UO (PtrTo.blockT (h.m_.o) _ 1) U8<|UP U6<|Va h.O.m_ U10 om_ (show(t.others.map aW)[s]?=some (aW (t.oth s)) from fp I) fl_ fun aI aj=>UO aj U8<|C6 1 [0,1,5,6,7] a U<|UN 2 U fun R a=>UZ (fA _ b p.n (t.oth s) t _ _ _ _ r h.m_) U7<|C6 1 [0,1,5,6,7,35] a U<|G.cut (fun fr K c f=>(True)/\fr=[(0,[],p_ b),(1,[],i_ s),(5,[],af (qtx (lE t s))),(6,[],s_ g p.n p.n)]/\c=[.arr (s_ g p.n p.n) 32 1 p.n ((ryF t s p.n (lE t s) 0).map aQ).flatten]) ?_ (fun fr _ aK f _ l=>?_)
 ·refine G.cd (fun A=>?_) fun A=>?_
  ·have q:t.oth s<p.n:=by
    have q:¬ p.n<=t.oth s:=by simpa using A
    omega
   refine UN 3 U fun R a=>Vp (t.oth s*1) U10 w_ U2<|Vr (j:=0) U11 (by show t.oth s*1+1<=_;rw[bT bI,RI];omega)<|US [0,1,5,6] a U<|Vc (L':=[.arr (s_ g p.n p.n) 32 1 p.n ((ryF t s p.n (lE t s) 0).map aQ).flatten]) (by rw[<- Na q,<- bM bI _ (by rw[RI];exact q)];rfl)<|Vb 0 l_ (hn_ [0,1,5,6] U) ⟨trivial,U,U⟩
  have q:p.n<=t.oth s:=by simpa using A
  rw[JD (k:=lE t s) q];refine Vb 0 l_ (hn_ [0,1,5,6] U) ⟨trivial,U,U⟩
 obtain⟨ah,rfl,rfl⟩:=l;refine UN 3 U fun R a=>UO (PtrTo.blockT (h.m_.o) _ 1) U8<|C6 2 [0,1,5,6,43,44,45] a U<|G.loop (fun fr K c f=>∃ (i:Nat),(i<=t.basic.length)/\fr=[(0,[],p_ b),(1,[],i_ s),(5,[],af (qtx (lE t s))),(6,[],s_ g p.n p.n),(43,[],.slice A1 (t.basic.map aW).length J),(44,[],i_ (t.basic.map aW).length),(45,[],i_ i)]/\c=[.arr (s_ g p.n p.n) 32 1 p.n ((ryF t s p.n (lE t s) i).map aQ).flatten]/\f=t.basic.length-i) (hn_ [0,1,5,6,43,44,45] U) ⟨0,Re _,U,U,U⟩ (fun fr aL aM m M l=>?_);obtain⟨i,hi,rfl,rfl,rfl⟩:=l;refine UM 1 [0,1,5,6,43,44,45,46] U<|G.cd (fun E=>?_) fun E=>?_
 ·have e:i<t.basic.length:=by
   have:=Qw E;rw[au]at this;omega
  obtain⟨F,aN⟩:=mm h ok e;obtain⟨A5,c5,ak,aO,aP,_⟩:=id F;have N:=kc (ls:=t.lines) (ws:=r) (i:=i) om_ ad;rw[ak]at N F;refine UN 1 U fun R a=>Va ac.m_ U10 om_ (show(t.basic.map aW)[i]?=some (aW (t.bas i)) from fp e) fl_ fun aR al=>UO al U8<|C6 2 [0,1,5,6,8,9,43,44,45] a U<|UN 2 U fun R a=>UZ (fA _ b p.n (t.bas i) t _ _ _ _ r h.m_) U7<|C6 1 [0,1,5,6,8,9,43,44,45,53] a U<|G.cd (fun H=>?_) fun H=>?_
  ·have w:t.bas i<p.n:=by
    have aS:¬ p.n<=t.bas i:=by simpa using H
    omega
   refine UN 6 U fun R a=>UO (PtrTo.blockT (h.m_.o) _ 1) U8<|UP U6<|Va h.L.m_ U10 om_ N fl_ fun aT am=>V0 am U10 fl_ fun aU an=>UO an U8<|UP U6<|Va F.m_ U10 om_ (dN om_) fl_ fun aV ao=>UO ao U8<|UY (cP _ Q.m_ (lE t s) ((t.line i).g s) 20 dc_ dc_ ae (Z i e)) U7 fl_<|Vp (t.bas i*1) U10 w_ U2<|Vr (j:=0) U11 (by show t.bas i*1+1<=_;rw[bT bI,kV];omega)<|US [0,1,5,6,43,44,45] a U<|UQ fun R a=>UV _ U U6<|C6 1 [0,1,5,6,43,44,45] a U<|Vc (L':=[.arr (s_ g p.n p.n) 32 1 p.n ((ryF t s p.n (lE t s) (i+1)).map aQ).flatten]) (by rw[<- M9 x I e w,<- bM bI _ (by rw[kV];exact w)];rfl)<|U0 (m':=t.basic.length-(i+1)) om_ M (hn_ [0,1,5,6,43,44,45] U) ⟨i+1,om_,U,U,U⟩
  have w:p.n<=t.bas i:=by simpa using H
  rw[JE e w];refine UQ fun R a=>UV _ U U6<|C6 1 [0,1,5,6,43,44,45] a U<|U0 (m':=t.basic.length-(i+1)) om_ M (hn_ [0,1,5,6,43,44,45] U) ⟨i+1,om_,U,U,U⟩
 have e:i=t.basic.length:=by
  have:=Rc E;rw[au]at this;omega
 refine UM 2 [4] U<|U1 (Vx U U ?_);exact⟨g,U,by rw[e,Nb x]⟩
end Go.Proofs.YtfjcldheldflbaaGreatDoor
