/- Laws that the proofs of this seat share, part 12. -/
import Derived.Test.YtfjcldheldflbaaGreatDoorG11
import Derived.Test.YtfjcldheldflbaaGreatDoorShelf
set_option maxHeartbeats 4000000
namespace Go.Proofs.YtfjcldheldflbaaGreatDoor
open Go.Proofs.Tryz
open Go Go.Jog
set_option maxRecDepth 100000
variable {C:Mem}{N:Nat}{a:Rat}{b:Nat}{bf fs:List Rat}{i j:Nat}{k:Rat}{l:Lp.Line}{ls:List (Rat × Value)}{m n:Nat}{o:Int}{p:Lp.Sys}{q:Nat}{r:List Str × Str}{rows:List (List Str × Str)}{s:Nat}{t:Lp.Tab}{v:Nat}{vs:List Value}{wB:Value}{wF:Nat->Value}{wL wO wW:Value}
def RowsT (C:Mem)(v:Value)(rows:List (List Str × Str)):Prop:=∃ vs:List Value,vs.length=rows.length/\(∀ (i:Nat)(w:Value)(r:List Str × Str),vs[i]?=some w->rows[i]?=some r->Sl C 1 w (r.1.map oF))/\Sl C 2 v (List.zipWith (fun w (r:List Str × Str)=>[w,ae r.2]) vs rows)
theorem RowsT.mono {C D:Mem}{v:Value}{a:List (List Str × Str)}(h:RowsT C v a)(b:C.le D):RowsT D v a:=by
 obtain⟨vs,h1,h2,h3⟩:=h;exact⟨vs,h1,fun i w r c hr=>(h2 i w r c hr).mono b,h3.mono b⟩
theorem RowsT.m_ {D:Mem}{v:Value}(h:RowsT C v rows)(a:C.le D:=by exact mup):RowsT D v rows:=RowsT.mono h a
theorem zj {w:Value}(a:vs[i]?=some w)(b:rows[i]?=some r):(List.zipWith (fun w (r:List Str × Str)=>[w,ae r.2]) vs rows)[i]?=some [w,ae r.2]:=by
 rw[List.getElem?_zipWith,a,b]
theorem oI (h:vs.length=rows.length):(List.zipWith (fun w (r:List Str × Str)=>[w,ae r.2]) vs rows).length=rows.length:=by simp[h]
def Gj (n:Int)(r:List Str × Str):Int:=if gb n r.1≠0 then gb n r.1 else oH (aR r.2)
def uu (n:Int):List (List Str × Str)->Int
|[]=>0
|r::l=>if Gj n r≠0 then Gj n r else uu n l
def Fo (n:Int)(rows:List (List Str × Str))(obj:List Str):Int:=if n<0∨60<n then 3 else if 300<rows.length then 4 else if gb n obj≠0 then gb n obj else uu n rows
def OX (rows:List (List Str × Str)):Prop:=∀ r∈rows,(∀ s∈r.1,s.length<=999998)/\r.2.length<=999998
theorem qw (C:Mem)(p:Tabs C)(n:Int)(E F:Value)(a:List (List Str × Str))(c:List Str)(M:RowsT C E a)(q:Sl C 1 F (c.map oF))(H:OX a)(N:∀ s∈c,s.length<=999998) :
  Gives cx.P 73 [.agg ⟨[i_ n,E,F]⟩] C (i_ (Fo n a c)):=by
 obtain⟨vs,O,Q,t⟩:=M;obtain⟨S,c0,rfl,T,ae,_⟩:=id t;obtain⟨A1,c1,rfl,V,af,_⟩:=id q;have ag:=mx_
 simp only[oI O,au]at t q T V⊢;refine Vi func73 48 U3 fun w0=>Vd fun R b=>Vs U6 fun W=>C6 1 [1] b U<|G.freeze 0 U fun _ _ d=>Va 1 U fun R b=>Vb (bkT d 1) U8<|Ve 3 U<|VE U6 (fun _=>PtrTo.blockT (Mem.get d mup) _ 1) U3<|Vc U6<|VH U8<|C6 1 [1,7] b U<|G.cd (fun u=>?_) fun u=>?_
 ·have f:n<0∨60<n:=by
   simp only[Tp,Ry]at u;omega
  exact U1 1 [2] U<|Vg U2<|⟨by unfold Fo;rw[aM f],U⟩
 have f:¬ (n<0∨60<n):=by
  simp only[Tf,RZ]at u;omega
 refine Va 1 U fun R b=>Vb (bkT d 1) U8<|C6 3 [1,16] b U<|G.cd (fun v=>?_) fun v=>?_
 ·have g:300<a.length:=by
   have:=QL v;omega
  exact U1 1 [2] U<|Vg U2<|⟨by unfold Fo;rw[aF f,aM g],U⟩
 have g:¬ 300<a.length:=by
  have:=Rt v;omega
 refine Va 1 U fun R b=>Vb (bkT d 1) U8<|Vc U6<|Vb (bkT d 1) U8<|Vl (uI _ p.m_ _ n c q.m_ N) U7<|C6 1 [1,3] b U<|U1 2 [1,3,27] U<|G.cd (fun x=>?_) fun x=>?_
 ·have y:gb n c≠0:=by simpa using x
  exact U1 2 [2] U<|Vg U2<|⟨by unfold Fo;rw[aF f,aF g,aM y],U⟩
 have y:¬ gb n c≠0:=by simpa using x
 have z:Fo n a c=uu n a:=by unfold Fo;rw[aF f,aF g,aF y]
 refine Va 1 U fun R b=>Vb (bkT d 1) U8<|C6 2 [1,30,31,32] b U<|G.loop (fun fr C' X Y=>∃ (i:Nat),(i<=a.length/\uu n a=uu n (a.drop i))/\fr=[(1,[],p_ W),(30,[],.slice S a.length c0),(31,[],i_ a.length),(32,[],i_ i)]/\X=[]/\Y=a.length-i) (hn_ [1,30,31,32] U) ⟨0,⟨Rv _,U⟩,U,U,U⟩ (fun fr ah aj m _ Z=>?_);obtain⟨i,⟨hi,e⟩,rfl,rfl,rfl⟩:=Z;refine U1 1 [1,30,31,32,33] U<|G.cd (fun A=>?_) fun A=>?_
 ·have h:i<a.length:=by
   have:=QL A;omega
  obtain⟨r,k⟩:∃ r,a[i]?=some r:=⟨a[i],ai h⟩;obtain⟨w,I⟩:∃ w,vs[i]?=some w:=⟨vs[i]'om_,ai _⟩;have J:=aU k;have K:=Q i w r I k;obtain⟨Aw,cw,rfl,_⟩:=id K;have aa:a.drop i=r::a.drop (i+1):=RP h |>.trans (by rw[(aJ.1 k).2]);rw[aa]at e;simp only[uu]at e;refine Vd fun R b=>Vq t.m_ U10 om_ (zj I k) fl_ fun ak ab=>Vb ab U8<|Vt U5 fun b5=>Vk (j:=0) U12<|Vf [1,5,30,31,32] b U<|G.freeze 0 U fun _ _ L=>Va 1 U fun R b=>Vb (bkT L 1) U8<|Vc U6<|Vb (bkT d 1) U8<|Vl (uI _ p.m_ _ n r.1 K.m_ (H r J).1) U7<|C6 1 [1,5,6,30,31,32] b U<|U1 2 [1,5,6,30,31,32,42] U<|G.cd (fun B=>?_) fun B=>?_
  ·have l:gb n r.1≠0:=by simpa using B
   have o:Gj n r=gb n r.1:=by unfold Gj;rw[aM l]
   exact U1 2 [2] U<|Vg U2<|⟨by rw[z,e,o,aM l],U⟩
  have l:¬ gb n r.1≠0:=by simpa using B
  have o:Gj n r=oH (aR r.2):=by unfold Gj;rw[aF l]
  refine Va 1 U fun R b=>Vb (bkT L 1) U8<|Vl (qi _ p.m_ r.2 (H r J).2) U7<|Vf [1,30,31,32,46] b U<|G.cd (fun D=>?_) fun D=>?_
  ·have ac:aR r.2=false:=by simpa using D
   exact U1 1 [2] U<|Vg U2<|⟨by rw[z,e,o,ac];rfl,U⟩
  have ad:aR r.2=true:=by simpa using D
  refine Vd fun R b=>Vh _ U U6<|C6 1 [1,30,31,32] b U<|Vn (m':=a.length-(i+1)) om_ mup (hn_ [1,30,31,32] U) ⟨i+1,⟨by omega,by rw[e,o,ad];rfl⟩,U,U,U⟩
 have h:i=a.length:=by
  have:=Rt A;omega
 exact U1 1 [2] U<|Vg U2<|⟨by rw[z,e,h,SA];rfl,U⟩
theorem ld {b:Rat}{k:Nat}(c:QB k a)(d:QB m b):QB (k+m) (a*b):=by
 rw[eV];refine gr (Nat.mul_ne_zero a.den_nz b.den_nz) ?_ ?_
 ·rw[SK,TD];exact SQ c.1 d.1
 rw[TD];exact SQ c.2 d.2
theorem NV {b:Rat}{k:Nat}(c:QB k a)(d:QB m b):QB (k+m+1) (a+b):=by
 rw[eW];have e:B9 ^ (k+m+1)=B9 ^ k*B9 ^ m*B9:=by rw[SF,TD]
 have f:(a.num*b.den).natAbs<B9 ^ k*B9 ^ m:=by rw[SK,R7];exact SQ c.1 d.2
 have g:(b.num*a.den).natAbs<B9 ^ k*B9 ^ m:=by rw[SK,R7,R8];exact SQ c.2 d.1
 have h:a.den*b.den<B9 ^ k*B9 ^ m:=SQ c.2 d.2;have i:2*(B9 ^ k*B9 ^ m)<=B9 ^ k*B9 ^ m*B9:=by
  rw[R8];exact SN _ dc_
 refine gr (Nat.mul_ne_zero a.den_nz b.den_nz) ?_ ?_
 ·rw[e];have:=TT (a.num*b.den) (b.num*a.den);omega
 rw[e];omega
def eA (r:List Rat × Rat):List Str × Str:=(r.1.map qtx,qtx r.2)
structure RowsQ (n:Nat)(rs:List (List Rat × Rat)):Prop where
 l:∀ r∈rs,r.1.length=n
 q:∀ r∈rs,(∀ x∈r.1,QB 23 x)/\QB 23 r.2
 m:rs.length<=150
theorem HR {l:List Rat}(h:∀ x∈l,QB 23 x):QB 23 (l.getD j 0):=by
 rw[am];cases e:l[j]? with
|none=>exact⟨by decide,by decide⟩
|some x=>exact h x (aU e)
theorem uG (q:Rat):decide (eH q.num<0)=decide (q<0):=by
 have h:q.num<0 ↔ q<0:=by rw[Rat.lt_iff];simp
 rw[Sf];unfold eH;by_cases h1:q.num<0
 ·rw[aM h1];exact⟨fun _=>h.1 h1,fun _=>by decide⟩
 rw[aF h1];exact⟨fun h2=>by split at h2 <;> exact absurd h2 dc_,fun h2=>absurd (h.2 h2) h1⟩
open Classical in
theorem tN (b:Bool):oH b=0/\b=true∨oH b=2/\b=false:=by cases b <;> simp[oH]
theorem bK:∀ q:Rat,(aQ q).length=1:=fun _=>rfl
open Classical in
theorem GC (q:Rat):decide (eH q.num ≥ 0)=decide (0<=q):=by
 have h:=uG q;have h2:decide (0<=q)=!decide (q<0):=by
  rw[<- decide_not,Sf];grind
 rw[h2,<- h,<- decide_not,Sf];omega
theorem J6:qtx 0=[48]:=by decide +kernel
theorem Rf:aQ 0=[Value.string ⟨#[48]⟩]:=by
 show [ae (qtx 0)]=_;rw[J6];rfl
def zF (fs:List Rat)(s q:Nat):Rat:=if q=s then 0 else fs.getD q 0
def kW (fs bf:List Rat)(s:Nat)(k:Rat)(j:Nat):List Rat:=(List.range fs.length).map fun q=>zF fs s q+(if q<j then k*bf.getD q 0 else 0)
theorem ic :(kW fs bf s k j).length=fs.length:=by simp[kW]
theorem xq :fs.set s 0=kW fs bf s k 0:=by
 refine List.ext_getElem? fun q=>?_;unfold kW;rw[List.getElem?_set,Rr];by_cases a:q<fs.length
 ·rw[RY a];simp only[S5,Nat.not_lt_zero,SX];unfold zF;split
  ·next e=>rw[aM om_,aM e.symm];rw[Rat.add_zero]
  next e=>rw[aF (fun b=>e b.symm),am,ai a];simp only[SG];congr 1;grind
 rw[Rx om_,Rx ap];split
 ·split
  ·omega
  rfl
 rfl
theorem uC (h:q<fs.length):(kW fs bf s k j)[q]?=some (zF fs s q+(if q<j then k*bf.getD q 0 else 0)):=by
 unfold kW;rw[Rr,RY h];rfl
theorem Cl (h:j<fs.length):(kW fs bf s k j).set j (zF fs s j+k*bf.getD j 0)=kW fs bf s k (j+1):=by
 refine List.ext_getElem? fun q=>?_;rw[List.getElem?_set,ic];by_cases a:q<fs.length
 ·rw[uC a,uC a];by_cases e:j=q
  ·subst e;rw[aM rfl,aM a,aM om_]
  rw[aF e];by_cases h1:q<j
  ·rw[aM h1,aM om_]
  rw[aF h1,aF om_]
 rw[Rx (by rw[ic];omega),Rx (by rw[ic];omega)];split
 ·exact absurd om_ a
 rfl
theorem xt (a:bf.getD j 0=0):kW fs bf s k j=kW fs bf s k (j+1):=by
 refine List.map_congr_left fun q _=>?_;by_cases e:q=j
 ·subst e;rw[aF om_,aM om_,a];grind
 by_cases h1:q<j
 ·rw[aM h1,aM om_]
 rw[aF h1,aF om_]
theorem xr :kW fs bf s 0 j=kW fs bf s 0 0:=by
 refine List.map_congr_left fun q _=>?_;split <;> split <;> grind
theorem Gz {c bc:Rat}(_b:s<fs.length):Lp.putL ⟨c,fs⟩ s ⟨bc,bf⟩=⟨c+fs.getD s 0*bc,kW fs bf s (fs.getD s 0) fs.length⟩:=by
 unfold Lp.putL;congr 1;refine List.map_congr_left fun q a=>?_;rw[aM (RL.1 a)];rfl
theorem Pe (a:∀ x∈fs,QB 50 x)(b:q<fs.length):QB 50 (zF fs s q):=by
 unfold zF;split
 ·exact⟨by decide,by decide⟩
 rw[am,ai b];exact a _ (Sj _)
def bH (p:Rat × Value):List Value:=[ae (qtx p.1),p.2]
theorem gR:∀ p,(bH p).length=2:=fun _=>rfl
theorem oS {p:Rat × Value}(h:ls[i]?=some p):(ls.map bH).flatten.drop (i*2)=ae (qtx p.1)::p.2::(ls.map bH).flatten.drop (i*2+2):=by
 obtain⟨h1,h2⟩:=aJ.1 h;have e:=(cH gR ls i).2;have a:=(cH gR ls (i+1)).2;rw[S2]at a;rw[e,a,RP h1,h2];rfl
theorem JP {p:Rat × Value}(h:ls[i]?=some p):ls.set i p=ls:=by
 refine List.ext_getElem? fun j=>?_;rw[List.getElem?_set];split
 ·next e=>subst e;rw[aM (aJ.1 h).1,h]
 rfl
theorem Ex {p:Rat × Value}(h:ls[i]?=some p):((ls.map bH).flatten.drop (i*2)).take 1=[ae (qtx p.1)]:=by rw[oS h];rfl
theorem kc {p:Rat × Value}(h:ls[i]?=some p):((ls.map bH).flatten.drop (i*2+1)).take 1=[p.2]:=by rw[<- List.drop_drop,oS h];rfl
theorem zU {p:Rat × Value}(h:ls[i]?=some p)(c:Rat):aE (ls.map bH).flatten [ae (qtx c)] (i*2)=((ls.set i (c,p.2)).map bH).flatten:=by
 rw[<- bM gR (c,p.2) (aJ.1 h).1];unfold aE;have:(ls.map bH).flatten.drop (i*2+1)=p.2::(ls.map bH).flatten.drop (i*2+2):=by rw[<- List.drop_drop,oS h];rfl
 show _++[_]++List.drop (i*2+1) _=_++[_,_]++List.drop (i*2+2) _;rw[this];simp
theorem NJ (C:Mem)(t:Tabs C)(g e f n s:Nat)(i l o p z:Value)(b d:List Rat)(c h:Rat)(ah:b.length=n)(aj:d.length=n)(hs:s<n)(q:Sl C 1 z (d.map aQ))(Q:QB 50 c)(A:∀ x∈b,QB 50 x)(B:QB 50 h)(S:∀ x∈d,QB 50 x) :
  Jog.Fn cx.P 262 [.pointer (some ⟨g,4,none⟩),i_ s,.agg ⟨[ae (qtx h),z]⟩] C [.obj g (.cells ⟨[i,l,o,p,ae (qtx c),s_ e n f]⟩ 231 (0,0)),.arr (s_ e n f) 32 1 n (b.map aQ).flatten]
   fun u _ r=>u=.tuple #[]/\r=[.obj g (.cells ⟨[i,l,o,p,ae (qtx (c+b.getD s 0*h)),s_ e n f]⟩ 231 (0,0)),.arr (s_ e n f) 32 1 n ((kW b d s (b.getD s 0) n).map aQ).flatten]:=by
 obtain⟨T,V,rfl,W,ak,_⟩:=id q;simp only[au]at W q⊢;have D:s<b.length:=by omega
 have al:=mx_
 obtain⟨k,E⟩:∃ k,b.getD s 0=k:=⟨_,rfl⟩;have F:b[s]?=some k:=by rw[<- E,am,ai D];rfl
 have v:QB 50 k:=A k (aU F);rw[E];refine Vi func262 64 U3 fun w0=>?_;refine Vr (L':=[.obj g (.cells ⟨[i,l,o,p,ae (qtx c),s_ e n f]⟩ 231 (0,0)),.arr (s_ e n f) 32 1 n (b.map aQ).flatten]) U ?_;refine Vd fun R a=>?_;refine Vs U6 (fun b5=>?_);refine Vf [0,1,5] a U ?_;clear a R;refine G.freeze 0 U (fun _ _ H=>?_);refine Va 3 U fun R a=>?_;refine Vj ag U9 ?_;refine Vc U6 ?_;refine VD (s*1) U10 w_ U2 ?_;refine VT af U6 (fun _=>(by rw[eh bK F];rfl)) U2 ?_;refine C6 1 [0,1,5,6] a U ?_;clear a R;refine Va 3 U fun R a=>?_;refine Vj ag U9 ?_;refine Vc U6 ?_;refine VD (s*1) U10 w_ U2 ?_;refine VG (j:=1) U11 (by show s*1+1<=_;rw[bV bK];omega) ?_;refine Vf [0,5,6] a U ?_;clear a R;refine G.perm (L':=[.obj g (.cells ⟨[i,l,o,p,ae (qtx c),s_ e n f]⟩ 231 (0,0)),.arr (s_ e n f) 32 1 n ((kW b d s k 0).map aQ).flatten]) (by rw[<- xq,<- bM bK 0 D,Rf];exact List.Perm.swap _ _ _) ?_;refine U1 2 [0,5,6,23] U ?_;refine G.cd (fun I=>?_) fun I=>?_
 ·have X:qtx k=[48]:=by simpa using I
  have Y:k=0:=jg (X.trans (by decide +kernel:([48]:List UInt8)=qtx 0));subst Y;have Z:c+0*h=c:=by grind
  refine Vr (L':=[.obj g (.cells ⟨[i,l,o,p,ae (qtx (c+0*h)),s_ e n f]⟩ 231 (0,0)),.arr (s_ e n f) 32 1 n ((kW b d s 0 n).map aQ).flatten]) (by rw[Z,xr (j:=n)]) ?_;refine Vo (Xc U  ?_);exact⟨U,U⟩
 refine Vv [0,1,2,3,4,5,6,7,8,9,10,11,12] [(8,1),(9,1)] U kr_ (fun R q a=>?_);refine Ve 4 U ?_;refine Vj ag U9 ?_;refine Ve 2 U ?_;refine Vb (bkT H 1) U8 ?_;refine Vx (fun _=>(df _ t.m_ k h 50 dc_ dc_ v B)) U9 ?_;refine Vx (fun _=>(kV _ t.m_ c (k*h) 100 dc_ dc_ (Q.le dc_) ((ld v B).le dc_))) U9 ?_;refine Ve 2 U ?_;refine Vk (j:=0) U12 ?_;refine Vf [0,5,6] a U ?_;clear a q R;refine Va 1 U fun R a=>?_;refine Vb (bkT H 1) U8 ?_;refine C6 2 [0,6,37,38,39] a U ?_;clear a R;refine G.loop (fun fr C' r μ=>∃ (j:Nat),(j<=n)/\fr=[(0,[],.pointer (some ⟨g,4,none⟩)),(6,[],ae (qtx k)),(37,[],.slice T d.length V),(38,[],i_ d.length),(39,[],i_ j)]/\r=[.obj g (.cells ⟨[i,l,o,p,ae (qtx (c+k*h)),s_ e n f]⟩ 231 (0,0)),.arr (s_ e n f) 32 1 n ((kW b d s k j).map aQ).flatten]/\μ=n-j) (hn_ [0,6,37,38,39] U) ⟨0,Rv _,U,U,U⟩ (fun fr an ao m J hI=>?_);obtain⟨j,hj,rfl,rfl,rfl⟩:=hI;refine U1 1 [0,6,37,38,39,40] U ?_;refine G.cd (fun w=>?_) fun w=>?_
 ·have K:j<n:=by
   have:=QL w;omega
  obtain⟨x,y⟩:∃ x,d[j]?=some x:=⟨d[j]'om_,ai om_⟩;have L:QB 50 x:=S x (aU y);have M:d.getD j 0=x:=by rw[am,y];rfl
  have aa:(kW b d s k j)[j]?=some (zF b s j):=by
   rw[uC om_,aF (Nat.lt_irrefl _)];congr 1;grind
  have qz:=Pe (s:=s) A (show j<b.length by omega);have N:=Cl (bf:=d) (s:=s) (k:=k) (show j<b.length by omega);rw[M]at N;refine Va 1 U fun R a=>?_;refine Vq q.m_ U10 om_ (eX y) fl_ (fun ap ab=>?_);refine Vb ab U8 ?_;refine C6 2 [0,6,7,8,37,38,39] a U ?_;clear a R;refine U1 2 [0,6,7,8,37,38,39,45] U ?_;refine G.cd (fun O=>?_) fun O=>?_
  ·refine Vv [0,1,2,3,4,5,6,7,8,9,10,11,12,13,14,15,16,17] [(14,1),(15,1)] U kr_ (fun R q a=>?_);refine Ve 3 U ?_;refine Vj ag U9 ?_;refine Ve 4 U ?_;refine Vj ag U9 ?_;refine Vc U6 ?_;refine VD (j*1) U10 w_ U2 ?_;refine VT af U6 (fun _=>(by rw[eh bK aa];rfl)) U2 ?_;refine Ve 2 U ?_;refine Vx (fun _=>(df _ t.m_ k x 50 dc_ dc_ v L)) U9 ?_;refine Vx (fun _=>(kV _ t.m_ (zF b s j) (k*x) 100 dc_ dc_ (qz.le dc_) ((ld v L).le dc_))) U9 ?_;refine VD (j*1) U10 w_ U2 ?_;refine VG (j:=1) U11 (by show j*1+1<=_;rw[bV bK,ic];omega) ?_;refine Vf [0,6,37,38,39] a U ?_;clear a q R;refine Vd fun R a=>?_;refine Vh _ U U6 ?_;refine C6 1 [0,6,37,38,39] a U ?_;clear a R;refine G.perm (L':=[.obj g (.cells ⟨[i,l,o,p,ae (qtx (c+k*h)),s_ e n f]⟩ 231 (0,0)),.arr (s_ e n f) 32 1 n ((kW b d s k (j+1)).map aQ).flatten]) (by rw[<- N,<- bM bK _ (by rw[ic];omega)];exact List.Perm.swap _ _ _) ?_;refine Vn (m':=n-(j+1)) om_ J (hn_ [0,6,37,38,39] U) ⟨j+1,om_,U,U,U⟩
  have ac:x=0:=by
   have ad:qtx x=[48]:=by simpa using O
   exact jg (ad.trans (by decide +kernel:([48]:List UInt8)=qtx 0))
  rw[xt (j:=j) (by rw[M];exact ac)];refine Vd fun R a=>?_;refine Vh _ U U6 ?_;refine C6 1 [0,6,37,38,39] a U ?_;clear a R;refine Vn (m':=n-(j+1)) om_ J (hn_ [0,6,37,38,39] U) ⟨j+1,om_,U,U,U⟩
 have K:j=n:=by
  have:=Rt w;omega
 rw[K];refine Wf U ?_;exact⟨U,U⟩
theorem NK (C:Mem)(t:Tabs C)(l m o i e f n s:Nat)(z:Value)(h:List (Rat × Value))(b d:List Rat)(c g:Rat)(aj:h.length=m)(q:h[i]?=some (c,s_ e n f))(ak:b.length=n)(al:d.length=n)(hs:s<n)(r:Sl C 1 z (d.map aQ))(S:QB 50 c)(A:∀ x∈b,QB 50 x)(B:QB 50 g)(T:∀ x∈d,QB 50 x) :
  Jog.Fn cx.P 262 [.pointer (some ⟨l,i*2,none⟩),i_ s,.agg ⟨[ae (qtx g),z]⟩] C [.arr (s_ l m o) 228 2 m (h.map bH).flatten,.arr (s_ e n f) 32 1 n (b.map aQ).flatten]
   fun u _ p=>u=.tuple #[]/\p=[.arr (s_ l m o) 228 2 m ((h.set i (c+b.getD s 0*g,s_ e n f)).map bH).flatten,.arr (s_ e n f) 32 1 n ((kW b d s (b.getD s 0) n).map aQ).flatten]:=by
 obtain⟨V,W,rfl,X,an,_⟩:=id r;simp only[au]at X r⊢;have D:s<b.length:=by omega
 have ao:=mx_
 obtain⟨k,E⟩:∃ k,b.getD s 0=k:=⟨_,rfl⟩;have F:b[s]?=some k:=by rw[<- E,am,ai D];rfl
 have v:QB 50 k:=A k (aU F);rw[E];refine Vi func262 64 U3 fun w0=>?_;refine Vr (L':=[.arr (s_ l m o) 228 2 m (h.map bH).flatten,.arr (s_ e n f) 32 1 n (b.map aQ).flatten]) U ?_;refine Vd fun R a=>?_;refine Vs U6 (fun b5=>?_);refine Vf [0,1,5] a U ?_;clear a R;refine G.freeze 0 U (fun _ _ H=>?_);refine Va 3 U fun R a=>?_;refine VT ag U6 (fun _=>(by rw[kc q];rfl)) U2 ?_;refine Vc U6 ?_;refine VD (s*1) U10 w_ U2 ?_;refine VT af U6 (fun _=>(by rw[eh bK F];rfl)) U2 ?_;refine C6 1 [0,1,5,6] a U ?_;clear a R;refine Va 3 U fun R a=>?_;refine VT ag U6 (fun _=>(by rw[kc q];rfl)) U2 ?_;refine Vc U6 ?_;refine VD (s*1) U10 w_ U2 ?_;refine VG (j:=1) U11 (by show s*1+1<=_;rw[bV bK];omega) ?_;refine Vf [0,5,6] a U ?_;clear a R;refine G.perm (L':=[.arr (s_ l m o) 228 2 m (h.map bH).flatten,.arr (s_ e n f) 32 1 n ((kW b d s k 0).map aQ).flatten]) (by rw[<- xq,<- bM bK 0 D,Rf];exact List.Perm.swap _ _ _) ?_;refine U1 2 [0,5,6,23] U ?_;refine G.cd (fun I=>?_) fun I=>?_
 ·have Y:qtx k=[48]:=by simpa using I
  have Z:k=0:=jg (Y.trans (by decide +kernel:([48]:List UInt8)=qtx 0));subst Z;have aa:c+0*g=c:=by grind
  refine Vr (L':=[.arr (s_ l m o) 228 2 m ((h.set i (c+0*g,s_ e n f)).map bH).flatten,.arr (s_ e n f) 32 1 n ((kW b d s 0 n).map aQ).flatten]) (by rw[aa,xr (j:=n),JP q]) ?_;refine Vo (Xc U  ?_);exact⟨U,U⟩
 refine Vv [0,1,2,3,4,5,6,7,8,9,10,11,12] [(8,1),(9,1)] U kr_ (fun R r a=>?_);refine Ve 4 U ?_;refine VT ag U6 (fun _=>(by rw[Ex q];rfl)) U2 ?_;refine Ve 2 U ?_;refine Vb (bkT H 1) U8 ?_;refine Vx (fun _=>(df _ t.m_ k g 50 dc_ dc_ v B)) U9 ?_;refine Vx (fun _=>(kV _ t.m_ c (k*g) 100 dc_ dc_ (S.le dc_) ((ld v B).le dc_))) U9 ?_;refine Ve 2 U ?_;refine VG (j:=0) U11 (by show i*2+1<=_;rw[bV gR];have:=(aJ.1 q).1;omega) ?_;refine Vf [0,5,6] a U ?_;clear a r R;refine Vr (L':=[.arr (s_ l m o) 228 2 m ((h.set i (c+k*g,s_ e n f)).map bH).flatten,.arr (s_ e n f) 32 1 n ((kW b d s k 0).map aQ).flatten]) (by rw[<- zU q];rfl) ?_;have J:(h.set i (c+k*g,s_ e n f))[i]?=some (c+k*g,s_ e n f):=Ug (aJ.1 q).1;refine Va 1 U fun R a=>?_;refine Vb (bkT H 1) U8 ?_;refine C6 2 [0,6,37,38,39] a U ?_;clear a R;refine G.loop (fun fr C' p μ=>∃ (j:Nat),(j<=n)/\fr=[(0,[],.pointer (some ⟨l,i*2,none⟩)),(6,[],ae (qtx k)),(37,[],.slice V d.length W),(38,[],i_ d.length),(39,[],i_ j)]/\p=[.arr (s_ l m o) 228 2 m ((h.set i (c+k*g,s_ e n f)).map bH).flatten,.arr (s_ e n f) 32 1 n ((kW b d s k j).map aQ).flatten]/\μ=n-j) (hn_ [0,6,37,38,39] U) ⟨0,Rv _,U,U,U⟩ (fun fr ap aq m K hI=>?_);obtain⟨j,hj,rfl,rfl,rfl⟩:=hI;refine U1 1 [0,6,37,38,39,40] U ?_;refine G.cd (fun w=>?_) fun w=>?_
 ·have L:j<n:=by
   have:=QL w;omega
  obtain⟨x,y⟩:∃ x,d[j]?=some x:=⟨d[j]'om_,ai om_⟩;have M:QB 50 x:=T x (aU y);have N:d.getD j 0=x:=by rw[am,y];rfl
  have ab:(kW b d s k j)[j]?=some (zF b s j):=by
   rw[uC om_,aF (Nat.lt_irrefl _)];congr 1;grind
  have qz:=Pe (s:=s) A (show j<b.length by omega);have O:=Cl (bf:=d) (s:=s) (k:=k) (show j<b.length by omega);rw[N]at O;refine Va 1 U fun R a=>?_;refine Vq r.m_ U10 om_ (eX y) fl_ (fun ar ac=>?_);refine Vb ac U8 ?_;refine C6 2 [0,6,7,8,37,38,39] a U ?_;clear a R;refine U1 2 [0,6,7,8,37,38,39,45] U ?_;refine G.cd (fun Q=>?_) fun Q=>?_
  ·refine Vv [0,1,2,3,4,5,6,7,8,9,10,11,12,13,14,15,16,17] [(14,1),(15,1)] U kr_ (fun R r a=>?_);refine Ve 3 U ?_;refine VT ag U6 (fun _=>(by rw[kc J];rfl)) U2 ?_;refine Ve 4 U ?_;refine VT ag U6 (fun _=>(by rw[kc J];rfl)) U2 ?_;refine Vc U6 ?_;refine VD (j*1) U10 w_ U2 ?_;refine VT af U6 (fun _=>(by rw[eh bK ab];rfl)) U2 ?_;refine Ve 2 U ?_;refine Vx (fun _=>(df _ t.m_ k x 50 dc_ dc_ v M)) U9 ?_;refine Vx (fun _=>(kV _ t.m_ (zF b s j) (k*x) 100 dc_ dc_ (qz.le dc_) ((ld v M).le dc_))) U9 ?_;refine VD (j*1) U10 w_ U2 ?_;refine VG (j:=1) U11 (by show j*1+1<=_;rw[bV bK,ic];omega) ?_;refine Vf [0,6,37,38,39] a U ?_;clear a r R;refine Vd fun R a=>?_;refine Vh _ U U6 ?_;refine C6 1 [0,6,37,38,39] a U ?_;clear a R;refine G.perm (L':=[.arr (s_ l m o) 228 2 m ((h.set i (c+k*g,s_ e n f)).map bH).flatten,.arr (s_ e n f) 32 1 n ((kW b d s k (j+1)).map aQ).flatten]) (by rw[<- O,<- bM bK _ (by rw[ic];omega)];exact List.Perm.swap _ _ _) ?_;refine Vn (m':=n-(j+1)) om_ K (hn_ [0,6,37,38,39] U) ⟨j+1,om_,U,U,U⟩
  have ad:x=0:=by
   have ah:qtx x=[48]:=by simpa using Q
   exact jg (ah.trans (by decide +kernel:([48]:List UInt8)=qtx 0))
  rw[xt (j:=j) (by rw[N];exact ad)];refine Vd fun R a=>?_;refine Vh _ U U6 ?_;refine C6 1 [0,6,37,38,39] a U ?_;clear a R;refine Vn (m':=n-(j+1)) om_ K (hn_ [0,6,37,38,39] U) ⟨j+1,om_,U,U,U⟩
 have L:j=n:=by
  have:=Rt w;omega
 rw[L];refine Wf U ?_;exact⟨U,U⟩
def lB (a b:List Rat)(n:Nat):Rat:=Lp.sumN (fun k=>a.getD k 0*b.getD k 0) n
theorem AF {a b:List Rat}(c:∀ x∈a,QB 23 x)(d:∀ x∈b,QB 23 x):∀ i,QB (48*(i+1)) (lB a b i)
|0=>(show QB 20 (0:Rat) from⟨by decide,by decide⟩).le om_
|i+1=>(NV (AF c d i) (ld (HR (j:=i) c) (HR (j:=i) d))).le om_
theorem yy {a b:List Rat}{x y:Rat}(c:a[i]?=some x)(d:b[i]?=some y):lB a b (i+1)=lB a b i+x*y:=by
 unfold lB;simp only[Lp.sumN];rw[am,c,am,d];rfl
theorem Qo (C:Mem)(l:Tabs C)(n o:Value)(a b:List Rat)(d:Sl C 1 n (a.map aQ))(e:Sl C 1 o (b.map aQ))(O:b.length=a.length)(Q:a.length<=150)(p:∀ x∈a,QB 23 x)(q:∀ x∈b,QB 23 x) :
  Gives cx.P 219 [n,o] C (ae (qtx (lB a b a.length))):=by
 obtain⟨w,z,rfl,A,S,_⟩:=id d;obtain⟨A2,c2,rfl,B,T,_⟩:=id e;have V:=mx_
 simp only[au]at d e A B⊢;refine Vi func219 37 U3 fun w0=>U1 1 [0,1] U<|U1 1 [0,1,5] U<|U1 3 [0,1,5,8,9] U ?_;have E:Value.string ⟨#[48]⟩=ae (qtx (lB a b 0)):=by
  show _=ae (qtx 0);rw[J6];rfl
 rw[E];refine G.loop (fun fr W F H=>∃ (i:Nat),(i<=a.length)/\fr=[(0,[],.slice w a.length z),(1,[],.slice A2 b.length c2),(5,[],ae (qtx (lB a b i))),(8,[],i_ a.length),(9,[],i_ i)]/\F=[]/\H=a.length-i) (hn_ [0,1,5,8,9] U) ⟨0,Rv _,U,U,U⟩ (fun fr X Y m r I=>?_);obtain⟨i,Z,rfl,rfl,rfl⟩:=I;refine U1 1 [0,1,5,8,9,10] U<|G.cd (fun g=>?_) fun g=>?_
 ·have s:i<a.length:=by
   have:=QL g;omega
  obtain⟨x,f⟩:∃ x,a[i]?=some x:=⟨a[i]'om_,ai om_⟩;obtain⟨y,hy⟩:∃ y,b[i]?=some y:=⟨b[i]'om_,ai om_⟩;have t:QB 23 x:=p x (aU f);have u:QB 23 y:=q y (aU hy);have J:=AF p q i;have v:=yy f hy;refine U1 2 [0,1,5,6,8,9] U<|Va 2 U fun R c=>Vq d.m_ U10 om_ (eX f) fl_ fun aa K=>Vb K U8<|Ve 4 U<|D.index U10 (fun hg=>⟨e.mono mup,by omega,eX hy⟩) fl_ U fun ab L=>VE U6 L U3<|Vc U6<|Vz U8<|Vf [0,1,5,6,8,9,23] c U<|G.cd (fun j=>?_) fun j=>?_
  ·refine Vv [0,1,2,3,4,5,6,7,8,9,10,11] [(9,1),(10,1)] U kr_ fun R hB c=>Ve 3 U<|Vq d.m_ U10 om_ (eX f) fl_ fun ac M=>Vb M U8<|Ve 2 U<|Vq e.m_ U10 om_ (eX hy) fl_ fun ad N=>Vb N U8<|Vx (fun _=>(df _ l.m_ x y 23 dc_ dc_ t u)) U9<|Vx (fun _=>(kV _ l.m_ (lB a b i) (x*y) (48*(i+1)) om_ om_ J ((ld t u).le om_))) U9<|C6 1 [0,1,5,8,9] c U<|Vd fun R c=>Vh _ U U6<|C6 1 [0,1,5,8,9] c U ?_;rw[<- v];refine Vn (m':=a.length-(i+1)) om_ r (hn_ [0,1,5,8,9] U) ⟨i+1,om_,U,U,U⟩
  have h0:x*y=0:=by
   simp only[Bool.and_eq_false_iff]at j;rcases j with h|h
   ·have k:qtx x=qtx (lB a b 0):=by simpa using h
    rw[jg k,show lB a b 0=0 from rfl];grind
   have k:qtx y=qtx (lB a b 0):=by simpa using h
   rw[jg k,show lB a b 0=0 from rfl];grind
  have h1:lB a b i=lB a b (i+1):=by rw[v,h0];grind
  rw[h1];refine Vd fun R c=>Vh _ U U6<|C6 1 [0,1,5,8,9] c U<|Vn (m':=a.length-(i+1)) om_ r (hn_ [0,1,5,8,9] U) ⟨i+1,om_,U,U,U⟩
 have s:i=a.length:=by
  have:=Rt g;omega
 exact U1 2 [4] U<|Vg U2<|⟨by rw[s],U⟩
theorem kb {n:Int}{l:List Str}:gb n l=0 ↔ (l.length:Int)=n/\l.all aR=true:=by
 unfold gb;by_cases h:(l.length:Int)=n
 ·rw[aM h];rcases tN (l.all aR) with⟨h1,h2⟩|⟨h1,h2⟩
  ·rw[h1];exact⟨fun _=>⟨h,h2⟩,fun _=>rfl⟩
  rw[h1,h2];exact⟨fun h=>(by cases h),fun h=>(by cases h.2)⟩
 rw[aF h];exact⟨fun h=>(by cases h),fun h2=>absurd h2.1 h⟩
theorem Gi {n:Int}:Gj n r=0 ↔ gb n r.1=0/\aR r.2=true:=by
 unfold Gj;by_cases h:gb n r.1=0
 ·rw[aF (fun a=>a h)];rcases tN (aR r.2) with⟨h1,h2⟩|⟨h1,h2⟩
  ·rw[h1];exact⟨fun _=>⟨h,h2⟩,fun _=>rfl⟩
  rw[h1,h2];exact⟨fun h=>(by cases h),fun h=>(by cases h.2)⟩
 rw[aM h];exact⟨fun h2=>absurd h2 h,fun h2=>absurd h2.1 h⟩
def zh (rs:List (List Rat × Rat))(ps:List Rat)(n:Nat):Nat->List Int
|0=>[]
|i+1=>if (rs.getD i ([],0)).2<lB (rs.getD i ([],0)).1 ps n then zh rs ps n i++[(i:Int)] else zh rs ps n i
theorem BB (a:List (List Rat × Rat))(b:List Rat)(n:Nat):∀ i,(zh a b n i).length<=i
|0=>Ro _
|i+1=>by
  have:=BB a b n i;unfold zh;split
  ·rw[Ru,Rp];omega
  omega
theorem zm (C:Mem)(k:Tabs C)(n:Nat)(N O Q:Value)(a:List (List Rat × Rat))(e:List Str)(o b:List Rat)(S:RowsT C N (a.map eA))(T:Sl C 1 O ((o.map qtx).map oF))(ah:OX (a.map eA))(f:RowsQ n a)(hz:Fo n (a.map eA) (o.map qtx)=0)
  (hn:n<=60) (qc:∀ x∈o,QB 23 x) (V:Sl C 1 Q (e.map oF)) (aj:∀ s∈e,s.length<=999998) (ak:e.all aR=true->e=b.map qtx/\∀ x∈b,QB 23 x) :
  Pur cx.P 154 [.agg ⟨[i_ n,N,O]⟩,Q] C fun u _D=>∃ A m c,u=.tuple #[.slice A m c,i_ (gb n e)]/\(gb n e=0->m=(zh a b n a.length).length):=by
 have W:=S;have X:=T;have v:=V;obtain⟨vs,Y,al,y⟩:=S;obtain⟨A0,c0,rfl,an,ay,_⟩:=id y;obtain⟨A1,c1,rfl,az,aA,_⟩:=id T;obtain⟨A2,c2,rfl,aB,aC,_⟩:=id V;have aD:=mx_
 have aE:=f.m;simp only[oI Y,au]at y an W X v Y⊢;refine Vi func154 45 U3 fun w0=>Vd fun R d=>Vs U6 fun b2=>C6 2 [1,2] d U<|G.freeze 0 U fun _ _ z=>Vd fun R d=>Vb (bkT z 3) U8<|Vm (qw _ k.m_ (n:Nat) _ _ (a.map eA) (o.map qtx) W.m_ X.m_ ah (fun s hs=>by
  obtain⟨q,f,rfl⟩:=Rs.1 hs;exact RD (bd (qc q f) dc_) dc_)) U7 fl_ ?_
 refine C6 1 [1,2,6] d U<|U1 2 [1,2,6,14] U<|G.cd (fun Z=>?_) fun Z=>?_
 ·simp[hz]at Z
 refine Va 2 U fun R d=>Vb (bkT z 1) U8<|Vl (uI _ k.m_ _ (n:Nat) e v.m_ aj) U7<|C6 1 [1,2,7] d U<|U1 2 [1,2,7,21] U<|G.cd (fun B=>?_) fun B=>?_
 ·have p:gb (n:Nat) e≠0:=by simpa using B
  refine U1 3 [4,5] U<|Vo (G.dropAll (VA U3 ?_));exact⟨U,none,0,0,U,fun h=>absurd h p⟩
 have p:gb (n:Nat) e=0:=by simpa using B
 obtain⟨ao,ap⟩:=kb.1 p;obtain⟨aa,qp⟩:=ak ap;have aG:b.length=n:=by
  rw[aa,au]at ao;omega
 refine U1 1 [1,2,8] U<|Va 1 U fun R d=>Vb (bkT z 1) U8<|C6 2 [1,8,24,25,26] d U<|G.nilArr 3 1<|G.loop (fun fr C' L' μ=>∃ (i:Nat)(E:Value),(i<=a.length)/\fr=[(1,[],.slice A2 e.length c2),(8,[],E),(24,[],.slice A0 a.length c0),(25,[],i_ a.length),(26,[],i_ i)]/\L'=[.arr E 3 1 (zh a b n i).length ((zh a b n i).map nP).flatten]/\μ=a.length-i) (hn_ [1,8,24,25,26] U) ⟨0,.slice none 0 0,Rv _,U,U,U⟩ (fun fr aH aI m _ hI=>?_);obtain⟨i,E,hi,rfl,rfl,rfl⟩:=hI;refine U1 1 [1,8,24,25,26,27] U<|G.cd (fun F=>?_) fun F=>?_
 ·have H:i<a.length:=by
   have:=QL F;omega
  obtain⟨r,I⟩:∃ r,a[i]?=some r:=⟨a[i],ai H⟩;have ab:(a.map eA)[i]?=some (eA r):=by rw[Rr,I];rfl
  obtain⟨w,t⟩:∃ w,vs[i]?=some w:=⟨vs[i]'om_,ai _⟩;have ac:=aU I;have ad:=al i w (eA r) t ab;obtain⟨aJ,aK,rfl,_,_,_⟩:=id ad;have J:=f.l r ac;have K:=f.q r ac;have ae:a.getD i ([],0)=r:=by rw[am,I];rfl
  have aq:=AF K.1 qp n;have aL:=BB a b n i;refine Va 1 U fun R d=>Vq y.m_ U10 om_ (zj t ab) fl_ fun aN ar=>Vb ar U8<|Vt U5 fun aO=>Vc U6<|Vk (j:=0) U12<|Vf [1,8,9,10,24,25,26] d U<|G.freeze 0 U fun _ _ af=>Vv [0,1,2,3,4,5,6,7] [(3,1),(6,1)] U kr_ fun R hB d=>Vc U6<|Vb (bkT af 1) U8<|Vc U6<|Vx (fun _=>(Qo _ k.m_ _ _ r.1 b (by rw[mK];exact ad.mono mup) (by rw[mK,<- aa];exact v.mono mup) om_ om_ K.1 qp)) U9<|Vc U6<|Vb (bkT af 1) U8<|Vx (fun _=>(fO _ k.m_ (lB r.1 b r.1.length) r.2 (48*(n+1)) om_ om_ (by rw[J];exact aq) (K.2.le om_))) U9<|C6 1 [1,8,9,24,25,26,38] d U<|G.cd (fun g=>?_) fun g=>?_
  ·have L:r.2<lB r.1 b n:=by
    rw[J]at g;have h:=QL g;unfold nU at h;split at h
    ·omega
    split at h
    ·next h2=>exact h2
    omega
   have M:zh a b n (i+1)=zh a b n i++[(i:Int)]:=by
    show(if _ then _ else _)=_;rw[ae,aM L]
   refine Va 2 U fun R d=>Vy [nP i] U12 fun aP _ _ av=>D.append (j:=0) U11 av U ax (by simp only[Rp];omega) fl_ fun aw=>C6 1 [1,8,24,25,26] d U<|Vd fun R d=>Vh _ U U6<|C6 1 [1,8,24,25,26] d U<|Vr (L':=[.arr aw 3 1 (zh a b n (i+1)).length ((zh a b n (i+1)).map nP).flatten]) (by rw[M];simp)<|Vn (m':=a.length-(i+1)) om_ mup (hn_ [1,8,24,25,26] U) ⟨i+1,_,om_,U,U,U⟩
  have L:¬ r.2<lB r.1 b n:=by
   rw[J]at g;have h:=Rt g;intro h2;have h3:nU (lB r.1 b n) r.2=1:=by
    unfold nU;rw[aF (by grind),aM h2]
   rw[h3]at h;exact h dc_
  have M:zh a b n (i+1)=zh a b n i:=by
   show(if _ then _ else _)=_;rw[ae,aF L]
  rw[<- M];refine Vd fun R d=>Vh _ U U6<|C6 1 [1,8,24,25,26] d U<|Vn (m':=a.length-(i+1)) om_ mup (hn_ [1,8,24,25,26] U) ⟨i+1,_,om_,U,U,U⟩
 have H:i=a.length:=by
  have:=Rt F;omega
 refine U1 3 [4,5] U<|Xa ag fun Aw cw t _ _ _=>Vo (G.dropAll (VA U3 ?_));exact⟨U,Aw,_,cw,by rw[t,p],fun _=>by rw[H]⟩
theorem uP {l:List Nat}{x:Nat}(h:l[i]?=some x):(l.map aW)[i]?=some (aW x):=by rw[Rr,h];rfl
theorem yc {l:List Nat}{q:Nat->Prop}(h:Lp.LeastR l q n o):o=-1∨∃ i:Nat,o=i/\i<n:=by
 cases h with
|none _=>exact .inl rfl
|some i a _ _=>exact .inr ⟨i,rfl,a⟩
theorem oT (C:Mem)(v:Value)(l:List Nat)(g:Nat)(f:List Value)(q:Nat->Bool)(d:Sl C 1 v (l.map aW))(_O:Jog.Enters cx.P g=true)
  (E:∀ i,i<l.length->∀ D:Mem,C.le D->Gives cx.P g (i_ i::f) D (.bool (q i))) :
  Pur cx.P 206 [v,.func (.func g) #[] ⟨f⟩] C fun u _=>∃ o:Int,u=i_ o/\Lp.LeastR l (fun i=>q i=true) l.length o:=by
 obtain⟨s,c0,rfl,F,Q,_⟩:=id d;have S:=mx_
 simp only[au]at d F⊢;refine Vi func206 33 U3 fun w0=>U1 1 [0,1] U<|U1 1 [0,1,5] U<|U1 3 [0,1,5,8,9,10] U<|G.loop (fun fr T H I=>∃ (i:Nat)(o:Int),(i<=l.length/\Lp.LeastR l (fun i=>q i=true) i o)/\fr=[(0,[],.slice s l.length c0),(1,[],.func (.func g) #[] ⟨f⟩),(5,[],i_ o),(8,[],.slice s l.length c0),(9,[],i_ l.length),(10,[],i_ i)]/\H=[]/\I=l.length-i) (hn_ [0,1,5,8,9,10] U) ⟨0, -1,⟨Rv _,.none fun j J=>absurd J (Nat.not_lt_zero _)⟩,U,U,U⟩ (fun fr V W m t K=>?_);obtain⟨i,o,⟨X,a⟩,rfl,rfl,rfl⟩:=K;refine U1 1 [0,1,5,8,9,10,11] U<|G.cd (fun k=>?_) fun k=>?_
 ·have e:i<l.length:=by
   have:=QL k;omega
  obtain⟨x,w⟩:∃ x,l[i]?=some x:=⟨l[i],ai e⟩;have y:l.getD i 0=x:=by rw[am,w];rfl
  have n:=yc a;have L:¬ o<0->(l.map aW)[o.toNat]?=some (aW (l.getD o.toNat 0)):=fun h=>by
   rcases n with h1|⟨z,h1,h2⟩
   ·omega
   rw[h1,Tk];exact uP (by rw[am,ai om_];rfl)
  refine Va 1 U fun R b=>Vq d.m_ U10 om_ (uP w) fl_ fun Y M=>Vb M U8<|C6 2 [0,1,5,6,7,8,9,10] b U<|Va 2 U fun R b=>Vl (E i e _ mup) U7<|Ve 7 U<|D.index U10 (fun A=>⟨d.mono mup,(by have h:decide (o<0)=false:=A.1;have:=Rt h;omega),L (by have h:decide (o<0)=false:=A.1;exact Rt h)⟩) fl_ U fun Z N=>VE U6 N U3<|Vc U6<|VH U8<|Vz U8<|Vf [0,1,5,6,8,9,10,29] b U<|G.cd (fun p=>?_) fun p=>?_
  ·have c:q i=true/\(o<0∨x<l.getD o.toNat 0):=by
    simpa using p
   have r:Lp.LeastR l (fun i=>q i=true) (i+1) i:=by
    rcases n with h1|⟨z,h1,h2⟩
    ·rw[h1]at a;exact a.first c.1
    rw[h1]at a c;refine a.less c.1 ?_;rw[y];rcases c.2 with h3|h3
    ·omega
    exact h3
   refine U1 2 [0,1,5,8,9,10] U<|Vd fun R b=>Vh _ U U6<|C6 1 [0,1,5,8,9,10] b U<|Vn (m':=l.length-(i+1)) om_ t (hn_ [0,1,5,8,9,10] U) ⟨i+1,_,⟨by omega,r⟩,U,U,U⟩
  have c:q i=true->¬ (o<0∨x<l.getD o.toNat 0):=by
   simpa using p
  have r:Lp.LeastR l (fun i=>q i=true) (i+1) o:=by
   by_cases B:q i=true
   ·have h3:=c B;rcases n with h1|⟨z,h1,h2⟩
    ·exact absurd (.inl om_) h3
    rw[h1]at a h3⊢;refine a.keep ?_;rw[y];exact fun h=>h3 (.inr h)
   exact a.no B
  refine Vd fun R b=>Vh _ U U6<|C6 1 [0,1,5,8,9,10] b U<|Vn (m':=l.length-(i+1)) om_ t (hn_ [0,1,5,8,9,10] U) ⟨i+1,_,⟨by omega,r⟩,U,U,U⟩
 have e:i=l.length:=by
  have:=Rt k;omega
 exact U1 2 [4] U<|Vg U2<|⟨U,o,U,by rw[<- e];exact a⟩
structure TabV (D:Mem)(b n:Nat)(t:Lp.Tab)(wB wL wO wW:Value)(wF:List Value):Prop where
 o:D b=some (.cells ⟨[.int .i64 n,wB,wL,wO,ae (qtx t.worth.c),wW]⟩ 231 (0,0))
 B:Sl D 1 wB (t.basic.map aW)
 O:Sl D 1 wO (t.others.map aW)
 W:Sl D 1 wW (t.worth.f.map aQ)
 L:Sl D 2 wL (List.zipWith (fun(l:Lp.Line) w=>[ae (qtx l.c),w]) t.lines wF)
 fl:wF.length=t.lines.length
 F:∀ (i:Nat)(l:Lp.Line)(w:Value),t.lines[i]?=some l->wF[i]?=some w->Sl D 1 w (l.f.map aQ)
theorem TabV.mono {D E:Mem}{b n:Nat}{t:Lp.Tab}{c d e f:Value}{g:List Value}(h:TabV D b n t c d e f g)(a:D.le E):TabV E b n t c d e f g :=
 ⟨a _ _ h.o,h.B.mono a,h.O.mono a,h.W.mono a,h.L.mono a,h.fl,fun i l w h1 h2=>(h.F i l w h1 h2).mono a⟩
theorem TabV.m_ {D E:Mem}{a:List Value}(h:TabV D b n t wB wL wO wW a)(c:D.le E:=by exact mup):TabV E b n t wB wL wO wW a:=TabV.mono h c
theorem fA (C:Mem)(b n v:Nat)(t:Lp.Tab)(a c d e:Value)(f:List Value)(h:TabV C b n t a c d e f) :
  Gives cx.P 203 [p_ b,i_ v] C (.bool (decide (n<=v))):=by
 refine Vi func203 11 U3 fun w0=>U1 1 [0,1] U<|Va 4 U fun R g=>Vb (PtrTo.blockT (h.m_.o) _ 1) U8<|C6 2 [4] g U<|Vg U2<|⟨?_,U⟩;congr 1;rw[Sf];omega
theorem fo {l:List Nat}(h:i<l.length):(l.map aW)[i]?=some (aW (l.getD i 0)):=uP (by rw[am,ai h];rfl)
theorem dO {l:List Rat}(h:i<l.length):(l.map aQ)[i]?=some (aQ (l.getD i 0)):=eX (by rw[am,ai h];rfl)
theorem ka {ls:List Lp.Line}{ws:List Value}(h:i<ls.length)(a:ws.length=ls.length):(List.zipWith (fun(l:Lp.Line) w=>[ae (qtx l.c),w]) ls ws)[i]?=some [ae (qtx (ls.getD i ⟨0,[]⟩).c),ws.getD i (.slice none 0 0)]:=by
 rw[List.getElem?_zipWith,ai h,ai (show i<ws.length by omega),am,am,ai h,ai (show i<ws.length by omega)];rfl
theorem K3 (C:Mem)(a b n i N:Nat)(t:Lp.Tab)(j k e f:Value)(g:List Value)(h:TabV C b n t j k e f g)(l:t.Ok N)(d:C a=some (.cells ⟨[p_ b]⟩ 221 (0,0)))(m:i<t.basic.length)(p:QB 50 (t.line i).c) :
  Gives cx.P 207 [i_ i,p_ a] C (.bool (decide (n<=t.bas i) && decide ((t.line i).c<0))):=by
 obtain⟨v,w,rfl,x,y,_⟩:=id h.B;obtain⟨A2,c2,rfl,z,A,_⟩:=id h.L;have E:=mx_
 have F:=l.ll;exact Vi func207 25 U3 fun w0=>U1 1 [0,1] U<|Vv [0,1,2,3,4,5,6,7,8,9,10,11,12,13,14,15,16,17,18,19,20,21] [(8,1)] U kr_ fun R G q=>Vb (bkT d 1) U8<|Vb (bkT d 1) U8<|Ve 2 U<|Vb (PtrTo.blockT (h.m_.o) _ 1) U8<|Vc U6<|Vq h.B.m_ U10 om_ (fo m) fl_ fun H r=>Vb r U8<|VK (fun _=>(fA _ b n (t.bas i) t _ _ e f g h.m_)) U9<|Vc U6<|VE U6 (fun _=>PtrTo.blockT (Mem.get d mup) _ 1) U3<|Ve 2 U<|VE U6 (fun _=>PtrTo.blockT (h.m_.o) _ 1) U3<|Vc U6<|D.index U10 (fun I=>⟨h.L.mono mup,by omega,ka om_ h.fl⟩) fl_ U fun J s=>WH U U U U U U U U U U s fl_ U fun K u=>VE U6 u U3<|Vx (fun _=>(gm _ (t.line i).c (RD (bd p dc_) dc_))) U9<|Vc U6<|Vz U8<|C6 1 [3] q U<|Vg U2<|⟨by rw[uG],U⟩
theorem uF (q:Rat):decide (0<eH q.num)=decide (0<q):=by
 have h:0<q.num ↔ 0<q:=by rw[Rat.lt_iff];simp
 rw[Sf];unfold eH;by_cases h1:q.num<0
 ·rw[aM h1];exact⟨fun h2=>absurd h2 dc_,fun h2=>absurd (h.2 h2) om_⟩
 rw[aF h1];by_cases h2:q.num=0
 ·rw[aM h2];exact⟨fun h3=>absurd h3 dc_,fun h3=>absurd (h.2 h3) om_⟩
 rw[aF h2];exact⟨fun _=>h.1 om_,fun _=>by decide⟩
theorem mm {a:List Value}(h:TabV C b n t wB wL wO wW a)(c:t.Ok N)(d:i<t.basic.length):Sl C 1 (a.getD i (.slice none 0 0)) ((t.line i).f.map aQ)/\(t.line i).f.length=t.others.length:=by
 have e:=c.ll;have g:=h.fl;refine⟨?_,c.fl _ (Lp.line_mem c d)⟩;refine h.F i _ _ (show t.lines[i]?=some (t.line i) from ?_) (show a[i]?=some _ from ?_)
 ·unfold Lp.Tab.line;rw[am,ai om_];rfl
 rw[am,ai om_];rfl
theorem K2 (C:Mem)(a j b n i r N:Nat)(t:Lp.Tab)(p q s k:Value)(c:List Value)(h:TabV C b n t p q s k c)(d:t.Ok N)(e:C a=some (.cells ⟨[p_ b]⟩ 221 (0,0)))(u:C j=some (.cells ⟨[i_ r]⟩ 3 (0,0)))
  (l:r<t.basic.length) (v:i<t.others.length) (w:QB 50 ((t.line r).g i)) :
  Gives cx.P 208 [i_ i,p_ a,p_ j] C (.bool (decide (n<=t.oth i) && decide (0<(t.line r).g i))):=by
 obtain⟨G,H,rfl,I,J,_⟩:=id h.O;obtain⟨A2,c2,rfl,K,M,_⟩:=id h.L;obtain⟨f,Q⟩:=mm h d l;obtain⟨S,T,x,V,W,_⟩:=id f;have m:=ka (ls:=t.lines) (ws:=c) (i:=r) (by rw[d.ll];exact l) h.fl;rw[x]at m f;have X:=mx_
 have Y:=d.ll;exact Vi func208 29 U3 fun w0=>U1 1 [0,1,2] U<|Vv [0,1,2,3,4,5,6,7,8,9,10,11,12,13,14,15,16,17,18,19,20,21,22,23,24] [(8,1)] U kr_ fun R Z y=>Vb (bkT e 1) U8<|Vb (bkT e 1) U8<|Ve 2 U<|Vb (PtrTo.blockT (h.m_.o) _ 1) U8<|Vc U6<|Vq h.O.m_ U10 om_ (fo v) fl_ fun aa z=>Vb z U8<|VK (fun _=>(fA _ b n (t.oth i) t _ _ _ k c h.m_)) U9<|Vc U6<|VE U6 (fun _=>PtrTo.blockT (Mem.get e mup) _ 1) U3<|Ve 2 U<|VE U6 (fun _=>PtrTo.blockT (h.m_.o) _ 1) U3<|VE U6 (fun _=>PtrTo.blockT (Mem.get u mup) _ 1) U3<|D.index U10 (fun A=>⟨h.L.mono mup,by omega,m⟩) fl_ U fun ab B=>WH U U U U U U U U U U B fl_ U fun ac E=>VE U6 E U3<|Vc U6<|D.index U10 (fun A=>⟨f.mono mup,by omega,dO om_⟩) fl_ U fun ad F=>VE U6 F U3<|Vx (fun _=>(gm _ ((t.line r).g i) (RD (bd w dc_) dc_))) U9<|Vc U6<|Vz U8<|C6 1 [4] y U<|Vg U2<|⟨by rw[<- uF],U⟩
theorem Oe (C:Mem)(a b n i N:Nat)(t:Lp.Tab)(e f j k:Value)(d:List Value)(h:TabV C b n t e f j k d)(l:t.Ok N)(c:C a=some (.cells ⟨[p_ b]⟩ 221 (0,0)))(m:i<t.others.length) :
  Gives cx.P 209 [i_ i,p_ a] C (.bool (!decide (n<=t.oth i) && !decide (t.worth.g i=0))):=by
 obtain⟨s,u,rfl,v,w,_⟩:=id h.O;obtain⟨A2,c2,rfl,x,y,_⟩:=id h.W;have z:=mx_
 have A:=l.wl;refine Vi func209 25 U3 fun w0=>U1 1 [0,1] U<|Vv [0,1,2,3,4,5,6,7,8,9,10,11,12,13,14,15,16,17,18,19,20,21] [(8,1)] U kr_ fun R B p=>Vb (bkT c 1) U8<|Vb (bkT c 1) U8<|Ve 2 U<|Vb (PtrTo.blockT (h.m_.o) _ 1) U8<|Vc U6<|Vq h.O.m_ U10 om_ (fo m) fl_ fun E q=>Vb q U8<|VK (fun _=>(fA _ b n (t.oth i) t _ _ _ _ d h.m_)) U9<|Ve 2 U<|VE U6 (fun _=>PtrTo.blockT (Mem.get c mup) _ 1) U3<|Ve 3 U<|VE U6 (fun _=>PtrTo.blockT (h.m_.o) _ 1) U3<|Vc U6<|D.index U10 (fun F=>⟨h.W.mono mup,by omega,dO om_⟩) fl_ U fun G r=>VE U6 r U3<|Vc U6<|Vz U8<|C6 1 [3] p U<|Vg U2<|⟨?_,U⟩;show Value.bool _=Value.bool _;congr 1;congr 1;show(!((⟨(qtx (t.worth.g i)).toArray⟩:ByteArray).data.toList == (⟨#[48]⟩:ByteArray).data.toList))=_;rw[eP]
theorem Od (C:Mem)(a b n i N:Nat)(t:Lp.Tab)(e f j k:Value)(d:List Value)(h:TabV C b n t e f j k d)(l:t.Ok N)(c:C a=some (.cells ⟨[p_ b]⟩ 221 (0,0)))(m:i<t.others.length)(p:QB 50 (t.worth.g i)) :
  Gives cx.P 210 [i_ i,p_ a] C (.bool (decide (n<=t.oth i) && decide (t.worth.g i<0))):=by
 obtain⟨u,v,rfl,w,x,_⟩:=id h.O;obtain⟨A2,c2,rfl,y,z,_⟩:=id h.W;have A:=mx_
 have B:=l.wl;exact Vi func210 25 U3 fun w0=>U1 1 [0,1] U<|Vv [0,1,2,3,4,5,6,7,8,9,10,11,12,13,14,15,16,17,18,19,20,21] [(8,1)] U kr_ fun R E q=>Vb (bkT c 1) U8<|Vb (bkT c 1) U8<|Ve 2 U<|Vb (PtrTo.blockT (h.m_.o) _ 1) U8<|Vc U6<|Vq h.O.m_ U10 om_ (fo m) fl_ fun F r=>Vb r U8<|VK (fun _=>(fA _ b n (t.oth i) t _ _ _ _ d h.m_)) U9<|Vc U6<|VE U6 (fun _=>PtrTo.blockT (Mem.get c mup) _ 1) U3<|Ve 3 U<|VE U6 (fun _=>PtrTo.blockT (h.m_.o) _ 1) U3<|Vc U6<|D.index U10 (fun G=>⟨h.W.mono mup,by omega,dO om_⟩) fl_ U fun H s=>VE U6 s U3<|Vx (fun _=>(gm _ (t.worth.g i) (RD (bd p dc_) dc_))) U9<|Vc U6<|Vz U8<|C6 1 [3] q U<|Vg U2<|⟨by rw[uG],U⟩
theorem uy (n:Nat):List.replicate n (ae [48])=((List.replicate n (0:Rat)).map aQ).flatten:=by
 rw[Uf,show aQ 0=[ae [48]] by unfold aQ;rw[J6]];induction n with
|zero=>rfl
|succ n a=>rw[SB,SB,SH,<- a];rfl
def ptF (t:Lp.Tab)(n i:Nat):List Rat:=(List.range n).map fun v=>if v∈t.basic.take i then t.sol v else 0
theorem nE :(ptF t n i).length=n:=by simp[ptF]
theorem GB (h:v<n):(ptF t n i)[v]?=some (if v∈t.basic.take i then t.sol v else 0):=by
 unfold ptF;rw[Rr,RY h];rfl
theorem Kd (t:Lp.Tab)(n:Nat):ptF t n 0=List.replicate n 0:=by
 refine List.ext_getElem? fun v=>?_;by_cases h:v<n
 ·rw[GB h,SU,aM h,List.take_zero,aF Ss]
 rw[Rx (by rw[nE];omega),Rx ap]
theorem lQ (h:i<t.basic.length):t.basic.take (i+1)=t.basic.take i++[t.bas i]:=by
 rw[RR];congr 1;unfold Lp.Tab.bas;rw[am,ai h];rfl
theorem NM (b:t.Ok N)(h:i<t.basic.length)(d:t.bas i<n):(ptF t n i).set (t.bas i) (t.line i).c=ptF t n (i+1):=by
 refine List.ext_getElem? fun v=>?_;rw[List.getElem?_set,nE];by_cases a:v<n
 ·rw[GB a,GB a,lQ h];by_cases e:t.bas i=v
  ·subst e;rw[aM rfl,aM a,aM ak,Lp.sol_bas b h]
  rw[aF e];by_cases hm:v∈t.basic.take i
  ·rw[aM hm,aM (by simp[hm])]
  rw[aF hm,aF (by simp[hm];exact fun h2=>e h2.symm)]
 rw[aF om_,Rx (by rw[nE];omega),Rx (by rw[nE];omega)]
theorem Ke (h:i<t.basic.length)(a:n<=t.bas i):ptF t n i=ptF t n (i+1):=by
 refine List.map_congr_left fun v hm=>?_;have b:=RL.1 hm;rw[lQ h];by_cases hm:v∈t.basic.take i
 ·rw[aM hm,aM (by simp[hm])]
 rw[aF hm,aF (by simp[hm];omega)]
theorem NN (a:t.Ok N):ptF t n t.basic.length=(List.range n).map t.sol:=by
 refine List.map_congr_left fun v _=>?_;rw[Rz];split
 ·rfl
 next h=>exact(Lp.sol_oth a h).symm
theorem Cy (C:Mem)(b n N:Nat)(t:Lp.Tab)(w x p q:Value)(r:List Value)(h:TabV C b n t w x p q r)(f:t.Ok N)(y:n<=1000000) :
  Jog.Fn cx.P 141 [p_ b] C [] fun u _ c=>∃ g,u=s_ g n n/\c=[.arr u 32 1 n (((List.range n).map t.sol).map aQ).flatten]:=by
 obtain⟨z,s,rfl,A,Q,_⟩:=id h.B;obtain⟨A2,c2,rfl,S,T,_⟩:=id h.L;have E:=h.B;have V:t.basic.length<=s:=by rwa [au]at A
 have W:=mx_
 have X:=f.ll;have F:=h.fl;refine Vi func141 38 U3 fun w0=>U1 1 [0] U<|VB [(4,3)] U fun R a=>Ve 3 U<|Vb (PtrTo.blockT (h.m_.o) _ 1) U8<|D.call (jh _ n y) U (.inr dc_) U6 (Rw _) fl_ (fun Y _ Z _ H=>?_);obtain⟨g,rfl,rfl⟩:=H;refine C6 1 [0,3] a U<|Va 3 U fun R a=>Vb (PtrTo.blockT (h.m_.o) _ 1) U8<|C6 2 [0,3,14,15,16] a U<|Vr (L':=[.arr (s_ g n n) 32 1 n ((ptF t n 0).map aQ).flatten]) (by rw[Kd,<- uy];rfl)<|G.loop (fun fr C' c I=>∃ (i:Nat),(i<=t.basic.length)/\fr=[(0,[],p_ b),(3,[],s_ g n n),(14,[],.slice z (t.basic.map aW).length s),(15,[],i_ (t.basic.map aW).length),(16,[],i_ i)]/\c=[.arr (s_ g n n) 32 1 n ((ptF t n i).map aQ).flatten]/\I=t.basic.length-i) (hn_ [0,3,14,15,16] U) ⟨0,Rv _,U,U,U⟩ (fun fr aa ab m v J=>?_);obtain⟨i,hi,rfl,rfl,rfl⟩:=J;refine U1 1 [0,3,14,15,16,17] U<|G.cd (fun k=>?_) fun k=>?_
 ·have d:i<t.basic.length:=by
   have:=QL k;rw[au]at this;omega
  refine Va 1 U fun R a=>Vq E.m_ U10 om_ (show(t.basic.map aW)[i]?=some (aW (t.bas i)) from fo d) fl_ fun ac K=>Vb K U8<|C6 2 [0,3,4,5,14,15,16] a U<|Va 2 U fun R a=>Vl (fA _ b n (t.bas i) t _ _ p q r h.m_) U7<|C6 1 [0,3,4,5,14,15,16,24] a U<|G.cd (fun l=>?_) fun l=>?_
  ·have e:t.bas i<n:=by
    have ad:¬ n<=t.bas i:=by simpa using l
    omega
   refine Va 5 U fun R a=>Vb (PtrTo.blockT (h.m_.o) _ 1) U8<|Vc U6<|Vq h.L.m_ U10 om_ (ka om_ F) fl_ fun ae M=>Wk M U10 fl_ fun af O=>Vb O U8<|VD (t.bas i*1) U10 w_ U2<|VG (j:=0) U11 (by show t.bas i*1+1<=_;rw[bV bK,nE];omega)<|Vf [0,3,14,15,16] a U<|Vd fun R a=>Vh _ U U6<|C6 1 [0,3,14,15,16] a U<|Vr (L':=[.arr (s_ g n n) 32 1 n ((ptF t n (i+1)).map aQ).flatten]) (by rw[<- NM f d e,<- bM bK _ (by rw[nE];exact e)];rfl)<|Vn (m':=t.basic.length-(i+1)) om_ v (hn_ [0,3,14,15,16] U) ⟨i+1,om_,U,U,U⟩
  have e:n<=t.bas i:=by simpa using l
  rw[Ke d e];refine Vd fun R a=>Vh _ U U6<|C6 1 [0,3,14,15,16] a U<|Vn (m':=t.basic.length-(i+1)) om_ v (hn_ [0,3,14,15,16] U) ⟨i+1,om_,U,U,U⟩
 have d:i=t.basic.length:=by
  have:=Rt k;rw[au]at this;omega
 refine U1 2 [2] U<|Vo (VM U U ?_);exact⟨g,U,by rw[d,NN f]⟩
def duF (p:Lp.Sys)(t:Lp.Tab)(l:Lp.Line)(i:Nat):List Rat:=(List.range p.m).map fun r=>if p.n+r∈t.others.take i then Lp.dualV p t l r else 0
theorem nQ :(duF p t l i).length=p.m:=by simp[duF]
theorem H8 {r:Nat}(h:r<p.m):(duF p t l i)[r]?=some (if p.n+r∈t.others.take i then Lp.dualV p t l r else 0):=by
 unfold duF;rw[Rr,RY h];rfl
theorem La (p:Lp.Sys)(t:Lp.Tab)(l:Lp.Line):duF p t l 0=List.replicate p.m 0:=by
 refine List.ext_getElem? fun v=>?_;by_cases h:v<p.m
 ·rw[H8 h,SU,aM h,List.take_zero,aF Ss]
 rw[Rx (by rw[nQ];omega),Rx ap]
theorem BN (h:i<t.others.length):t.others.take (i+1)=t.others.take i++[t.oth i]:=by
 rw[RR];congr 1;unfold Lp.Tab.oth;rw[am,ai h];rfl
theorem Oz (b:Lp.TabOf p t)(h:i<t.others.length)(c:p.n<=t.oth i):(duF p t l i).set (t.oth i-p.n) (l.g i)=duF p t l (i+1):=by
 refine List.ext_getElem? fun v=>?_;rw[List.getElem?_set,nQ];by_cases a:v<p.m
 ·rw[H8 a,H8 a,BN h];by_cases e:t.oth i-p.n=v
  ·subst e;rw[aM rfl,aM a,aM (by rw[show p.n+(t.oth i-p.n)=t.oth i by omega];simp),Lp.dualV_at b h c]
  rw[aF e];by_cases hm:p.n+v∈t.others.take i
  ·rw[aM hm,aM (by simp[hm])]
  rw[aF hm,aF (by simp[hm];omega)]
 rw[Rx (by rw[nQ];omega),Rx (by rw[nQ];omega)];have:=b.ok.lt _ (RF.2 (.inr (Lp.oth_mem h)));split
 ·exact aF om_
 rfl
theorem Lb (h:i<t.others.length)(a:t.oth i<p.n):duF p t l i=duF p t l (i+1):=by
 refine List.map_congr_left fun v _=>?_;rw[BN h];by_cases hm:p.n+v∈t.others.take i
 ·rw[aM hm,aM (by simp[hm])]
 rw[aF hm,aF (by simp[hm];omega)]
theorem OA :duF p t l t.others.length=(List.range p.m).map (Lp.dualV p t l):=by
 refine List.map_congr_left fun v _=>?_;rw[Rz];split
 ·rfl
 next h=>exact(Lp.dualV_none h).symm
theorem H7 (C:Mem)(p:Lp.Sys)(b:Nat)(t:Lp.Tab)(l:Lp.Line)(E F H s w:Value)(v:List Value)(h:TabV C b p.n t E F H s v)(x:Lp.TabOf p t)(I:p.m<=1000000)(y:Sl C 1 w (l.f.map aQ))(Y:l.f.length=t.others.length) :
  Jog.Fn cx.P 143 [p_ b,.agg ⟨[ae (qtx l.c),w]⟩,i_ p.m] C [] fun u _ e=>∃ g,u=s_ g p.m p.m/\e=[.arr u 32 1 p.m (((List.range p.m).map (Lp.dualV p t l)).map aQ).flatten]:=by
 obtain⟨J,z,rfl,K,Z,_⟩:=id h.O;obtain⟨A3,c3,rfl,aa,ab,_⟩:=id y;have L:=h.O;have ac:t.others.length<=z:=by rwa [au]at K
 have ad:=mx_
 refine Vi func143 40 U3 fun w0=>Vd fun R a=>Vs U6 fun M=>C6 1 [0,2,4] a U<|G.freeze 0 U fun _ _ N=>VB [(1,3)] U fun R a=>Vc U6<|D.call (jh _ p.m I) U (.inr dc_) U6 (Rw _) fl_ (fun af _ ag _ Q=>?_);obtain⟨g,rfl,rfl⟩:=Q;refine C6 1 [0,4,7] a U<|Va 3 U fun R a=>Vb (PtrTo.blockT (h.m_.o) _ 1) U8<|C6 2 [0,4,7,15,16,17] a U<|Vr (L':=[.arr (s_ g p.m p.m) 32 1 p.m ((duF p t l 0).map aQ).flatten]) (by rw[La,<- uy];rfl)<|G.loop (fun fr C' e S=>∃ (i:Nat),(i<=t.others.length)/\fr=[(0,[],p_ b),(4,[],p_ M),(7,[],s_ g p.m p.m),(15,[],.slice J (t.others.map aW).length z),(16,[],i_ (t.others.map aW).length),(17,[],i_ i)]/\e=[.arr (s_ g p.m p.m) 32 1 p.m ((duF p t l i).map aQ).flatten]/\S=t.others.length-i) (hn_ [0,4,7,15,16,17] U) ⟨0,Rv _,U,U,U⟩ (fun fr ah ai m A T=>?_);obtain⟨i,hi,rfl,rfl,rfl⟩:=T;refine U1 1 [0,4,7,15,16,17,18] U<|G.cd (fun k=>?_) fun k=>?_
 ·have d:i<t.others.length:=by
   have:=QL k;rw[au]at this;omega
  have aj:=x.ok.lt _ (RF.2 (.inr (Lp.oth_mem d)));refine Va 1 U fun R a=>Vq L.m_ U10 om_ (show(t.others.map aW)[i]?=some (aW (t.oth i)) from fo d) fl_ fun ak V=>Vb V U8<|C6 2 [0,4,7,8,9,15,16,17] a U<|Va 2 U fun R a=>Vl (fA _ b p.n (t.oth i) t _ _ _ s v h.m_) U7<|Vf [0,4,7,8,9,15,16,17,24] a U<|G.cd (fun q=>?_) fun q=>?_
  ·have r:p.n<=t.oth i:=by simpa using q
   have B:((t.oth i:Int)-(p.n:Int)).toNat=t.oth i-p.n:=by omega
   have W:=Oz (l:=l) x d r;refine Vv [0,1,2,3,4,5,6,7,8,9,10,11,12,13] [] U kr_ fun R hB a=>Ve 5 U<|Vb (PtrTo.blockT (h.m_.o) _ 1) U8<|Vh _ U U6<|Vc U6<|Vb (bkT N 1) U8<|Vc U6<|Vq y.m_ U10 om_ (dO om_) fl_ fun al X=>Vb X U8<|VD (((t.oth i:Int)-(p.n:Int)).toNat*1) U10 w_ U2<|VG (j:=0) U11 (by show((t.oth i:Int)-(p.n:Int)).toNat*1+1<=_;rw[B,bV bK,nQ];omega)<|Vf [0,4,7,15,16,17] a U<|Vd fun R a=>Vh _ U U6<|C6 1 [0,4,7,15,16,17] a U<|Vr (L':=[.arr (s_ g p.m p.m) 32 1 p.m ((duF p t l (i+1)).map aQ).flatten]) (by rw[B,<- W,<- bM bK _ (by rw[nQ];omega)];rfl)<|Vn (m':=t.others.length-(i+1)) om_ A (hn_ [0,4,7,15,16,17] U) ⟨i+1,om_,U,U,U⟩
  have r:t.oth i<p.n:=by
   have am:¬ p.n<=t.oth i:=by simpa using q
   omega
  rw[Lb d r];refine Vd fun R a=>Vh _ U U6<|C6 1 [0,4,7,15,16,17] a U<|Vn (m':=t.others.length-(i+1)) om_ A (hn_ [0,4,7,15,16,17] U) ⟨i+1,om_,U,U,U⟩
 have d:i=t.others.length:=by
  have:=Rt k;rw[au]at this;omega
 refine U1 2 [6] U<|Vo (VM U U ?_);exact⟨g,U,by rw[d,OA]⟩
def ngF (p:Lp.Sys)(t:Lp.Tab)(l:Lp.Line)(i:Nat):List Rat:=(List.range p.m).map fun r=>if r<i then -Lp.dualV p t l r else Lp.dualV p t l r
theorem ij :(ngF p t l i).length=p.m:=by simp[ngF]
theorem CM {r:Nat}(h:r<p.m):(ngF p t l i)[r]?=some (if r<i then -Lp.dualV p t l r else Lp.dualV p t l r):=by
 unfold ngF;rw[Rr,RY h];rfl
theorem Kv (p:Lp.Sys)(t:Lp.Tab)(l:Lp.Line):(List.range p.m).map (Lp.dualV p t l)=ngF p t l 0:=List.map_congr_left fun r _=>by rw[aF (Nat.not_lt_zero _)]
theorem N9 (h:i<p.m):(ngF p t l i).set i (-Lp.dualV p t l i)=ngF p t l (i+1):=by
 refine List.ext_getElem? fun v=>?_;rw[List.getElem?_set,ij];by_cases a:v<p.m
 ·rw[CM a,CM a];by_cases e:i=v
  ·subst e;rw[aM rfl,aM a,aM om_]
  rw[aF e];by_cases hm:v<i
  ·rw[aM hm,aM om_]
  rw[aF hm,aF om_]
 rw[aF om_,Rx (by rw[ij];omega),Rx (by rw[ij];omega)]
theorem Oa (h:t.bas i-p.n<p.m):(ngF p t (t.line i) p.m).set (t.bas i-p.n) 1=(List.range p.m).map (Lp.refV p t i):=by
 refine List.ext_getElem? fun v=>?_;rw[List.getElem?_set,ij,Rr];by_cases a:v<p.m
 ·rw[CM a,RY a,aM a];unfold Lp.refV;by_cases e:t.bas i-p.n=v
  ·subst e;rw[aM rfl,aM h,S5,aM rfl]
  rw[aF e,S5,aF (fun b=>e b.symm)]
 rw[aF om_,Rx (by rw[ij];omega),Rx ap];rfl
theorem qtx1:qtx 1=[49]:=by decide +kernel
theorem enc1:aQ 1=[Value.string ⟨#[49]⟩]:=by
 show [ae (qtx 1)]=_;rw[qtx1];rfl
theorem J3 (C:Mem)(p:Lp.Sys)(b i:Nat)(t:Lp.Tab)(A E s v:Value)(e:List Value)(h:TabV C b p.n t A E s v e)(w:Lp.TabOf p t)(F:p.m<=1000000)(f:i<t.basic.length)(X:p.n<=t.bas i)(H:∀ r,QB 50 (Lp.dualV p t (t.line i) r)) :
  Pur cx.P 139 [p_ b,i_ i,i_ p.m] C fun u D=>∃ g,u=.agg ⟨[s_ g p.m p.m]⟩/\Sl D 1 (s_ g p.m p.m) (((List.range p.m).map (Lp.refV p t i)).map aQ):=by
 have ok:=w.ok;obtain⟨Y,Z,rfl,aa,ab,_⟩:=id h.B;obtain⟨A2,c2,rfl,ac,ad,_⟩:=id h.L;obtain⟨k,I⟩:=mm h ok f;obtain⟨A3,c3,J,ae,af,_⟩:=id k;have ah:=ok.ll;have x:=ka (ls:=t.lines) (ws:=e) (i:=i) om_ h.fl;rw[J]at x k;have ai:=mx_
 have aj:=ok.lt _ (RF.2 (.inl (Lp.bas_mem f)));have K:t.bas i-p.n<p.m:=by omega
 have z:((t.bas i:Int)-(p.n:Int)).toNat=t.bas i-p.n:=by omega
 refine Vi func139 49 U3 fun w0=>Vd fun R a=>Vt U5 fun c=>Vf [0,1,2,6] a U<|VB [(9,3)] U fun R a=>Ve 4 U<|Vb (PtrTo.blockT (h.m_.o) _ 1) U8<|Vc U6<|Vq h.L.m_ U10 om_ x fl_ fun al M=>Vb M U8<|Vc U6<|D.call (H7 _ p b t (t.line i) _ _ s v _ e h.m_ w F k.m_ I) U (.inr dc_) U6 (Rw _) fl_ (fun am _ an _ N=>?_);obtain⟨g,rfl,rfl⟩:=N;refine C6 1 [0,1,6,7] a U<|U1 3 [0,1,6,7,20,21,22] U<|Vr (L':=[.arr (s_ g p.m p.m) 32 1 p.m ((ngF p t (t.line i) 0).map aQ).flatten,.obj c (.cells ⟨[.slice none 0 0]⟩ 68 (0,0))]) (by rw[<- Kv];rfl)<|G.loop (fun fr C' l O=>∃ (j:Nat),(j<=p.m)/\fr=[(0,[],p_ b),(1,[],i_ i),(6,[],p_ c),(7,[],s_ g p.m p.m),(20,[],s_ g p.m p.m),(21,[],i_ p.m),(22,[],i_ j)]/\l=[.arr (s_ g p.m p.m) 32 1 p.m ((ngF p t (t.line i) j).map aQ).flatten,.obj c (.cells ⟨[.slice none 0 0]⟩ 68 (0,0))]/\O=p.m-j) (hn_ [0,1,6,7,20,21,22] U) ⟨0,Rv _,U,U,U⟩ (fun fr ao ap m Q S=>?_);obtain⟨j,hj,rfl,rfl,rfl⟩:=S;refine U1 1 [0,1,6,7,20,21,22,23] U<|G.cd (fun q=>?_) fun q=>?_
 ·have d:j<p.m:=by
   have:=QL q;omega
  have T:(ngF p t (t.line i) j)[j]?=some (Lp.dualV p t (t.line i) j):=by rw[CM d,aF (Nat.lt_irrefl _)]
  refine Va 1 U fun R a=>VD (j*1) U10 w_ U2<|VT ag U6 (fun _=>(by rw[eh bK T];rfl)) U2<|C6 2 [0,1,6,7,8,9,20,21,22] a U<|Va 3 U fun R a=>Vm (eK _ _ (RD (bd (H j) dc_) dc_)) U7 fl_<|VD (j*1) U10 w_ U2<|VG (j:=0) U11 (by show j*1+1<=_;rw[bV bK,ij];omega)<|Vf [0,1,6,7,20,21,22] a U<|Vd fun R a=>Vh _ U U6<|C6 1 [0,1,6,7,20,21,22] a U<|Vr (L':=[.arr (s_ g p.m p.m) 32 1 p.m ((ngF p t (t.line i) (j+1)).map aQ).flatten,.obj c (.cells ⟨[.slice none 0 0]⟩ 68 (0,0))]) (by rw[<- N9 d,<- bM bK _ (by rw[ij];omega)];rfl)<|Vn (m':=p.m-(j+1)) om_ Q (hn_ [0,1,6,7,20,21,22] U) ⟨j+1,om_,U,U,U⟩
 have d:j=p.m:=by
  have:=Rt q;omega
 subst d;refine Vv [0,1,2,3,4,5,6,7,8,9,10,11,12,13,14] [] U kr_ fun R hB a=>Ve 4 U<|Vb (PtrTo.blockT (h.m_.o) _ 1) U8<|Vc U6<|Vq h.B.m_ U10 om_ (show(t.basic.map aW)[i]?=some (aW (t.bas i)) from fo f) fl_ fun aq V=>Vb V U8<|Ve 3 U<|Vb (PtrTo.blockT (h.m_.o) _ 1) U8<|Vh _ U U6<|VD (((t.bas i:Int)-(p.n:Int)).toNat*1) U10 w_ U2<|VG (j:=0) U11 (by show((t.bas i:Int)-(p.n:Int)).toNat*1+1<=_;rw[z,bV bK,ij];omega)<|Vf [6,7] a U<|Va 1 U fun R a=>Vu [s_ g p.m p.m] U8<|Vk (j:=1) U12<|Vf [6] a U<|G.freezeArr 1 (((List.range p.m).map (Lp.refV p t i)).map aQ) rfl (by rw[z,<- Oa K,<- bM bK 1 (by rw[ij];omega),enc1]) (by intro r hr;obtain⟨y,_,rfl⟩:=Rs.1 hr;rfl) ak fun Cg hg W=>Vo (VU ag U4 ?_);exact⟨U,g,U,W⟩
def cN (t:Lp.Tab)(wF:Nat->Value):List (Rat × Value):=(List.range t.basic.length).map fun i=>((t.line i).c,wF i)
theorem fM :(cN t wF).length=t.basic.length:=by simp[cN]
theorem oO (h:i<t.basic.length):(cN t wF)[i]?=some ((t.line i).c,wF i):=by
 unfold cN;rw[Rr,RY h];rfl
def Md (t:Lp.Tab)(wF:Nat->Value)(i:Nat):Lent:=.arr (wF i) t.others.length 1 32 ((t.line i).f.map aQ)
def fk (b n:Nat)(t:Lp.Tab)(wB wL wO wW:Value)(wF:Nat->Value):List Lent :=
 .obj b [.int .i64 n,wB,wL,wO,ae (qtx t.worth.c),wW] 231::.arr wB t.basic.length 1 3 (t.basic.map aW)::.arr wL t.basic.length 2 228 ((cN t wF).map bH)
  :: .arr wO t.others.length 1 3 (t.others.map aW)::.arr wW t.others.length 1 32 (t.worth.f.map aQ)::(List.range t.basic.length).map (Md t wF)
theorem im (a:t.Ok N)(h:i<t.basic.length):(t.line i).f.length=t.others.length:=a.fl _ (Lp.line_mem a h)
theorem bS {l:List Rat}:∀ r∈l.map aQ,r.length=1:=fun r hr=>by
 obtain⟨x,_,rfl⟩:=Rs.1 hr;rfl
theorem vo {l:List Nat}:∀ r∈l.map aW,r.length=1:=fun r hr=>by
 obtain⟨x,_,rfl⟩:=Rs.1 hr;rfl
theorem gu (c:t.Ok N):∀ x∈fk b n t wB wL wO wW wF,x.wf:=by
 intro x a;unfold fk at a;simp only[RC,Rs,RL]at a;rcases a with rfl|rfl|rfl|rfl|rfl|⟨i,d,rfl⟩
 ·trivial
 ·exact⟨by simp,vo⟩
 ·exact⟨by simp[fM],fun r hr=>by obtain⟨y,_,rfl⟩:=Rs.1 hr;rfl⟩
 ·exact⟨by simp,vo⟩
 ·exact⟨by simp[c.wl],bS⟩
 exact⟨by simp[im c d],bS⟩
theorem Fq {b:Type}{f:Lp.Line->Value->b}(a:t.Ok N):List.zipWith f t.lines ((List.range t.basic.length).map wF)=(List.range t.basic.length).map fun i=>f (t.line i) (wF i):=by
 refine List.ext_getElem? fun i=>?_;rw[List.getElem?_zipWith,Rr,Rr];by_cases h:i<t.basic.length
 ·have h2:t.lines[i]?=some (t.line i):=by
   unfold Lp.Tab.line;rw[am,ai (by rw[a.ll];exact h)];rfl
  rw[h2,RY h];rfl
 rw[Rx (show(List.range t.basic.length).length<=i by simp;omega),Rx (show t.lines.length<=i by rw[a.ll];omega)];rfl
theorem ff (c:t.Ok N)(h:∀ x∈fk b n t wB wL wO wW wF,x.seen C):TabV C b n t wB wL wO wW ((List.range t.basic.length).map wF):=by
 have h1:=h _ (Rq ..);have h2:=h _ (RB _ (Rq ..));have h3:=h _ (RB _ (RB _ (Rq ..)));have h4:=h _ (RB _ (RB _ (RB _ (Rq ..))));have h5:=h _ (RB _ (RB _ (RB _ (RB _ (Rq ..)))));have j:∀ i,i<t.basic.length->Sl C 1 (wF i) ((t.line i).f.map aQ):=fun i a =>
  h (Md t wF i) (RB _ (RB _ (RB _ (RB _ (RB _ (Rs.2 ⟨i,RL.2 a,rfl⟩))))))
 refine⟨h1,h2,h4,h5, ?_,by simp[c.ll],fun i l w e g=>?_⟩
 ·rw[Fq c];have d:Sl C 2 wL ((cN t wF).map bH):=h3;unfold cN at d;rw[So]at d;exact d
 have a:i<t.lines.length:=(aJ.1 e).1;rw[c.ll]at a;rw[Rr,RY a]at g;cases g
 have:t.line i=l:=by unfold Lp.Tab.line;rw[am,e];rfl
 rw[<- this];exact j i a
theorem Kb (C:Mem)(p:Tabs C)(e m f i n s:Nat)(w g:Value)(d:List (Rat × Value))(a b:List Rat)(c h:Rat)(q:d.length=m)(r:d[i]?=some (c,w))(t:a.length=n)(k:b.length=n)(v:s<n)(y:QB 50 c)(z:∀ x∈a,QB 50 x)(A:QB 50 h)(B:∀ x∈b,QB 50 x) :
  Jog.Fn cx.P 262 [.pointer (some ⟨e,i*2,none⟩),i_ s,.agg ⟨[ae (qtx h),g]⟩] C [.arr g 32 1 n (b.map aQ).flatten,.arr (s_ e m f) 228 2 m (d.map bH).flatten,.arr w 32 1 n (a.map aQ).flatten]
   fun u _ j=>u=.tuple #[]/\j=[.arr g 32 1 n (b.map aQ).flatten,.arr (s_ e m f) 228 2 m ((d.set i (c+a.getD s 0*h,w)).map bH).flatten,.arr w 32 1 n ((kW a b s (a.getD s 0) n).map aQ).flatten]:=by
 have l:Jog.Enters cx.P 262=true:=by kernel_rfl
 refine Fn.perm (L2:=[.arr w 32 1 n (a.map aQ).flatten,.arr g 32 1 n (b.map aQ).flatten,.arr (s_ e m f) 228 2 m (d.map bH).flatten]) (Su (l₁:=[_,_]) (l₂:=[_]))<|Fn.form l om_ fun E F G=>?_;subst G;refine Fn.perm (Su (l₁:=[_]) (l₂:=[_,_]))<|(Wx (post:=fun u j=>u=.tuple #[]/\j=[.arr (s_ e m f) 228 2 m ((d.set i (c+a.getD s 0*h,_)).map bH).flatten,.arr _ 32 1 n ((kW a b s (a.getD s 0) n).map aQ).flatten]) l bS (by simp[k]) fun o H I=>NK o (p.mono H) e m f i E F n s g d a b c h q r t k v I y z A B).mono ?_;rintro u o j _ ⟨D,rfl,h1,rfl⟩;exact⟨h1,U⟩
theorem J9 (C:Mem)(p:Tabs C)(d n s:Nat)(e f g h w i:Value)(a b:List Rat)(c j:Rat)(q:a.length=n)(l:b.length=n)(r:s<n)(t:QB 50 c)(v:∀ x∈a,QB 50 x)(y:QB 50 j)(z:∀ x∈b,QB 50 x) :
  Jog.Fn cx.P 262 [.pointer (some ⟨d,4,none⟩),i_ s,.agg ⟨[ae (qtx j),i]⟩] C [.arr i 32 1 n (b.map aQ).flatten,.obj d (.cells ⟨[e,f,g,h,ae (qtx c),w]⟩ 231 (0,0)),.arr w 32 1 n (a.map aQ).flatten]
   fun u _ k=>u=.tuple #[]/\k=[.arr i 32 1 n (b.map aQ).flatten,.obj d (.cells ⟨[e,f,g,h,ae (qtx (c+a.getD s 0*j)),w]⟩ 231 (0,0)),.arr w 32 1 n ((kW a b s (a.getD s 0) n).map aQ).flatten]:=by
 have m:Jog.Enters cx.P 262=true:=by kernel_rfl
 refine Fn.perm (L2:=[.arr w 32 1 n (a.map aQ).flatten,.arr i 32 1 n (b.map aQ).flatten,.obj d (.cells ⟨[e,f,g,h,ae (qtx c),w]⟩ 231 (0,0))]) (Su (l₁:=[_,_]) (l₂:=[_]))<|Fn.form m om_ fun B D E=>?_;subst E;refine Fn.perm (Su (l₁:=[_]) (l₂:=[_,_]))<|(Wx (post:=fun u k=>u=.tuple #[]/\k=[.obj d (.cells ⟨[e,f,g,h,ae (qtx (c+a.getD s 0*j)),_]⟩ 231 (0,0)),.arr _ 32 1 n ((kW a b s (a.getD s 0) n).map aQ).flatten]) m bS (by simp[l]) fun o F G=>NJ o (p.mono F) d B D n s e f g h i a b c j q l r G t v y z).mono ?_;rintro u o k _ ⟨A,rfl,h1,rfl⟩;exact⟨h1,U⟩
theorem oq {F:Nat}(h:Lp.LeaveR F t s n o):o=-1∨∃ r:Nat,o=r/\r<n/\F<=t.bas r/\(t.line r).g s<0:=by
 cases h with
|none _=>exact .inl rfl
|some r h1 h2 h3 _=>exact .inr ⟨r,rfl,h1,h2,h3⟩
theorem GM (a b:Rat):decide (nU a b > 0)=decide (b<a):=by
 unfold nU;rw[Sf];split
 ·next h=>exact⟨fun h2=>absurd h2 dc_,fun h2=>by grind⟩
 split
 ·next h=>exact⟨fun _=>h,fun _=>by decide⟩
 next h=>exact⟨fun h2=>absurd h2 dc_,fun h2=>absurd h2 h⟩
theorem GN (a b:Rat):(nU a b == 0)=decide (b=a):=by
 unfold nU;split
 ·next h=>rw[RU (by grind)];rfl
 split
 ·next h=>rw[RU (by grind)];rfl
 next h=>rw[RJ (by grind)];rfl
theorem KF (C:Mem)(S:Tabs C)(b n s N:Nat)(t:Lp.Tab)(wB wL T V:Value)(k:List Value)(h:TabV C b n t wB wL T V k)(W:t.Ok N)(hs:s<t.others.length)(X:∀ i,i<t.basic.length->QB 20 (t.line i).c/\QB 20 ((t.line i).g s)) :
  Pur cx.P 211 [p_ b,i_ s] C fun u _=>∃ o:Int,u=i_ o/\Lp.LeaveR n t s t.basic.length o:=by
 obtain⟨A1,c1,rfl,aw,ax,_⟩:=id h.B;obtain⟨A2,c2,rfl,ay,az,_⟩:=id h.L;have E:=h.B;have aA:=mx_
 have aB:=W.ll;have ac:=h.fl;have aC:(List.zipWith (fun(l:Lp.Line) w=>[ae (qtx l.c),w]) t.lines k).length=t.basic.length:=by simp;omega
 refine Vi func211 85 U3 fun w0=>U1 1 [0,1] U<|U1 1 [0,1,5] U<|U1 1 [0,1,5,6] U<|Va 3 U fun R a=>Vb (PtrTo.blockT (h.m_.o) _ 1) U8<|C6 2 [0,1,5,6,15,16,17] a U<|G.loop (fun fr C' L' μ=>∃ (i:Nat)(o:Int)(v:Str),(i<=t.basic.length/\Lp.LeaveR n t s i o/\∀ r:Nat,o=r->v=qtx ((t.line r).c / -(t.line r).g s))/\fr=[(0,[],p_ b),(1,[],i_ s),(5,[],i_ o),(6,[],ae v),(15,[],.slice A2 (List.zipWith (fun(l:Lp.Line) w=>[ae (qtx l.c),w]) t.lines k).length c2),(16,[],i_ (List.zipWith (fun(l:Lp.Line) w=>[ae (qtx l.c),w]) t.lines k).length),(17,[],i_ i)]/\L'=[]/\μ=t.basic.length-i) (hn_ [0,1,5,6,15,16,17] U) ⟨0, -1,[],⟨Rv _,.none fun j hj=>absurd hj (Nat.not_lt_zero _),fun r hr=>by omega⟩,U,U,U⟩ (fun fr aD aE m _ hI=>?_);obtain⟨i,o,v,⟨hi,f,F⟩,rfl,rfl,rfl⟩:=hI;refine U1 1 [0,1,5,6,15,16,17,18] U<|G.cd (fun H=>?_) fun H=>?_
 ·have p:i<t.basic.length:=by
   have:=QL H;omega
  obtain⟨z,aF⟩:=mm h W p;obtain⟨A3,c3,ad,aG,aH,_⟩:=id z;obtain⟨Y,I⟩:=X i p;have Z:=ka (ls:=t.lines) (ws:=k) (i:=i) om_ ac;rw[ad]at Z z;have aa:(qtx ((t.line i).g s)).length<=1000000:=RD (bd I dc_) dc_;refine Va 1 U fun R a=>Vq h.L.m_ U10 om_ Z fl_ fun aI af=>Vb af U8<|Vt U5 fun b8=>Vc U6<|Vk (j:=0) U12<|Vf [0,1,5,6,7,8,15,16,17] a U<|G.freeze 0 U fun _ _ J=>Va 4 U fun R a=>Vb (PtrTo.blockT (h.m_.o) _ 1) U8<|Vc U6<|Vq E.m_ U10 om_ (fo p) fl_ fun aJ ag=>Vb ag U8<|Vl (fA _ b n (t.bas i) t _ _ T V k h.m_) U7<|Ve 3 U<|VE U6 (fun _=>PtrTo.blockT (Mem.get J mup) _ 1) U3<|Vc U6<|D.index U10 (fun hg=>⟨z.mono mup,by omega,dO om_⟩) fl_ U fun aK ah=>VE U6 ah U3<|VK (fun _=>(gm _ ((t.line i).g s) aa)) U9<|Vc U6<|VH U8<|Vf [0,1,5,6,7,8,15,16,17,40] a U<|G.cd (fun K=>?_) fun K=>?_
  ·have d:n<=t.bas i->0<=(t.line i).g s:=by
    intro h1;have d:(!decide (n<=t.bas i) || decide (eH ((t.line i).g s).num ≥ 0))=true:=K;rw[GC,RJ h1]at d;simpa using d
   refine Vd fun R a=>Vh _ U U6<|C6 1 [0,1,5,6,15,16,17] a U<|Vn (m':=t.basic.length-(i+1)) om_ mup (hn_ [0,1,5,6,15,16,17] U) ⟨i+1,o,v,⟨by omega,f.no d,F⟩,U,U,U⟩
  have d:n<=t.bas i/\(t.line i).g s<0:=by
   have d:(!decide (n<=t.bas i) || decide (eH ((t.line i).g s).num ≥ 0))=false:=K;rw[GC]at d;simp only[Tf,Bool.not_eq_false',Ry,RZ]at d;exact⟨d.1,by have:=d.2;grind⟩
  have ab:-(t.line i).g s≠0:=by have:=d.2;grind
  have ai:=jE Y (eQ I) ab;refine Vv [0,1,2,3,4,5,6,7,8,9,10,11,12,13] [(7,1),(8,1)] U kr_ fun R hB a=>Vc U6<|Vb (bkT J 1) U8<|Vc U6<|Vb (bkT J 1) U8<|Vc U6<|Vq z.m_ U10 om_ (dO om_) fl_ fun aL aj=>Vb aj U8<|VK (fun _=>(eK _ ((t.line i).g s) aa)) U9<|Vx (fun _=>(ia _ S.m_ (t.line i).c (-(t.line i).g s) 20 dc_ dc_ Y (eQ I) ab)) U9<|C6 5 [0,1,5,6,7,9,15,16,17] a U<|U1 1 [0,1,5,6,7,9,15,16,17] U<|U1 2 [0,1,5,6,7,9,15,16,17,54] U<|G.cd (fun M=>?_) fun M=>?_
  ·have ak:0<=o:=by simpa using QL M
   obtain⟨r,O,aM,aN,aO⟩:=(oq f).resolve_left om_;obtain⟨al,am⟩:=X r om_;have an:-(t.line r).g s≠0:=by grind
   have ao:=jE al (eQ am) an;have ap:=F r O;rw[O]at f;subst O;subst ap;obtain⟨x,A⟩:∃ x,(t.line i).c / -(t.line i).g s=x:=⟨_,rfl⟩;obtain⟨y,hy⟩:∃ y,(t.line r).c / -(t.line r).g s=y:=⟨_,rfl⟩;refine Va 2 U fun R a=>Vm (fO _ S.m_ _ _ 40 dc_ dc_ ai ao) U7 fl_<|C6 1 [0,1,5,6,7,9,11,15,16,17] a U<|Vv [0,1,2,3,4,5,6,7,8,9,10,11,12,13,14,15,16,17,18,19,20,21,22] [] U kr_ fun R hB a=>Ve 9 U<|VE U6 (fun _=>PtrTo.blockT (h.m_.o) _ 1) U3<|Vc U6<|D.index U10 (fun hg=>⟨E.mono mup,by omega,fo p⟩) fl_ U fun aP aq=>VE U6 aq U3<|Ve 3 U<|VE U6 (fun _=>PtrTo.blockT (h.m_.o) _ 1) U3<|Vc U6<|D.index U10 (fun hg=>⟨E.mono mup,by omega,by rw[Tk];exact fo om_⟩) fl_ U fun aQ ar=>VE U6 ar U3<|Vc U6<|Vz U8<|VH U8<|Vf [0,1,5,6,7,9,15,16,17,80] a U<|G.cd (fun Q=>?_) fun Q=>?_
   ·have e:y<x∨y=x/\t.bas r<t.bas i:=by
     have e:(decide (nU ((t.line i).c / -(t.line i).g s) ((t.line r).c / -(t.line r).g s) > 0) || (nU ((t.line i).c / -(t.line i).g s) ((t.line r).c / -(t.line r).g s) == 0 && decide ((t.bas i:Int) > (t.bas r:Int))))=true:=Q;rw[A,hy,GM,GN]at e;simp only[Tp,RG,Ry]at e;rcases e with h1|⟨h1,h2⟩
     ·exact .inl h1
     exact .inr ⟨h1,by omega⟩
    have q:=f.keep (by rw[A,hy];exact e.elim .inl (fun h1=>.inr ⟨h1.1,by have:=h1.2;omega⟩));refine Vd fun R a=>Vh _ U U6<|C6 1 [0,1,5,6,15,16,17] a U<|Vn (m':=t.basic.length-(i+1)) om_ mup (hn_ [0,1,5,6,15,16,17] U) ⟨i+1,(r:Int),qtx ((t.line r).c / -(t.line r).g s),⟨by omega,q,F⟩,U,U,U⟩
   have e:x<y∨x=y/\t.bas i<=t.bas r:=by
    have e:(decide (nU ((t.line i).c / -(t.line i).g s) ((t.line r).c / -(t.line r).g s) > 0) || (nU ((t.line i).c / -(t.line i).g s) ((t.line r).c / -(t.line r).g s) == 0 && decide ((t.bas i:Int) > (t.bas r:Int))))=false:=Q;rw[A,hy,GM,GN]at e;simp only[Tf,Bool.and_eq_false_iff,RZ]at e;obtain⟨h1,h2⟩:=e;by_cases h3:x<y
    ·exact .inl h3
    have h4:y=x:=by grind
    rcases h2 with h2|h2
    ·exact absurd h4 h2
    exact .inr ⟨h4.symm,by omega⟩
   have q:=f.less d.1 d.2 (by rw[A,hy];exact e);refine U1 4 [0,1,5,6,15,16,17] U<|Vd fun R a=>Vh _ U U6<|C6 1 [0,1,5,6,15,16,17] a U<|Vn (m':=t.basic.length-(i+1)) om_ mup (hn_ [0,1,5,6,15,16,17] U) ⟨i+1,(i:Int),qtx ((t.line i).c / -(t.line i).g s),⟨by omega,q,fun r' au=>by rw[show r'=i by omega]⟩,U,U,U⟩
  have ak:¬ 0<=o:=by simpa using Rt M
  have av:o=-1:=by
   rcases oq f with h1|⟨r,h1,_⟩
   ·exact h1
   omega
  subst av;have q:=f.first d.1 d.2;refine U1 4 [0,1,5,6,15,16,17] U<|Vd fun R a=>Vh _ U U6<|C6 1 [0,1,5,6,15,16,17] a U<|Vn (m':=t.basic.length-(i+1)) om_ mup (hn_ [0,1,5,6,15,16,17] U) ⟨i+1,(i:Int),qtx ((t.line i).c / -(t.line i).g s),⟨by omega,q,fun r' au=>by rw[show r'=i by omega]⟩,U,U,U⟩
 have p:i=t.basic.length:=by
  have:=Rt H;omega
 exact U1 2 [4] U<|Vg U2<|⟨U,o,U,by rw[<- p];exact f⟩
def ryF (t:Lp.Tab)(s n:Nat)(k:Rat)(i:Nat):List Rat:=(List.range n).map fun v=>if v∈t.basic.take i then k*t.dir s v else if v=t.oth s then k else 0
theorem kT :(ryF t s n k i).length=n:=by simp[ryF]
theorem B6 (h:v<n):(ryF t s n k i)[v]?=some (if v∈t.basic.take i then k*t.dir s v else if v=t.oth s then k else 0):=by
 unfold ryF;rw[Rr,RY h];rfl
theorem JS (h:n<=t.oth s):List.replicate n 0=ryF t s n k 0:=by
 refine List.ext_getElem? fun v=>?_;by_cases a:v<n
 ·rw[B6 a,SU,aM a,List.take_zero,aF Ss,aF om_]
 rw[Rx ap,Rx (by rw[kT];omega)]
theorem No (h:t.oth s<n):(List.replicate n 0).set (t.oth s) k=ryF t s n k 0:=by
 refine List.ext_getElem? fun v=>?_;rw[List.getElem?_set];by_cases a:v<n
 ·rw[B6 a,SU,aM a,List.take_zero,aF Ss];by_cases e:t.oth s=v
  ·rw[aM e,aM (by simpa using h),aM e.symm]
  rw[aF e,aF (fun b=>e b.symm)]
 rw[aF om_,Rx ap,Rx (by rw[kT];omega)]
theorem Nn (b:Lp.TabOf p t)(c:s<t.others.length)(h:i<t.basic.length)(d:t.bas i<n):(ryF t s n k i).set (t.bas i) (k*(t.line i).g s)=ryF t s n k (i+1):=by
 refine List.ext_getElem? fun v=>?_;rw[List.getElem?_set,kT];by_cases a:v<n
 ·rw[B6 a,B6 a,lQ h];by_cases e:t.bas i=v
  ·subst e;rw[aM rfl,aM a,aM ak,Lp.dir_bas b c h]
  rw[aF e];by_cases hm:v∈t.basic.take i
  ·rw[aM hm,aM (by simp[hm])]
  rw[aF hm,aF (show ¬ v∈t.basic.take i++[t.bas i] by simp[hm];exact fun h2=>e h2.symm)]
 rw[aF om_,Rx (by rw[kT];omega),Rx (by rw[kT];omega)]
theorem JT (h:i<t.basic.length)(a:n<=t.bas i):ryF t s n k i=ryF t s n k (i+1):=by
 refine List.map_congr_left fun v hm=>?_;have b:=RL.1 hm;rw[lQ h];by_cases hm:v∈t.basic.take i
 ·rw[aM hm,aM (by simp[hm])]
 rw[aF hm,aF (show ¬ v∈t.basic.take i++[t.bas i] by simp[hm];omega)]
theorem Np (a:Lp.TabOf p t):ryF t s n k t.basic.length=(List.range n).map fun v=>k*t.dir s v:=by
 refine List.map_congr_left fun v _=>?_;rw[Rz];split
 ·rfl
 next h =>
 rw[Lp.dir_oth a h];split <;> grind
def lF (t:Lp.Tab)(s:Nat):Rat:=if 0<t.worth.g s then -1 else 1
theorem PV:qtx (-1)=[45,49]:=by decide +kernel
theorem PU (C:Mem)(Q:Tabs C)(p:Lp.Sys)(b s:Nat)(t:Lp.Tab)(S T V X:Value)(r:List Value)(h:TabV C b p.n t S T V X r)(x:Lp.TabOf p t)(I:s<t.others.length)(Y:p.n<=1000000)(Z:∀ i,i<t.basic.length->QB 20 ((t.line i).g s))(aa:QB 20 (t.worth.g s)) :
  Jog.Fn cx.P 142 [p_ b,i_ s] C [] fun u _ c=>∃ g,u=s_ g p.n p.n/\c=[.arr u 32 1 p.n (((List.range p.n).map fun v=>lF t s*t.dir s v).map aQ).flatten]:=by
 have ok:=x.ok;obtain⟨A1,J,rfl,ab,ap,_⟩:=id h.B;obtain⟨A2,c2,rfl,aq,ar,_⟩:=id h.L;obtain⟨A3,c3,rfl,av,aw,_⟩:=id h.O;obtain⟨A4,c4,rfl,ax,ay,_⟩:=id h.W;have ac:=h.B;have az:t.basic.length<=J:=by rwa [au]at ab
 have aA:=mx_
 have aB:=ok.ll;have ad:=h.fl;have aC:=ok.wl;have af:QB 20 (lF t s):=by unfold lF;split <;> exact⟨by decide,by decide⟩
 refine Vi func142 72 U3 fun w0=>U1 1 [0,1] U<|U1 1 [0,1,5] U<|Va 4 U fun R a=>Vb (PtrTo.blockT (h.m_.o) _ 1) U8<|Vc U6<|Vq h.W.m_ U10 om_ (dO om_) fl_ fun aD ag=>Vb ag U8<|Vm (gm _ (t.worth.g s) (RD (bd aa dc_) dc_)) U7 fl_<|C6 1 [0,1,5,19] a U<|G.cut (fun fr K c f=>(True)/\fr=[(0,[],p_ b),(1,[],i_ s),(5,[],ae (qtx (lF t s)))]/\c=[]) ?_ (fun fr _ aE f _ l=>?_)
 ·refine G.cd (fun y=>?_) fun y=>?_
  ·have z:lF t s=-1:=by
    have d:0<t.worth.g s:=by
     have d:decide (0<eH (t.worth.g s).num)=true:=y;rw[uF]at d;exact QL d
    unfold lF;rw[aM d]
   refine U1 1 [0,1,5] U<|Vp 0 l_ (hn_ [0,1,5] U) ⟨trivial,by rw[z,PV];rfl,U⟩
  have z:lF t s=1:=by
   have d:¬ 0<t.worth.g s:=by
    have d:decide (0<eH (t.worth.g s).num)=false:=y;rw[uF]at d;exact Rt d
   unfold lF;rw[aF d]
  refine Vp 0 l_ (hn_ [0,1,5] U) ⟨trivial,by rw[z,qtx1];rfl,U⟩
 obtain⟨ah,rfl,rfl⟩:=l;refine VB [(4,3)] U fun R a=>Ve 3 U<|Vb (PtrTo.blockT (h.m_.o) _ 1) U8<|D.call (jh _ p.n Y) U (.inr dc_) U6 (Rw _) fl_ fun aG _ aH _ ai=>C6 1 [0,1,5,6] a U ?_;obtain⟨g,rfl,rfl⟩:=ai;refine Vr (L':=[.arr (s_ g p.n p.n) 32 1 p.n ((List.replicate p.n (0:Rat)).map aQ).flatten]) (by rw[<- uy];rfl)<|Va 3 U fun R a=>Vb (PtrTo.blockT (h.m_.o) _ 1) U8<|Vc U6<|Vq h.O.m_ U10 om_ (show(t.others.map aW)[s]?=some (aW (t.oth s)) from fo I) fl_ fun aI aj=>Vb aj U8<|C6 1 [0,1,5,6,7] a U<|Va 2 U fun R a=>Vl (fA _ b p.n (t.oth s) t _ _ _ _ r h.m_) U7<|C6 1 [0,1,5,6,7,35] a U<|G.cut (fun fr K c f=>(True)/\fr=[(0,[],p_ b),(1,[],i_ s),(5,[],ae (qtx (lF t s))),(6,[],s_ g p.n p.n)]/\c=[.arr (s_ g p.n p.n) 32 1 p.n ((ryF t s p.n (lF t s) 0).map aQ).flatten]) ?_ (fun fr _ aJ f _ l=>?_)
 ·refine G.cd (fun A=>?_) fun A=>?_
  ·have q:t.oth s<p.n:=by
    have q:¬ p.n<=t.oth s:=by simpa using A
    omega
   refine Va 3 U fun R a=>VD (t.oth s*1) U10 w_ U2<|VG (j:=0) U11 (by show t.oth s*1+1<=_;rw[bV bK,RX];omega)<|Vf [0,1,5,6] a U<|Vr (L':=[.arr (s_ g p.n p.n) 32 1 p.n ((ryF t s p.n (lF t s) 0).map aQ).flatten]) (by rw[<- No q,<- bM bK _ (by rw[RX];exact q)];rfl)<|Vp 0 l_ (hn_ [0,1,5,6] U) ⟨trivial,U,U⟩
  have q:p.n<=t.oth s:=by simpa using A
  rw[JS (k:=lF t s) q];refine Vp 0 l_ (hn_ [0,1,5,6] U) ⟨trivial,U,U⟩
 obtain⟨ah,rfl,rfl⟩:=l;refine Va 3 U fun R a=>Vb (PtrTo.blockT (h.m_.o) _ 1) U8<|C6 2 [0,1,5,6,43,44,45] a U<|G.loop (fun fr K c f=>∃ (i:Nat),(i<=t.basic.length)/\fr=[(0,[],p_ b),(1,[],i_ s),(5,[],ae (qtx (lF t s))),(6,[],s_ g p.n p.n),(43,[],.slice A1 (t.basic.map aW).length J),(44,[],i_ (t.basic.map aW).length),(45,[],i_ i)]/\c=[.arr (s_ g p.n p.n) 32 1 p.n ((ryF t s p.n (lF t s) i).map aQ).flatten]/\f=t.basic.length-i) (hn_ [0,1,5,6,43,44,45] U) ⟨0,Rv _,U,U,U⟩ (fun fr aK aL m M l=>?_);obtain⟨i,hi,rfl,rfl,rfl⟩:=l;refine U1 1 [0,1,5,6,43,44,45,46] U<|G.cd (fun E=>?_) fun E=>?_
 ·have e:i<t.basic.length:=by
   have:=QL E;rw[au]at this;omega
  obtain⟨F,aN⟩:=mm h ok e;obtain⟨A5,c5,ak,aO,aP,_⟩:=id F;have N:=ka (ls:=t.lines) (ws:=r) (i:=i) om_ ad;rw[ak]at N F;refine Va 1 U fun R a=>Vq ac.m_ U10 om_ (show(t.basic.map aW)[i]?=some (aW (t.bas i)) from fo e) fl_ fun aR al=>Vb al U8<|C6 2 [0,1,5,6,8,9,43,44,45] a U<|Va 2 U fun R a=>Vl (fA _ b p.n (t.bas i) t _ _ _ _ r h.m_) U7<|C6 1 [0,1,5,6,8,9,43,44,45,53] a U<|G.cd (fun H=>?_) fun H=>?_
  ·have w:t.bas i<p.n:=by
    have aS:¬ p.n<=t.bas i:=by simpa using H
    omega
   refine Va 6 U fun R a=>Vb (PtrTo.blockT (h.m_.o) _ 1) U8<|Vc U6<|Vq h.L.m_ U10 om_ N fl_ fun aT am=>Wk am U10 fl_ fun aU an=>Vb an U8<|Vc U6<|Vq F.m_ U10 om_ (dO om_) fl_ fun aV ao=>Vb ao U8<|Vm (df _ Q.m_ (lF t s) ((t.line i).g s) 20 dc_ dc_ af (Z i e)) U7 fl_<|VD (t.bas i*1) U10 w_ U2<|VG (j:=0) U11 (by show t.bas i*1+1<=_;rw[bV bK,kT];omega)<|Vf [0,1,5,6,43,44,45] a U<|Vd fun R a=>Vh _ U U6<|C6 1 [0,1,5,6,43,44,45] a U<|Vr (L':=[.arr (s_ g p.n p.n) 32 1 p.n ((ryF t s p.n (lF t s) (i+1)).map aQ).flatten]) (by rw[<- Nn x I e w,<- bM bK _ (by rw[kT];exact w)];rfl)<|Vn (m':=t.basic.length-(i+1)) om_ M (hn_ [0,1,5,6,43,44,45] U) ⟨i+1,om_,U,U,U⟩
  have w:p.n<=t.bas i:=by simpa using H
  rw[JT e w];refine Vd fun R a=>Vh _ U U6<|C6 1 [0,1,5,6,43,44,45] a U<|Vn (m':=t.basic.length-(i+1)) om_ M (hn_ [0,1,5,6,43,44,45] U) ⟨i+1,om_,U,U,U⟩
 have e:i=t.basic.length:=by
  have:=Rt E;rw[au]at this;omega
 refine U1 2 [4] U<|Vo (VM U U ?_);exact⟨g,U,by rw[e,Np x]⟩
end Go.Proofs.YtfjcldheldflbaaGreatDoor
