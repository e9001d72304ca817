/- Laws that the proofs of this seat share, part 12. -/
import Derived.Test.YtfjcldheldflbaaGreatDoorG11
import Derived.Test.YtfjcldheldflbaaGreatDoorShelf
set_option maxHeartbeats 4000000
namespace Go.Proofs.YtfjcldheldflbaaGreatDoor
open Go.Proofs.Tryz
open Go Go.Jog
set_option maxRecDepth 100000
variable {C:Mem}{N b:Nat}{bf fs:List Rat}{i j:Nat}{k:Rat}{l:Lp.Line}{ls:List (Rat × Value)}{n:Nat}{o:Int}{p:Lp.Sys}{q:Nat}{r:List Str × Str}{rows:List (List Str × Str)}{s:Nat}{t:Lp.Tab}{v:Nat}{vs:List Value}{wB:Value}{wF:Nat->Value}{wL wO wW:Value}
def RowsT (C:Mem)(v:Value)(rows:List (List Str × Str)):Prop:=∃ vs:List Value,vs.length=rows.length/\(∀ (i:Nat)(w:Value)(r:List Str × Str),vs[i]?=some w->rows[i]?=some r->Sl C 1 w (r.1.map zI))/\Sl C 2 v (List.zipWith (fun w (r:List Str × Str)=>[w,af r.2]) vs rows)
theorem RowsT.mono {C D:Mem}{v:Value}{a:List (List Str × Str)}(h:RowsT C v a)(b:C.le D):RowsT D v a:=by
 obtain ⟨vs,h1,h2,h3⟩:=h;exact ⟨vs,h1,fun i w r c hr=>(h2 i w r c hr).mono b,h3.mono b⟩
theorem RowsT.m_ {D:Mem}{v:Value}(h:RowsT C v rows)(a:C.le D:=by exact mup):RowsT D v rows:=RowsT.mono h a
theorem EQ {w:Value}(a:vs[i]?=some w)(b:rows[i]?=some r):(List.zipWith (fun w (r:List Str × Str)=>[w,af r.2]) vs rows)[i]?=some [w,af r.2]:=by
 rw [List.getElem?_zipWith,a,b]
theorem tL (h:vs.length=rows.length):(List.zipWith (fun w (r:List Str × Str)=>[w,af r.2]) vs rows).length=rows.length:=by simp [h]
def FK (n:Int)(r:List Str × Str):Int:=if jn n r.1≠0 then jn n r.1 else oC (aW r.2)
def ud (n:Int):List (List Str × Str)->Int
 | []=>0
 | r::l=>if FK n r≠0 then FK n r else ud n l
def Iy (n:Int)(rows:List (List Str × Str))(obj:List Str):Int:=if n<0∨60<n then 3 else if 300<rows.length then 4 else if jn n obj≠0 then jn n obj else ud n rows
def Qx (rows:List (List Str × Str)):Prop:=∀ r∈rows,(∀ s∈r.1,s.length<=999998)/\r.2.length<=999998
theorem xf (C:Mem)(p:Tabs C)(n:Int)(E F:Value)(a:List (List Str × Str))(c:List Str)(M:RowsT C E a)(q:Sl C 1 F (c.map zI))(H:Qx a)(N:∀ s∈c,s.length<=999998) :
  Gives cx.P 73 [.agg ⟨[.int .i64 n,E,F]⟩] C (.int .i64 (Iy n a c)):=by
 obtain ⟨vs,O,Q,t⟩:=M;obtain ⟨S,c0,rfl,T,ae,_⟩:=id t;obtain ⟨A1,c1,rfl,U,af,_⟩:=id q;have ag:maxLen<=9223372036854775807:=by simp [maxLen]
 simp only [tL O,ar] at t q T U ⊢;refine Ur func73 48 U3 fun w0=>Ul fun R b=>UC U6 fun V=>C6 1 [1] b Z<|G.freeze 0 Z fun _ _ d=>Ui 1 Z fun R b=>Uj (bkT d 1) U8<|Um 3 Z<|UM U6 (fun _=>PtrTo.blockT (Mem.get d mup) _ 1) U3<|Uk U6<|UN U8<|C6 1 [1,7] b Z<|G.cd (fun u=>?_) fun u=>?_
 ·have f:n<0∨60<n:=by
   simp only [SA,QK] at u;omega
  exact Uh 1 [2] Z<|Up U2<|⟨by unfold Iy;rw [aJ f],Z⟩
 have f:¬ (n<0∨60<n):=by
  simp only [Sr,Q7] at u;omega
 refine Ui 1 Z fun R b=>Uj (bkT d 1) U8<|C6 3 [1,16] b Z<|G.cd (fun v=>?_) fun v=>?_
 ·have g:300<a.length:=by
   have:=PZ v;omega
  exact Uh 1 [2] Z<|Up U2<|⟨by unfold Iy;rw [aF f,aJ g],Z⟩
 have g:¬ 300<a.length:=by
  have:=QF v;omega
 refine Ui 1 Z fun R b=>Uj (bkT d 1) U8<|Uk U6<|Uj (bkT d 1) U8<|Ut (BM _ p.m_ _ n c q.m_ N) U7<|C6 1 [1,3] b Z<|Uh 2 [1,3,27] Z<|G.cd (fun x=>?_) fun x=>?_
 ·have y:jn n c≠0:=by simpa using x
  exact Uh 2 [2] Z<|Up U2<|⟨by unfold Iy;rw [aF f,aF g,aJ y],Z⟩
 have y:¬ jn n c≠0:=by simpa using x
 have z:Iy n a c=ud n a:=by unfold Iy;rw [aF f,aF g,aF y]
 refine Ui 1 Z fun R b=>Uj (bkT d 1) U8<|C6 2 [1,30,31,32] b Z<|G.loop (fun fr C' W X=>∃ (i:Nat),(i<=a.length/\ud n a=ud n (a.drop i))/\fr=[(1,[],.pointer (some ⟨V,0,none⟩)),(30,[],.slice S a.length c0),(31,[],.int .i64 a.length),(32,[],.int .i64 i)]/\W=[]/\X=a.length-i) (hn_ [1,30,31,32] Z) ⟨0,⟨QH _,Z⟩,Z,Z,Z⟩ (fun fr ah ai m _ Y=>?_);obtain ⟨i,⟨hi,e⟩,rfl,rfl,rfl⟩:=Y;refine Uh 1 [1,30,31,32,33] Z<|G.cd (fun A=>?_) fun A=>?_
 ·have h:i<a.length:=by
   have:=PZ A;omega
  obtain ⟨r,k⟩:∃ r,a[i]?=some r:=⟨a[i],aj h⟩;obtain ⟨w,I⟩:∃ w,vs[i]?=some w:=⟨vs[i]'om_,aj _⟩;have J:=aX k;have K:=Q i w r I k;obtain ⟨Aw,cw,rfl,_⟩:=id K;have aa:a.drop i=r::a.drop (i+1):=Q0 h |>.trans (by rw [(aL.1 k).2]);rw [aa] at e;simp only [ud] at e;refine Ul fun R b=>Uy t.m_ U10 om_ (EQ I k) fl_ fun ak ab=>Uj ab U8<|UB U5 fun b5=>Us (j:=0) U12<|Un [1,5,30,31,32] b Z<|G.freeze 0 Z fun _ _ L=>Ui 1 Z fun R b=>Uj (bkT L 1) U8<|Uk U6<|Uj (bkT d 1) U8<|Ut (BM _ p.m_ _ n r.1 K.m_ (H r J).1) U7<|C6 1 [1,5,6,30,31,32] b Z<|Uh 2 [1,5,6,30,31,32,42] Z<|G.cd (fun B=>?_) fun B=>?_
  ·have l:jn n r.1≠0:=by simpa using B
   have o:FK n r=jn n r.1:=by unfold FK;rw [aJ l]
   exact Uh 2 [2] Z<|Up U2<|⟨by rw [z,e,o,aJ l],Z⟩
  have l:¬ jn n r.1≠0:=by simpa using B
  have o:FK n r=oC (aW r.2):=by unfold FK;rw [aF l]
  refine Ui 1 Z fun R b=>Uj (bkT L 1) U8<|Ut (pD _ p.m_ r.2 (H r J).2) U7<|Un [1,30,31,32,46] b Z<|G.cd (fun D=>?_) fun D=>?_
  ·have ac:aW r.2=false:=by simpa using D
   exact Uh 1 [2] Z<|Up U2<|⟨by rw [z,e,o,ac];rfl,Z⟩
  have ad:aW r.2=true:=by simpa using D
  refine Ul fun R b=>Uq _ Z U6<|C6 1 [1,30,31,32] b Z<|Uw (m':=a.length-(i+1)) om_ mup (hn_ [1,30,31,32] Z) ⟨i+1,⟨by omega,by rw [e,o,ad];rfl⟩,Z,Z,Z⟩
 have h:i=a.length:=by
  have:=QF A;omega
 exact Uh 1 [2] Z<|Up U2<|⟨by rw [z,e,h,RN];rfl,Z⟩
theorem uy {a b:Rat}{k m:Nat}(c:QB k a)(d:QB m b):QB (k+m) (a*b):=by
 rw [gC];refine ig (Nat.mul_ne_zero a.den_nz b.den_nz) ?_ ?_
 ·rw [R8,S9];exact Si c.1 d.1
 rw [S9];exact Si c.2 d.2
def fW (r:List Rat × Rat):List Str × Str:=(r.1.map qtx,qtx r.2)
structure RowsQ (n:Nat)(rs:List (List Rat × Rat)):Prop where
 l:∀ r∈rs,r.1.length=n
 q:∀ r∈rs,(∀ x∈r.1,QB 23 x)/\QB 23 r.2
 m:rs.length<=150
theorem Pq {l:List Rat}(h:∀ x∈l,QB 23 x):QB 23 (l.getD j 0):=by
 rw [am];cases e:l[j]? with
 | none=>exact ⟨by decide,by decide⟩
 | some x=>exact h x (aX e)
theorem ut (q:Rat):decide (eH q.num<0)=decide (q<0):=by
 have h:q.num<0 ↔ q<0:=by rw [Rat.lt_iff];simp
 rw [Ry];unfold eH;by_cases h1:q.num<0
 ·rw [aJ h1];exact ⟨fun _=>h.1 h1,fun _=>by decide⟩
 rw [aF h1];exact ⟨fun h2=>by split at h2 <;> exact absurd h2 dc_,fun h2=>absurd (h.2 h2) h1⟩
open Classical in
theorem tm (b:Bool):oC b=0/\b=true∨oC b=2/\b=false:=by cases b <;> simp [oC]
theorem bJ:∀ q:Rat,(aQ q).length=1:=fun _=>rfl
open Classical in
theorem F1 (q:Rat):decide (eH q.num ≥ 0)=decide (0<=q):=by
 have h:=ut q;have h2:decide (0<=q)=!decide (q<0):=by
  rw [<- decide_not,Ry];grind
 rw [h2,<- h,<- decide_not,Ry];omega
theorem MV:qtx 0=[48]:=by decide +kernel
theorem Qq:aQ 0=[Value.string ⟨#[48]⟩]:=by
 show [af (qtx 0)]=_;rw [MV];rfl
def zF (fs:List Rat)(s q:Nat):Rat:=if q=s then 0 else fs.getD q 0
def kM (fs bf:List Rat)(s:Nat)(k:Rat)(j:Nat):List Rat:=(List.range fs.length).map fun q=>zF fs s q+(if q<j then k*bf.getD q 0 else 0)
theorem gZ :(kM fs bf s k j).length=fs.length:=by simp [kM]
theorem wU :fs.set s 0=kM fs bf s k 0:=by
 refine List.ext_getElem? fun q=>?_;unfold kM;rw [List.getElem?_set,QD];by_cases a:q<fs.length
 ·rw [Rc a];simp only [Sf,Nat.not_lt_zero,R4];unfold zF;split
  ·next e=>rw [aJ om_,aJ e.symm];rw [Rat.add_zero]
  next e=>rw [aF (fun b=>e b.symm),am,aj a];simp only [RT];congr 1;grind
 rw [QJ om_,QJ ap];split
 ·split
  ·omega
  rfl
 rfl
theorem ul (h:q<fs.length):(kM fs bf s k j)[q]?=some (zF fs s q+(if q<j then k*bf.getD q 0 else 0)):=by
 unfold kM;rw [QD,Rc h];rfl
theorem BH (h:j<fs.length):(kM fs bf s k j).set j (zF fs s j+k*bf.getD j 0)=kM fs bf s k (j+1):=by
 refine List.ext_getElem? fun q=>?_;rw [List.getElem?_set,gZ];by_cases a:q<fs.length
 ·rw [ul a,ul a];by_cases e:j=q
  ·subst e;rw [aJ rfl,aJ a,aJ om_]
  rw [aF e];by_cases h1:q<j
  ·rw [aJ h1,aJ om_]
  rw [aF h1,aF om_]
 rw [QJ (by rw [gZ];omega),QJ (by rw [gZ];omega)];split
 ·exact absurd om_ a
 rfl
theorem wX (a:bf.getD j 0=0):kM fs bf s k j=kM fs bf s k (j+1):=by
 refine List.map_congr_left fun q _=>?_;by_cases e:q=j
 ·subst e;rw [aF om_,aJ om_,a];grind
 by_cases h1:q<j
 ·rw [aJ h1,aJ om_]
 rw [aF h1,aF om_]
theorem wV :kM fs bf s 0 j=kM fs bf s 0 0:=by
 refine List.map_congr_left fun q _=>?_;split <;> split <;> grind
theorem FY {c bc:Rat}(_b:s<fs.length):Lp.putL ⟨c,fs⟩ s ⟨bc,bf⟩=⟨c+fs.getD s 0*bc,kM fs bf s (fs.getD s 0) fs.length⟩:=by
 unfold Lp.putL;congr 1;refine List.map_congr_left fun q a=>?_;rw [aJ (QU.1 a)];rfl
theorem Oq (a:∀ x∈fs,QB 50 x)(b:q<fs.length):QB 50 (zF fs s q):=by
 unfold zF;split
 ·exact ⟨by decide,by decide⟩
 rw [am,aj b];exact a _ (Rv _)
def bE (p:Rat × Value):List Value:=[af (qtx p.1),p.2]
theorem gJ:∀ p,(bE p).length=2:=fun _=>rfl
theorem ot {p:Rat × Value}(h:ls[i]?=some p):(ls.map bE).flatten.drop (i*2)=af (qtx p.1)::p.2::(ls.map bE).flatten.drop (i*2+2):=by
 obtain ⟨h1,h2⟩:=aL.1 h;have e:=(cG gJ ls i).2;have a:=(cG gJ ls (i+1)).2;rw [Sd] at a;rw [e,a,Q0 h1,h2];rfl
theorem Jb {p:Rat × Value}(h:ls[i]?=some p):ls.set i p=ls:=by
 refine List.ext_getElem? fun j=>?_;rw [List.getElem?_set];split
 ·next e=>subst e;rw [aJ (aL.1 h).1,h]
 rfl
theorem DV {p:Rat × Value}(h:ls[i]?=some p):((ls.map bE).flatten.drop (i*2)).take 1=[af (qtx p.1)]:=by rw [ot h];rfl
theorem jV {p:Rat × Value}(h:ls[i]?=some p):((ls.map bE).flatten.drop (i*2+1)).take 1=[p.2]:=by rw [<- List.drop_drop,ot h];rfl
theorem zo {p:Rat × Value}(h:ls[i]?=some p)(c:Rat):aD (ls.map bE).flatten [af (qtx c)] (i*2)=((ls.set i (c,p.2)).map bE).flatten:=by
 rw [<- bK gJ (c,p.2) (aL.1 h).1];unfold aD;have:(ls.map bE).flatten.drop (i*2+1)=p.2::(ls.map bE).flatten.drop (i*2+2):=by rw [<- List.drop_drop,ot h];rfl
 show _++[_]++List.drop (i*2+1) _=_++[_,_]++List.drop (i*2+2) _;rw [this];simp
theorem MX (C:Mem)(t:Tabs C)(g e f n s:Nat)(i l o p z:Value)(b d:List Rat)(c h:Rat)(ah:b.length=n)(ak:d.length=n)(hs:s<n)(q:Sl C 1 z (d.map aQ))(Q:QB 50 c)(A:∀ x∈b,QB 50 x)(B:QB 50 h)(S:∀ x∈d,QB 50 x) :
  Jog.Fn cx.P 262 [.pointer (some ⟨g,4,none⟩),.int .i64 s,.agg ⟨[af (qtx h),z]⟩] C [.obj g (.cells ⟨[i,l,o,p,af (qtx c),.slice (some ⟨e,0,none⟩) n f]⟩ 231 (0,0)),.arr (.slice (some ⟨e,0,none⟩) n f) 32 1 n (b.map aQ).flatten]
   fun u _ r=>u=.tuple #[]/\r=[.obj g (.cells ⟨[i,l,o,p,af (qtx (c+b.getD s 0*h)),.slice (some ⟨e,0,none⟩) n f]⟩ 231 (0,0)),.arr (.slice (some ⟨e,0,none⟩) n f) 32 1 n ((kM b d s (b.getD s 0) n).map aQ).flatten]:=by
 obtain ⟨T,U,rfl,V,al,_⟩:=id q;simp only [ar] at V q ⊢;have D:s<b.length:=by omega
 have an:maxLen<=9223372036854775807:=by simp [maxLen]
 obtain ⟨k,E⟩:∃ k,b.getD s 0=k:=⟨_,rfl⟩;have F:b[s]?=some k:=by rw [<- E,am,aj D];rfl
 have v:QB 50 k:=A k (aX F);rw [E];refine Ur func262 64 U3 fun w0=>?_;refine Uz (L':=[.obj g (.cells ⟨[i,l,o,p,af (qtx c),.slice (some ⟨e,0,none⟩) n f]⟩ 231 (0,0)),.arr (.slice (some ⟨e,0,none⟩) n f) 32 1 n (b.map aQ).flatten]) Z ?_;refine Ul fun R a=>?_;refine UC U6 (fun b5=>?_);refine Un [0,1,5] a Z ?_;clear a R;refine G.freeze 0 Z (fun _ _ H=>?_);refine Ui 3 Z fun R a=>?_;refine Uo ag U9 ?_;refine Uk U6 ?_;refine UL (s*1) U10 ai U2 ?_;refine U1 ae U6 (fun _=>(by rw [eg bJ F];rfl)) U2 ?_;refine C6 1 [0,1,5,6] a Z ?_;clear a R;refine Ui 3 Z fun R a=>?_;refine Uo ag U9 ?_;refine Uk U6 ?_;refine UL (s*1) U10 ai U2 ?_;refine UO (j:=1) U11 (by show s*1+1<=_;rw [bR bJ];omega) ?_;refine Un [0,5,6] a Z ?_;clear a R;refine G.perm (L':=[.obj g (.cells ⟨[i,l,o,p,af (qtx c),.slice (some ⟨e,0,none⟩) n f]⟩ 231 (0,0)),.arr (.slice (some ⟨e,0,none⟩) n f) 32 1 n ((kM b d s k 0).map aQ).flatten]) (by rw [<- wU,<- bK bJ 0 D,Qq];exact List.Perm.swap _ _ _) ?_;refine Uh 2 [0,5,6,23] Z ?_;refine G.cd (fun I=>?_) fun I=>?_
 ·have W:qtx k=[48]:=by simpa using I
  have X:k=0:=lO (W.trans (by decide +kernel:([48]:List UInt8)=qtx 0));subst X;have Y:c+0*h=c:=by grind
  refine Uz (L':=[.obj g (.cells ⟨[i,l,o,p,af (qtx (c+0*h)),.slice (some ⟨e,0,none⟩) n f]⟩ 231 (0,0)),.arr (.slice (some ⟨e,0,none⟩) n f) 32 1 n ((kM b d s 0 n).map aQ).flatten]) (by rw [Y,wV (j:=n)]) ?_;refine Uv (Wk Z  ?_);exact ⟨Z,Z⟩
 refine UD [0,1,2,3,4,5,6,7,8,9,10,11,12] [(8,1),(9,1)] Z kr_ (fun R q a=>?_);refine Um 4 Z ?_;refine Uo ag U9 ?_;refine Um 2 Z ?_;refine Uj (bkT H 1) U8 ?_;refine UG (fun _=>(dm _ t.m_ k h 50 dc_ dc_ v B)) U9 ?_;refine UG (fun _=>(ni _ t.m_ c (k*h) 100 dc_ dc_ (Q.le dc_) ((uy v B).le dc_))) U9 ?_;refine Um 2 Z ?_;refine Us (j:=0) U12 ?_;refine Un [0,5,6] a Z ?_;clear a q R;refine Ui 1 Z fun R a=>?_;refine Uj (bkT H 1) U8 ?_;refine C6 2 [0,6,37,38,39] a Z ?_;clear a R;refine G.loop (fun fr C' r μ=>∃ (j:Nat),(j<=n)/\fr=[(0,[],.pointer (some ⟨g,4,none⟩)),(6,[],af (qtx k)),(37,[],.slice T d.length U),(38,[],.int .i64 d.length),(39,[],.int .i64 j)]/\r=[.obj g (.cells ⟨[i,l,o,p,af (qtx (c+k*h)),.slice (some ⟨e,0,none⟩) n f]⟩ 231 (0,0)),.arr (.slice (some ⟨e,0,none⟩) n f) 32 1 n ((kM b d s k j).map aQ).flatten]/\μ=n-j) (hn_ [0,6,37,38,39] Z) ⟨0,QH _,Z,Z,Z⟩ (fun fr ao ap m J hI=>?_);obtain ⟨j,hj,rfl,rfl,rfl⟩:=hI;refine Uh 1 [0,6,37,38,39,40] Z ?_;refine G.cd (fun w=>?_) fun w=>?_
 ·have K:j<n:=by
   have:=PZ w;omega
  obtain ⟨x,y⟩:∃ x,d[j]?=some x:=⟨d[j]'om_,aj om_⟩;have L:QB 50 x:=S x (aX y);have M:d.getD j 0=x:=by rw [am,y];rfl
  have aa:(kM b d s k j)[j]?=some (zF b s j):=by
   rw [ul om_,aF (Nat.lt_irrefl _)];congr 1;grind
  have qz:=Oq (s:=s) A (show j<b.length by omega);have N:=BH (bf:=d) (s:=s) (k:=k) (show j<b.length by omega);rw [M] at N;refine Ui 1 Z fun R a=>?_;refine Uy q.m_ U10 om_ (kN y) fl_ (fun aq ab=>?_);refine Uj ab U8 ?_;refine C6 2 [0,6,7,8,37,38,39] a Z ?_;clear a R;refine Uh 2 [0,6,7,8,37,38,39,45] Z ?_;refine G.cd (fun O=>?_) fun O=>?_
  ·refine UD [0,1,2,3,4,5,6,7,8,9,10,11,12,13,14,15,16,17] [(14,1),(15,1)] Z kr_ (fun R q a=>?_);refine Um 3 Z ?_;refine Uo ag U9 ?_;refine Um 4 Z ?_;refine Uo ag U9 ?_;refine Uk U6 ?_;refine UL (j*1) U10 ai U2 ?_;refine U1 ae U6 (fun _=>(by rw [eg bJ aa];rfl)) U2 ?_;refine Um 2 Z ?_;refine UG (fun _=>(dm _ t.m_ k x 50 dc_ dc_ v L)) U9 ?_;refine UG (fun _=>(ni _ t.m_ (zF b s j) (k*x) 100 dc_ dc_ (qz.le dc_) ((uy v L).le dc_))) U9 ?_;refine UL (j*1) U10 ai U2 ?_;refine UO (j:=1) U11 (by show j*1+1<=_;rw [bR bJ,gZ];omega) ?_;refine Un [0,6,37,38,39] a Z ?_;clear a q R;refine Ul fun R a=>?_;refine Uq _ Z U6 ?_;refine C6 1 [0,6,37,38,39] a Z ?_;clear a R;refine G.perm (L':=[.obj g (.cells ⟨[i,l,o,p,af (qtx (c+k*h)),.slice (some ⟨e,0,none⟩) n f]⟩ 231 (0,0)),.arr (.slice (some ⟨e,0,none⟩) n f) 32 1 n ((kM b d s k (j+1)).map aQ).flatten]) (by rw [<- N,<- bK bJ _ (by rw [gZ];omega)];exact List.Perm.swap _ _ _) ?_;refine Uw (m':=n-(j+1)) om_ J (hn_ [0,6,37,38,39] Z) ⟨j+1,om_,Z,Z,Z⟩
  have ac:x=0:=by
   have ad:qtx x=[48]:=by simpa using O
   exact lO (ad.trans (by decide +kernel:([48]:List UInt8)=qtx 0))
  rw [wX (j:=j) (by rw [M];exact ac)];refine Ul fun R a=>?_;refine Uq _ Z U6 ?_;refine C6 1 [0,6,37,38,39] a Z ?_;clear a R;refine Uw (m':=n-(j+1)) om_ J (hn_ [0,6,37,38,39] Z) ⟨j+1,om_,Z,Z,Z⟩
 have K:j=n:=by
  have:=QF w;omega
 rw [K];refine Vv Z ?_;exact ⟨Z,Z⟩
theorem MY (C:Mem)(t:Tabs C)(l m o i e f n s:Nat)(z:Value)(h:List (Rat × Value))(b d:List Rat)(c g:Rat)(ak:h.length=m)(q:h[i]?=some (c,.slice (some ⟨e,0,none⟩) n f))(al:b.length=n)(an:d.length=n)(hs:s<n)(r:Sl C 1 z (d.map aQ))(S:QB 50 c)(A:∀ x∈b,QB 50 x)(B:QB 50 g)(T:∀ x∈d,QB 50 x) :
  Jog.Fn cx.P 262 [.pointer (some ⟨l,i*2,none⟩),.int .i64 s,.agg ⟨[af (qtx g),z]⟩] C [.arr (.slice (some ⟨l,0,none⟩) m o) 228 2 m (h.map bE).flatten,.arr (.slice (some ⟨e,0,none⟩) n f) 32 1 n (b.map aQ).flatten]
   fun u _ p=>u=.tuple #[]/\p=[.arr (.slice (some ⟨l,0,none⟩) m o) 228 2 m ((h.set i (c+b.getD s 0*g,.slice (some ⟨e,0,none⟩) n f)).map bE).flatten,.arr (.slice (some ⟨e,0,none⟩) n f) 32 1 n ((kM b d s (b.getD s 0) n).map aQ).flatten]:=by
 obtain ⟨U,V,rfl,W,ao,_⟩:=id r;simp only [ar] at W r ⊢;have D:s<b.length:=by omega
 have ap:maxLen<=9223372036854775807:=by simp [maxLen]
 obtain ⟨k,E⟩:∃ k,b.getD s 0=k:=⟨_,rfl⟩;have F:b[s]?=some k:=by rw [<- E,am,aj D];rfl
 have v:QB 50 k:=A k (aX F);rw [E];refine Ur func262 64 U3 fun w0=>?_;refine Uz (L':=[.arr (.slice (some ⟨l,0,none⟩) m o) 228 2 m (h.map bE).flatten,.arr (.slice (some ⟨e,0,none⟩) n f) 32 1 n (b.map aQ).flatten]) Z ?_;refine Ul fun R a=>?_;refine UC U6 (fun b5=>?_);refine Un [0,1,5] a Z ?_;clear a R;refine G.freeze 0 Z (fun _ _ H=>?_);refine Ui 3 Z fun R a=>?_;refine U1 ag U6 (fun _=>(by rw [jV q];rfl)) U2 ?_;refine Uk U6 ?_;refine UL (s*1) U10 ai U2 ?_;refine U1 ae U6 (fun _=>(by rw [eg bJ F];rfl)) U2 ?_;refine C6 1 [0,1,5,6] a Z ?_;clear a R;refine Ui 3 Z fun R a=>?_;refine U1 ag U6 (fun _=>(by rw [jV q];rfl)) U2 ?_;refine Uk U6 ?_;refine UL (s*1) U10 ai U2 ?_;refine UO (j:=1) U11 (by show s*1+1<=_;rw [bR bJ];omega) ?_;refine Un [0,5,6] a Z ?_;clear a R;refine G.perm (L':=[.arr (.slice (some ⟨l,0,none⟩) m o) 228 2 m (h.map bE).flatten,.arr (.slice (some ⟨e,0,none⟩) n f) 32 1 n ((kM b d s k 0).map aQ).flatten]) (by rw [<- wU,<- bK bJ 0 D,Qq];exact List.Perm.swap _ _ _) ?_;refine Uh 2 [0,5,6,23] Z ?_;refine G.cd (fun I=>?_) fun I=>?_
 ·have X:qtx k=[48]:=by simpa using I
  have Y:k=0:=lO (X.trans (by decide +kernel:([48]:List UInt8)=qtx 0));subst Y;have aa:c+0*g=c:=by grind
  refine Uz (L':=[.arr (.slice (some ⟨l,0,none⟩) m o) 228 2 m ((h.set i (c+0*g,.slice (some ⟨e,0,none⟩) n f)).map bE).flatten,.arr (.slice (some ⟨e,0,none⟩) n f) 32 1 n ((kM b d s 0 n).map aQ).flatten]) (by rw [aa,wV (j:=n),Jb q]) ?_;refine Uv (Wk Z  ?_);exact ⟨Z,Z⟩
 refine UD [0,1,2,3,4,5,6,7,8,9,10,11,12] [(8,1),(9,1)] Z kr_ (fun R r a=>?_);refine Um 4 Z ?_;refine U1 ag U6 (fun _=>(by rw [DV q];rfl)) U2 ?_;refine Um 2 Z ?_;refine Uj (bkT H 1) U8 ?_;refine UG (fun _=>(dm _ t.m_ k g 50 dc_ dc_ v B)) U9 ?_;refine UG (fun _=>(ni _ t.m_ c (k*g) 100 dc_ dc_ (S.le dc_) ((uy v B).le dc_))) U9 ?_;refine Um 2 Z ?_;refine UO (j:=0) U11 (by show i*2+1<=_;rw [bR gJ];have:=(aL.1 q).1;omega) ?_;refine Un [0,5,6] a Z ?_;clear a r R;refine Uz (L':=[.arr (.slice (some ⟨l,0,none⟩) m o) 228 2 m ((h.set i (c+k*g,.slice (some ⟨e,0,none⟩) n f)).map bE).flatten,.arr (.slice (some ⟨e,0,none⟩) n f) 32 1 n ((kM b d s k 0).map aQ).flatten]) (by rw [<- zo q];rfl) ?_;have J:(h.set i (c+k*g,Value.slice (some ⟨e,0,none⟩) n f))[i]?=some (c+k*g,Value.slice (some ⟨e,0,none⟩) n f):=Tv (aL.1 q).1;refine Ui 1 Z fun R a=>?_;refine Uj (bkT H 1) U8 ?_;refine C6 2 [0,6,37,38,39] a Z ?_;clear a R;refine G.loop (fun fr C' p μ=>∃ (j:Nat),(j<=n)/\fr=[(0,[],.pointer (some ⟨l,i*2,none⟩)),(6,[],af (qtx k)),(37,[],.slice U d.length V),(38,[],.int .i64 d.length),(39,[],.int .i64 j)]/\p=[.arr (.slice (some ⟨l,0,none⟩) m o) 228 2 m ((h.set i (c+k*g,.slice (some ⟨e,0,none⟩) n f)).map bE).flatten,.arr (.slice (some ⟨e,0,none⟩) n f) 32 1 n ((kM b d s k j).map aQ).flatten]/\μ=n-j) (hn_ [0,6,37,38,39] Z) ⟨0,QH _,Z,Z,Z⟩ (fun fr aq au m K hI=>?_);obtain ⟨j,hj,rfl,rfl,rfl⟩:=hI;refine Uh 1 [0,6,37,38,39,40] Z ?_;refine G.cd (fun w=>?_) fun w=>?_
 ·have L:j<n:=by
   have:=PZ w;omega
  obtain ⟨x,y⟩:∃ x,d[j]?=some x:=⟨d[j]'om_,aj om_⟩;have M:QB 50 x:=T x (aX y);have N:d.getD j 0=x:=by rw [am,y];rfl
  have ab:(kM b d s k j)[j]?=some (zF b s j):=by
   rw [ul om_,aF (Nat.lt_irrefl _)];congr 1;grind
  have qz:=Oq (s:=s) A (show j<b.length by omega);have O:=BH (bf:=d) (s:=s) (k:=k) (show j<b.length by omega);rw [N] at O;refine Ui 1 Z fun R a=>?_;refine Uy r.m_ U10 om_ (kN y) fl_ (fun av ac=>?_);refine Uj ac U8 ?_;refine C6 2 [0,6,7,8,37,38,39] a Z ?_;clear a R;refine Uh 2 [0,6,7,8,37,38,39,45] Z ?_;refine G.cd (fun Q=>?_) fun Q=>?_
  ·refine UD [0,1,2,3,4,5,6,7,8,9,10,11,12,13,14,15,16,17] [(14,1),(15,1)] Z kr_ (fun R r a=>?_);refine Um 3 Z ?_;refine U1 ag U6 (fun _=>(by rw [jV J];rfl)) U2 ?_;refine Um 4 Z ?_;refine U1 ag U6 (fun _=>(by rw [jV J];rfl)) U2 ?_;refine Uk U6 ?_;refine UL (j*1) U10 ai U2 ?_;refine U1 ae U6 (fun _=>(by rw [eg bJ ab];rfl)) U2 ?_;refine Um 2 Z ?_;refine UG (fun _=>(dm _ t.m_ k x 50 dc_ dc_ v M)) U9 ?_;refine UG (fun _=>(ni _ t.m_ (zF b s j) (k*x) 100 dc_ dc_ (qz.le dc_) ((uy v M).le dc_))) U9 ?_;refine UL (j*1) U10 ai U2 ?_;refine UO (j:=1) U11 (by show j*1+1<=_;rw [bR bJ,gZ];omega) ?_;refine Un [0,6,37,38,39] a Z ?_;clear a r R;refine Ul fun R a=>?_;refine Uq _ Z U6 ?_;refine C6 1 [0,6,37,38,39] a Z ?_;clear a R;refine G.perm (L':=[.arr (.slice (some ⟨l,0,none⟩) m o) 228 2 m ((h.set i (c+k*g,.slice (some ⟨e,0,none⟩) n f)).map bE).flatten,.arr (.slice (some ⟨e,0,none⟩) n f) 32 1 n ((kM b d s k (j+1)).map aQ).flatten]) (by rw [<- O,<- bK bJ _ (by rw [gZ];omega)];exact List.Perm.swap _ _ _) ?_;refine Uw (m':=n-(j+1)) om_ K (hn_ [0,6,37,38,39] Z) ⟨j+1,om_,Z,Z,Z⟩
  have ad:x=0:=by
   have ah:qtx x=[48]:=by simpa using Q
   exact lO (ah.trans (by decide +kernel:([48]:List UInt8)=qtx 0))
  rw [wX (j:=j) (by rw [N];exact ad)];refine Ul fun R a=>?_;refine Uq _ Z U6 ?_;refine C6 1 [0,6,37,38,39] a Z ?_;clear a R;refine Uw (m':=n-(j+1)) om_ K (hn_ [0,6,37,38,39] Z) ⟨j+1,om_,Z,Z,Z⟩
 have L:j=n:=by
  have:=QF w;omega
 rw [L];refine Vv Z ?_;exact ⟨Z,Z⟩
theorem sD {n:Int}{l:List Str}:jn n l=0 ↔ (l.length:Int)=n/\l.all aW=true:=by
 unfold jn;by_cases h:(l.length:Int)=n
 ·rw [aJ h];rcases tm (l.all aW) with ⟨h1,h2⟩ | ⟨h1,h2⟩
  ·rw [h1];exact ⟨fun _=>⟨h,h2⟩,fun _=>rfl⟩
  rw [h1,h2];exact ⟨fun h=>(by cases h),fun h=>(by cases h.2)⟩
 rw [aF h];exact ⟨fun h=>(by cases h),fun h2=>absurd h2.1 h⟩
theorem FJ {n:Int}:FK n r=0 ↔ jn n r.1=0/\aW r.2=true:=by
 unfold FK;by_cases h:jn n r.1=0
 ·rw [aF (fun a=>a h)];rcases tm (aW r.2) with ⟨h1,h2⟩ | ⟨h1,h2⟩
  ·rw [h1];exact ⟨fun _=>⟨h,h2⟩,fun _=>rfl⟩
  rw [h1,h2];exact ⟨fun h=>(by cases h),fun h=>(by cases h.2)⟩
 rw [aJ h];exact ⟨fun h2=>absurd h2 h,fun h2=>absurd h2.1 h⟩
theorem uC {l:List Nat}{x:Nat}(h:l[i]?=some x):(l.map aT)[i]?=some (aT x):=by rw [QD,h];rfl
theorem xv {l:List Nat}{q:Nat->Prop}(h:Lp.LeastR l q n o):o=-1∨∃ i:Nat,o=i/\i<n:=by
 cases h with
 | none _=>exact .inl rfl
 | some i a _ _=>exact .inr ⟨i,rfl,a⟩
theorem ou (C:Mem)(v:Value)(l:List Nat)(g:Nat)(f:List Value)(q:Nat->Bool)(d:Sl C 1 v (l.map aT))(_O:Jog.Enters cx.P g=true)
  (E:∀ i,i<l.length->∀ D:Mem,C.le D->Gives cx.P g (.int .i64 i::f) D (.bool (q i))) :
  Pur cx.P 206 [v,.func (.func g) #[] ⟨f⟩] C fun u _=>∃ o:Int,u=.int .i64 o/\Lp.LeastR l (fun i=>q i=true) l.length o:=by
 obtain ⟨s,c0,rfl,F,Q,_⟩:=id d;have S:maxLen<=9223372036854775807:=by simp [maxLen]
 simp only [ar] at d F ⊢;refine Ur func206 33 U3 fun w0=>Uh 1 [0,1] Z<|Uh 1 [0,1,5] Z<|Uh 3 [0,1,5,8,9,10] Z<|G.loop (fun fr T H I=>∃ (i:Nat)(o:Int),(i<=l.length/\Lp.LeastR l (fun i=>q i=true) i o)/\fr=[(0,[],.slice s l.length c0),(1,[],.func (.func g) #[] ⟨f⟩),(5,[],.int .i64 o),(8,[],.slice s l.length c0),(9,[],.int .i64 l.length),(10,[],.int .i64 i)]/\H=[]/\I=l.length-i) (hn_ [0,1,5,8,9,10] Z) ⟨0, -1,⟨QH _,.none fun j J=>absurd J (Nat.not_lt_zero _)⟩,Z,Z,Z⟩ (fun fr U V m t K=>?_);obtain ⟨i,o,⟨W,a⟩,rfl,rfl,rfl⟩:=K;refine Uh 1 [0,1,5,8,9,10,11] Z<|G.cd (fun k=>?_) fun k=>?_
 ·have e:i<l.length:=by
   have:=PZ k;omega
  obtain ⟨x,w⟩:∃ x,l[i]?=some x:=⟨l[i],aj e⟩;have y:l.getD i 0=x:=by rw [am,w];rfl
  have n:=xv a;have L:¬ o<0->(l.map aT)[o.toNat]?=some (aT (l.getD o.toNat 0)):=fun h=>by
   rcases n with h1 | ⟨z,h1,h2⟩
   ·omega
   rw [h1,Sx];exact uC (by rw [am,aj om_];rfl)
  refine Ui 1 Z fun R b=>Uy d.m_ U10 om_ (uC w) fl_ fun X M=>Uj M U8<|C6 2 [0,1,5,6,7,8,9,10] b Z<|Ui 2 Z fun R b=>Ut (E i e _ mup) U7<|Um 7 Z<|D.index U10 (fun A=>⟨d.mono mup,(by have h:decide (o<0)=false:=A.1;have:=QF h;omega),L (by have h:decide (o<0)=false:=A.1;exact QF h)⟩) fl_ Z fun Y N=>UM U6 N U3<|Uk U6<|UN U8<|UJ U8<|Un [0,1,5,6,8,9,10,29] b Z<|G.cd (fun p=>?_) fun p=>?_
  ·have c:q i=true/\(o<0∨x<l.getD o.toNat 0):=by
    simpa using p
   have r:Lp.LeastR l (fun i=>q i=true) (i+1) i:=by
    rcases n with h1 | ⟨z,h1,h2⟩
    ·rw [h1] at a;exact a.first c.1
    rw [h1] at a c;refine a.less c.1 ?_;rw [y];rcases c.2 with h3 | h3
    ·omega
    exact h3
   refine Uh 2 [0,1,5,8,9,10] Z<|Ul fun R b=>Uq _ Z U6<|C6 1 [0,1,5,8,9,10] b Z<|Uw (m':=l.length-(i+1)) om_ t (hn_ [0,1,5,8,9,10] Z) ⟨i+1,_,⟨by omega,r⟩,Z,Z,Z⟩
  have c:q i=true->¬ (o<0∨x<l.getD o.toNat 0):=by
   simpa using p
  have r:Lp.LeastR l (fun i=>q i=true) (i+1) o:=by
   by_cases B:q i=true
   ·have h3:=c B;rcases n with h1 | ⟨z,h1,h2⟩
    ·exact absurd (.inl om_) h3
    rw [h1] at a h3 ⊢;refine a.keep ?_;rw [y];exact fun h=>h3 (.inr h)
   exact a.no B
  refine Ul fun R b=>Uq _ Z U6<|C6 1 [0,1,5,8,9,10] b Z<|Uw (m':=l.length-(i+1)) om_ t (hn_ [0,1,5,8,9,10] Z) ⟨i+1,_,⟨by omega,r⟩,Z,Z,Z⟩
 have e:i=l.length:=by
  have:=QF k;omega
 exact Uh 2 [4] Z<|Up U2<|⟨Z,o,Z,by rw [<- e];exact a⟩
structure TabV (D:Mem)(b n:Nat)(t:Lp.Tab)(wB wL wO wW:Value)(wF:List Value):Prop where
 o:D b=some (.cells ⟨[.int .i64 n,wB,wL,wO,af (qtx t.worth.c),wW]⟩ 231 (0,0))
 B:Sl D 1 wB (t.basic.map aT)
 O:Sl D 1 wO (t.others.map aT)
 W:Sl D 1 wW (t.worth.f.map aQ)
 L:Sl D 2 wL (List.zipWith (fun (l:Lp.Line) w=>[af (qtx l.c),w]) t.lines wF)
 fl:wF.length=t.lines.length
 F:∀ (i:Nat)(l:Lp.Line)(w:Value),t.lines[i]?=some l->wF[i]?=some w->Sl D 1 w (l.f.map aQ)
theorem TabV.mono {D E:Mem}{b n:Nat}{t:Lp.Tab}{c d e f:Value}{g:List Value}(h:TabV D b n t c d e f g)(a:D.le E):TabV E b n t c d e f g :=
 ⟨a _ _ h.o,h.B.mono a,h.O.mono a,h.W.mono a,h.L.mono a,h.fl,fun i l w h1 h2=>(h.F i l w h1 h2).mono a⟩
theorem TabV.m_ {D E:Mem}{a:List Value}(h:TabV D b n t wB wL wO wW a)(c:D.le E:=by exact mup):TabV E b n t wB wL wO wW a:=TabV.mono h c
theorem fu (C:Mem)(b n v:Nat)(t:Lp.Tab)(a c d e:Value)(f:List Value)(h:TabV C b n t a c d e f) :
  Gives cx.P 203 [.pointer (some ⟨b,0,none⟩),.int .i64 v] C (.bool (decide (n<=v))):=by
 refine Ur func203 11 U3 fun w0=>Uh 1 [0,1] Z<|Ui 4 Z fun R g=>Uj (PtrTo.blockT (h.m_.o) _ 1) U8<|C6 2 [4] g Z<|Up U2<|⟨?_,Z⟩;congr 1;rw [Ry];omega
theorem fh {l:List Nat}(h:i<l.length):(l.map aT)[i]?=some (aT (l.getD i 0)):=uC (by rw [am,aj h];rfl)
theorem dO {l:List Rat}(h:i<l.length):(l.map aQ)[i]?=some (aQ (l.getD i 0)):=kN (by rw [am,aj h];rfl)
theorem jT {ls:List Lp.Line}{ws:List Value}(h:i<ls.length)(a:ws.length=ls.length):(List.zipWith (fun (l:Lp.Line) w=>[af (qtx l.c),w]) ls ws)[i]?=some [af (qtx (ls.getD i ⟨0,[]⟩).c),ws.getD i (.slice none 0 0)]:=by
 rw [List.getElem?_zipWith,aj h,aj (show i<ws.length by omega),am,am,aj h,aj (show i<ws.length by omega)];rfl
theorem Kl (C:Mem)(a b n i N:Nat)(t:Lp.Tab)(j k e f:Value)(g:List Value)(h:TabV C b n t j k e f g)(l:t.Ok N)(d:C a=some (.cells ⟨[.pointer (some ⟨b,0,none⟩)]⟩ 221 (0,0)))(m:i<t.basic.length)(p:QB 50 (t.line i).c) :
  Gives cx.P 207 [.int .i64 i,.pointer (some ⟨a,0,none⟩)] C (.bool (decide (n<=t.bas i) && decide ((t.line i).c<0))):=by
 obtain ⟨v,w,rfl,x,y,_⟩:=id h.B;obtain ⟨A2,c2,rfl,z,A,_⟩:=id h.L;have E:maxLen<=9223372036854775807:=by simp [maxLen]
 have F:=l.ll;exact Ur func207 25 U3 fun w0=>Uh 1 [0,1] Z<|UD [0,1,2,3,4,5,6,7,8,9,10,11,12,13,14,15,16,17,18,19,20,21] [(8,1)] Z kr_ fun R G q=>Uj (bkT d 1) U8<|Uj (bkT d 1) U8<|Um 2 Z<|Uj (PtrTo.blockT (h.m_.o) _ 1) U8<|Uk U6<|Uy h.B.m_ U10 om_ (fh m) fl_ fun H r=>Uj r U8<|US (fun _=>(fu _ b n (t.bas i) t _ _ e f g h.m_)) U9<|Uk U6<|UM U6 (fun _=>PtrTo.blockT (Mem.get d mup) _ 1) U3<|Um 2 Z<|UM U6 (fun _=>PtrTo.blockT (h.m_.o) _ 1) U3<|Uk U6<|D.index U10 (fun I=>⟨h.L.mono mup,by omega,jT om_ h.fl⟩) fl_ Z fun J s=>VU Z Z Z Z Z Z Z Z Z Z s fl_ Z fun K u=>UM U6 u U3<|UG (fun _=>(gd _ (t.line i).c (QW (bg p dc_) dc_))) U9<|Uk U6<|UJ U8<|C6 1 [3] q Z<|Up U2<|⟨by rw [ut],Z⟩
theorem ur (q:Rat):decide (0<eH q.num)=decide (0<q):=by
 have h:0<q.num ↔ 0<q:=by rw [Rat.lt_iff];simp
 rw [Ry];unfold eH;by_cases h1:q.num<0
 ·rw [aJ h1];exact ⟨fun h2=>absurd h2 dc_,fun h2=>absurd (h.2 h2) om_⟩
 rw [aF h1];by_cases h2:q.num=0
 ·rw [aJ h2];exact ⟨fun h3=>absurd h3 dc_,fun h3=>absurd (h.2 h3) om_⟩
 rw [aF h2];exact ⟨fun _=>h.1 om_,fun _=>by decide⟩
theorem lZ {a:List Value}(h:TabV C b n t wB wL wO wW a)(c:t.Ok N)(d:i<t.basic.length):Sl C 1 (a.getD i (.slice none 0 0)) ((t.line i).f.map aQ)/\(t.line i).f.length=t.others.length:=by
 have e:=c.ll;have g:=h.fl;refine ⟨?_,c.fl _ (Lp.line_mem c d)⟩;refine h.F i _ _ (show t.lines[i]?=some (t.line i) from ?_) (show a[i]?=some _ from ?_)
 ·unfold Lp.Tab.line;rw [am,aj om_];rfl
 rw [am,aj om_];rfl
theorem Kk (C:Mem)(a j b n i r N:Nat)(t:Lp.Tab)(p q s k:Value)(c:List Value)(h:TabV C b n t p q s k c)(d:t.Ok N)(e:C a=some (.cells ⟨[.pointer (some ⟨b,0,none⟩)]⟩ 221 (0,0)))(u:C j=some (.cells ⟨[.int .i64 r]⟩ 3 (0,0)))
  (l:r<t.basic.length) (v:i<t.others.length) (w:QB 50 ((t.line r).g i)) :
  Gives cx.P 208 [.int .i64 i,.pointer (some ⟨a,0,none⟩),.pointer (some ⟨j,0,none⟩)] C (.bool (decide (n<=t.oth i) && decide (0<(t.line r).g i))):=by
 obtain ⟨G,H,rfl,I,J,_⟩:=id h.O;obtain ⟨A2,c2,rfl,K,M,_⟩:=id h.L;obtain ⟨f,Q⟩:=lZ h d l;obtain ⟨S,T,x,U,V,_⟩:=id f;have m:=jT (ls:=t.lines) (ws:=c) (i:=r) (by rw [d.ll];exact l) h.fl;rw [x] at m f;have W:maxLen<=9223372036854775807:=by simp [maxLen]
 have X:=d.ll;exact Ur func208 29 U3 fun w0=>Uh 1 [0,1,2] Z<|UD [0,1,2,3,4,5,6,7,8,9,10,11,12,13,14,15,16,17,18,19,20,21,22,23,24] [(8,1)] Z kr_ fun R Y y=>Uj (bkT e 1) U8<|Uj (bkT e 1) U8<|Um 2 Z<|Uj (PtrTo.blockT (h.m_.o) _ 1) U8<|Uk U6<|Uy h.O.m_ U10 om_ (fh v) fl_ fun aa z=>Uj z U8<|US (fun _=>(fu _ b n (t.oth i) t _ _ _ k c h.m_)) U9<|Uk U6<|UM U6 (fun _=>PtrTo.blockT (Mem.get e mup) _ 1) U3<|Um 2 Z<|UM U6 (fun _=>PtrTo.blockT (h.m_.o) _ 1) U3<|UM U6 (fun _=>PtrTo.blockT (Mem.get u mup) _ 1) U3<|D.index U10 (fun A=>⟨h.L.mono mup,by omega,m⟩) fl_ Z fun ab B=>VU Z Z Z Z Z Z Z Z Z Z B fl_ Z fun ac E=>UM U6 E U3<|Uk U6<|D.index U10 (fun A=>⟨f.mono mup,by omega,dO om_⟩) fl_ Z fun ad F=>UM U6 F U3<|UG (fun _=>(gd _ ((t.line r).g i) (QW (bg w dc_) dc_))) U9<|Uk U6<|UJ U8<|C6 1 [4] y Z<|Up U2<|⟨by rw [<- ur],Z⟩
theorem Np (C:Mem)(a b n i N:Nat)(t:Lp.Tab)(e f j k:Value)(d:List Value)(h:TabV C b n t e f j k d)(l:t.Ok N)(c:C a=some (.cells ⟨[.pointer (some ⟨b,0,none⟩)]⟩ 221 (0,0)))(m:i<t.others.length) :
  Gives cx.P 209 [.int .i64 i,.pointer (some ⟨a,0,none⟩)] C (.bool (!decide (n<=t.oth i) && !decide (t.worth.g i=0))):=by
 obtain ⟨s,u,rfl,v,w,_⟩:=id h.O;obtain ⟨A2,c2,rfl,x,y,_⟩:=id h.W;have z:maxLen<=9223372036854775807:=by simp [maxLen]
 have A:=l.wl;refine Ur func209 25 U3 fun w0=>Uh 1 [0,1] Z<|UD [0,1,2,3,4,5,6,7,8,9,10,11,12,13,14,15,16,17,18,19,20,21] [(8,1)] Z kr_ fun R B p=>Uj (bkT c 1) U8<|Uj (bkT c 1) U8<|Um 2 Z<|Uj (PtrTo.blockT (h.m_.o) _ 1) U8<|Uk U6<|Uy h.O.m_ U10 om_ (fh m) fl_ fun E q=>Uj q U8<|US (fun _=>(fu _ b n (t.oth i) t _ _ _ _ d h.m_)) U9<|Um 2 Z<|UM U6 (fun _=>PtrTo.blockT (Mem.get c mup) _ 1) U3<|Um 3 Z<|UM U6 (fun _=>PtrTo.blockT (h.m_.o) _ 1) U3<|Uk U6<|D.index U10 (fun F=>⟨h.W.mono mup,by omega,dO om_⟩) fl_ Z fun G r=>UM U6 r U3<|Uk U6<|UJ U8<|C6 1 [3] p Z<|Up U2<|⟨?_,Z⟩;show Value.bool _=Value.bool _;congr 1;congr 1;show (!((⟨(qtx (t.worth.g i)).toArray⟩:ByteArray).data.toList == (⟨#[48]⟩:ByteArray).data.toList))=_;rw [eQ]
theorem No (C:Mem)(a b n i N:Nat)(t:Lp.Tab)(e f j k:Value)(d:List Value)(h:TabV C b n t e f j k d)(l:t.Ok N)(c:C a=some (.cells ⟨[.pointer (some ⟨b,0,none⟩)]⟩ 221 (0,0)))(m:i<t.others.length)(p:QB 50 (t.worth.g i)) :
  Gives cx.P 210 [.int .i64 i,.pointer (some ⟨a,0,none⟩)] C (.bool (decide (n<=t.oth i) && decide (t.worth.g i<0))):=by
 obtain ⟨u,v,rfl,w,x,_⟩:=id h.O;obtain ⟨A2,c2,rfl,y,z,_⟩:=id h.W;have A:maxLen<=9223372036854775807:=by simp [maxLen]
 have B:=l.wl;exact Ur func210 25 U3 fun w0=>Uh 1 [0,1] Z<|UD [0,1,2,3,4,5,6,7,8,9,10,11,12,13,14,15,16,17,18,19,20,21] [(8,1)] Z kr_ fun R E q=>Uj (bkT c 1) U8<|Uj (bkT c 1) U8<|Um 2 Z<|Uj (PtrTo.blockT (h.m_.o) _ 1) U8<|Uk U6<|Uy h.O.m_ U10 om_ (fh m) fl_ fun F r=>Uj r U8<|US (fun _=>(fu _ b n (t.oth i) t _ _ _ _ d h.m_)) U9<|Uk U6<|UM U6 (fun _=>PtrTo.blockT (Mem.get c mup) _ 1) U3<|Um 3 Z<|UM U6 (fun _=>PtrTo.blockT (h.m_.o) _ 1) U3<|Uk U6<|D.index U10 (fun G=>⟨h.W.mono mup,by omega,dO om_⟩) fl_ Z fun H s=>UM U6 s U3<|UG (fun _=>(gd _ (t.worth.g i) (QW (bg p dc_) dc_))) U9<|Uk U6<|UJ U8<|C6 1 [3] q Z<|Up U2<|⟨by rw [ut],Z⟩
theorem uh (n:Nat):List.replicate n (af [48])=((List.replicate n (0:Rat)).map aQ).flatten:=by
 rw [Ta,show aQ 0=[af [48]] by unfold aQ;rw [MV]];induction n with
 | zero=>rfl
 | succ n a=>rw [RP,RP,RU,<- a];rfl
def ptF (t:Lp.Tab)(n i:Nat):List Rat:=(List.range n).map fun v=>if v∈t.basic.take i then t.sol v else 0
theorem nk :(ptF t n i).length=n:=by simp [ptF]
theorem F0 (h:v<n):(ptF t n i)[v]?=some (if v∈t.basic.take i then t.sol v else 0):=by
 unfold ptF;rw [QD,Rc h];rfl
theorem Jz (t:Lp.Tab)(n:Nat):ptF t n 0=List.replicate n 0:=by
 refine List.ext_getElem? fun v=>?_;by_cases h:v<n
 ·rw [F0 h,RZ,aJ h,List.take_zero,aF RJ]
 rw [QJ (by rw [nk];omega),QJ ap]
theorem lF (h:i<t.basic.length):t.basic.take (i+1)=t.basic.take i++[t.bas i]:=by
 rw [Q4];congr 1;unfold Lp.Tab.bas;rw [am,aj h];rfl
theorem M1 (b:t.Ok N)(h:i<t.basic.length)(d:t.bas i<n):(ptF t n i).set (t.bas i) (t.line i).c=ptF t n (i+1):=by
 refine List.ext_getElem? fun v=>?_;rw [List.getElem?_set,nk];by_cases a:v<n
 ·rw [F0 a,F0 a,lF h];by_cases e:t.bas i=v
  ·subst e;rw [aJ rfl,aJ a,aJ al,Lp.sol_bas b h]
  rw [aF e];by_cases hm:v∈t.basic.take i
  ·rw [aJ hm,aJ (by simp [hm])]
  rw [aF hm,aF (by simp [hm];exact fun h2=>e h2.symm)]
 rw [aF om_,QJ (by rw [nk];omega),QJ (by rw [nk];omega)]
theorem JA (h:i<t.basic.length)(a:n<=t.bas i):ptF t n i=ptF t n (i+1):=by
 refine List.map_congr_left fun v hm=>?_;have b:=QU.1 hm;rw [lF h];by_cases hm:v∈t.basic.take i
 ·rw [aJ hm,aJ (by simp [hm])]
 rw [aF hm,aF (by simp [hm];omega)]
theorem M2 (a:t.Ok N):ptF t n t.basic.length=(List.range n).map t.sol:=by
 refine List.map_congr_left fun v _=>?_;rw [QM];split
 ·rfl
 next h=>exact (Lp.sol_oth a h).symm
theorem BL (C:Mem)(b n N:Nat)(t:Lp.Tab)(w x p q:Value)(r:List Value)(h:TabV C b n t w x p q r)(f:t.Ok N)(y:n<=1000000) :
  Jog.Fn cx.P 141 [.pointer (some ⟨b,0,none⟩)] C [] fun u _ c=>∃ g,u=.slice (some ⟨g,0,none⟩) n n/\c=[.arr u 32 1 n (((List.range n).map t.sol).map aQ).flatten]:=by
 obtain ⟨z,s,rfl,A,Q,_⟩:=id h.B;obtain ⟨A2,c2,rfl,S,T,_⟩:=id h.L;have E:=h.B;have U:t.basic.length<=s:=by rwa [ar] at A
 have V:maxLen<=9223372036854775807:=by simp [maxLen]
 have W:=f.ll;have F:=h.fl;refine Ur func141 38 U3 fun w0=>Uh 1 [0] Z<|UI [(4,3)] Z fun R a=>Um 3 Z<|Uj (PtrTo.blockT (h.m_.o) _ 1) U8<|D.call (jb _ n y) Z (.inr dc_) U6 (QI _) fl_ (fun X _ Y _ H=>?_);obtain ⟨g,rfl,rfl⟩:=H;refine C6 1 [0,3] a Z<|Ui 3 Z fun R a=>Uj (PtrTo.blockT (h.m_.o) _ 1) U8<|C6 2 [0,3,14,15,16] a Z<|Uz (L':=[.arr (.slice (some ⟨g,0,none⟩) n n) 32 1 n ((ptF t n 0).map aQ).flatten]) (by rw [Jz,<- uh];rfl)<|G.loop (fun fr C' c I=>∃ (i:Nat),(i<=t.basic.length)/\fr=[(0,[],.pointer (some ⟨b,0,none⟩)),(3,[],.slice (some ⟨g,0,none⟩) n n),(14,[],.slice z (t.basic.map aT).length s),(15,[],.int .i64 (t.basic.map aT).length),(16,[],.int .i64 i)]/\c=[.arr (.slice (some ⟨g,0,none⟩) n n) 32 1 n ((ptF t n i).map aQ).flatten]/\I=t.basic.length-i) (hn_ [0,3,14,15,16] Z) ⟨0,QH _,Z,Z,Z⟩ (fun fr aa ab m v J=>?_);obtain ⟨i,hi,rfl,rfl,rfl⟩:=J;refine Uh 1 [0,3,14,15,16,17] Z<|G.cd (fun k=>?_) fun k=>?_
 ·have d:i<t.basic.length:=by
   have:=PZ k;rw [ar] at this;omega
  refine Ui 1 Z fun R a=>Uy E.m_ U10 om_ (show (t.basic.map aT)[i]?=some (aT (t.bas i)) from fh d) fl_ fun ac K=>Uj K U8<|C6 2 [0,3,4,5,14,15,16] a Z<|Ui 2 Z fun R a=>Ut (fu _ b n (t.bas i) t _ _ p q r h.m_) U7<|C6 1 [0,3,4,5,14,15,16,24] a Z<|G.cd (fun l=>?_) fun l=>?_
  ·have e:t.bas i<n:=by
    have ad:¬ n<=t.bas i:=by simpa using l
    omega
   refine Ui 5 Z fun R a=>Uj (PtrTo.blockT (h.m_.o) _ 1) U8<|Uk U6<|Uy h.L.m_ U10 om_ (jT om_ F) fl_ fun ae M=>Vz M U10 fl_ fun af O=>Uj O U8<|UL (t.bas i*1) U10 ai U2<|UO (j:=0) U11 (by show t.bas i*1+1<=_;rw [bR bJ,nk];omega)<|Un [0,3,14,15,16] a Z<|Ul fun R a=>Uq _ Z U6<|C6 1 [0,3,14,15,16] a Z<|Uz (L':=[.arr (.slice (some ⟨g,0,none⟩) n n) 32 1 n ((ptF t n (i+1)).map aQ).flatten]) (by rw [<- M1 f d e,<- bK bJ _ (by rw [nk];exact e)];rfl)<|Uw (m':=t.basic.length-(i+1)) om_ v (hn_ [0,3,14,15,16] Z) ⟨i+1,om_,Z,Z,Z⟩
  have e:n<=t.bas i:=by simpa using l
  rw [JA d e];refine Ul fun R a=>Uq _ Z U6<|C6 1 [0,3,14,15,16] a Z<|Uw (m':=t.basic.length-(i+1)) om_ v (hn_ [0,3,14,15,16] Z) ⟨i+1,om_,Z,Z,Z⟩
 have d:i=t.basic.length:=by
  have:=QF k;rw [ar] at this;omega
 refine Uh 2 [2] Z<|Uv (UV Z Z ?_);exact ⟨g,Z,by rw [d,M2 f]⟩
def duF (p:Lp.Sys)(t:Lp.Tab)(l:Lp.Line)(i:Nat):List Rat:=(List.range p.m).map fun r=>if p.n+r∈t.others.take i then Lp.dualV p t l r else 0
theorem nv :(duF p t l i).length=p.m:=by simp [duF]
theorem Hu {r:Nat}(h:r<p.m):(duF p t l i)[r]?=some (if p.n+r∈t.others.take i then Lp.dualV p t l r else 0):=by
 unfold duF;rw [QD,Rc h];rfl
theorem Kt (p:Lp.Sys)(t:Lp.Tab)(l:Lp.Line):duF p t l 0=List.replicate p.m 0:=by
 refine List.ext_getElem? fun v=>?_;by_cases h:v<p.m
 ·rw [Hu h,RZ,aJ h,List.take_zero,aF RJ]
 rw [QJ (by rw [nv];omega),QJ ap]
theorem Be (h:i<t.others.length):t.others.take (i+1)=t.others.take i++[t.oth i]:=by
 rw [Q4];congr 1;unfold Lp.Tab.oth;rw [am,aj h];rfl
theorem NI (b:Lp.TabOf p t)(h:i<t.others.length)(c:p.n<=t.oth i):(duF p t l i).set (t.oth i-p.n) (l.g i)=duF p t l (i+1):=by
 refine List.ext_getElem? fun v=>?_;rw [List.getElem?_set,nv];by_cases a:v<p.m
 ·rw [Hu a,Hu a,Be h];by_cases e:t.oth i-p.n=v
  ·subst e;rw [aJ rfl,aJ a,aJ (by rw [show p.n+(t.oth i-p.n)=t.oth i by omega];simp),Lp.dualV_at b h c]
  rw [aF e];by_cases hm:p.n+v∈t.others.take i
  ·rw [aJ hm,aJ (by simp [hm])]
  rw [aF hm,aF (by simp [hm];omega)]
 rw [QJ (by rw [nv];omega),QJ (by rw [nv];omega)];have:=b.ok.lt _ (QS.2 (.inr (Lp.oth_mem h)));split
 ·exact aF om_
 rfl
theorem Ku (h:i<t.others.length)(a:t.oth i<p.n):duF p t l i=duF p t l (i+1):=by
 refine List.map_congr_left fun v _=>?_;rw [Be h];by_cases hm:p.n+v∈t.others.take i
 ·rw [aJ hm,aJ (by simp [hm])]
 rw [aF hm,aF (by simp [hm];omega)]
theorem NJ :duF p t l t.others.length=(List.range p.m).map (Lp.dualV p t l):=by
 refine List.map_congr_left fun v _=>?_;rw [QM];split
 ·rfl
 next h=>exact (Lp.dualV_none h).symm
theorem Ht (C:Mem)(p:Lp.Sys)(b:Nat)(t:Lp.Tab)(l:Lp.Line)(E F H s w:Value)(v:List Value)(h:TabV C b p.n t E F H s v)(x:Lp.TabOf p t)(I:p.m<=1000000)(y:Sl C 1 w (l.f.map aQ))(X:l.f.length=t.others.length) :
  Jog.Fn cx.P 143 [.pointer (some ⟨b,0,none⟩),.agg ⟨[af (qtx l.c),w]⟩,.int .i64 p.m] C [] fun u _ e=>∃ g,u=.slice (some ⟨g,0,none⟩) p.m p.m/\e=[.arr u 32 1 p.m (((List.range p.m).map (Lp.dualV p t l)).map aQ).flatten]:=by
 obtain ⟨J,z,rfl,K,Y,_⟩:=id h.O;obtain ⟨A3,c3,rfl,aa,ab,_⟩:=id y;have L:=h.O;have ac:t.others.length<=z:=by rwa [ar] at K
 have ad:maxLen<=9223372036854775807:=by simp [maxLen]
 refine Ur func143 40 U3 fun w0=>Ul fun R a=>UC U6 fun M=>C6 1 [0,2,4] a Z<|G.freeze 0 Z fun _ _ N=>UI [(1,3)] Z fun R a=>Uk U6<|D.call (jb _ p.m I) Z (.inr dc_) U6 (QI _) fl_ (fun ae _ ag _ Q=>?_);obtain ⟨g,rfl,rfl⟩:=Q;refine C6 1 [0,4,7] a Z<|Ui 3 Z fun R a=>Uj (PtrTo.blockT (h.m_.o) _ 1) U8<|C6 2 [0,4,7,15,16,17] a Z<|Uz (L':=[.arr (.slice (some ⟨g,0,none⟩) p.m p.m) 32 1 p.m ((duF p t l 0).map aQ).flatten]) (by rw [Kt,<- uh];rfl)<|G.loop (fun fr C' e S=>∃ (i:Nat),(i<=t.others.length)/\fr=[(0,[],.pointer (some ⟨b,0,none⟩)),(4,[],.pointer (some ⟨M,0,none⟩)),(7,[],.slice (some ⟨g,0,none⟩) p.m p.m),(15,[],.slice J (t.others.map aT).length z),(16,[],.int .i64 (t.others.map aT).length),(17,[],.int .i64 i)]/\e=[.arr (.slice (some ⟨g,0,none⟩) p.m p.m) 32 1 p.m ((duF p t l i).map aQ).flatten]/\S=t.others.length-i) (hn_ [0,4,7,15,16,17] Z) ⟨0,QH _,Z,Z,Z⟩ (fun fr ah aj m A T=>?_);obtain ⟨i,hi,rfl,rfl,rfl⟩:=T;refine Uh 1 [0,4,7,15,16,17,18] Z<|G.cd (fun k=>?_) fun k=>?_
 ·have d:i<t.others.length:=by
   have:=PZ k;rw [ar] at this;omega
  have ak:=x.ok.lt _ (QS.2 (.inr (Lp.oth_mem d)));refine Ui 1 Z fun R a=>Uy L.m_ U10 om_ (show (t.others.map aT)[i]?=some (aT (t.oth i)) from fh d) fl_ fun al U=>Uj U U8<|C6 2 [0,4,7,8,9,15,16,17] a Z<|Ui 2 Z fun R a=>Ut (fu _ b p.n (t.oth i) t _ _ _ s v h.m_) U7<|Un [0,4,7,8,9,15,16,17,24] a Z<|G.cd (fun q=>?_) fun q=>?_
  ·have r:p.n<=t.oth i:=by simpa using q
   have B:((t.oth i:Int)-(p.n:Int)).toNat=t.oth i-p.n:=by omega
   have V:=NI (l:=l) x d r;refine UD [0,1,2,3,4,5,6,7,8,9,10,11,12,13] [] Z kr_ fun R hB a=>Um 5 Z<|Uj (PtrTo.blockT (h.m_.o) _ 1) U8<|Uq _ Z U6<|Uk U6<|Uj (bkT N 1) U8<|Uk U6<|Uy y.m_ U10 om_ (dO om_) fl_ fun am W=>Uj W U8<|UL (((t.oth i:Int)-(p.n:Int)).toNat*1) U10 ai U2<|UO (j:=0) U11 (by show ((t.oth i:Int)-(p.n:Int)).toNat*1+1<=_;rw [B,bR bJ,nv];omega)<|Un [0,4,7,15,16,17] a Z<|Ul fun R a=>Uq _ Z U6<|C6 1 [0,4,7,15,16,17] a Z<|Uz (L':=[.arr (.slice (some ⟨g,0,none⟩) p.m p.m) 32 1 p.m ((duF p t l (i+1)).map aQ).flatten]) (by rw [B,<- V,<- bK bJ _ (by rw [nv];omega)];rfl)<|Uw (m':=t.others.length-(i+1)) om_ A (hn_ [0,4,7,15,16,17] Z) ⟨i+1,om_,Z,Z,Z⟩
  have r:t.oth i<p.n:=by
   have an:¬ p.n<=t.oth i:=by simpa using q
   omega
  rw [Ku d r];refine Ul fun R a=>Uq _ Z U6<|C6 1 [0,4,7,15,16,17] a Z<|Uw (m':=t.others.length-(i+1)) om_ A (hn_ [0,4,7,15,16,17] Z) ⟨i+1,om_,Z,Z,Z⟩
 have d:i=t.others.length:=by
  have:=QF k;rw [ar] at this;omega
 refine Uh 2 [6] Z<|Uv (UV Z Z ?_);exact ⟨g,Z,by rw [d,NJ]⟩
def ngF (p:Lp.Sys)(t:Lp.Tab)(l:Lp.Line)(i:Nat):List Rat:=(List.range p.m).map fun r=>if r<i then -Lp.dualV p t l r else Lp.dualV p t l r
theorem ic :(ngF p t l i).length=p.m:=by simp [ngF]
theorem B7 {r:Nat}(h:r<p.m):(ngF p t l i)[r]?=some (if r<i then -Lp.dualV p t l r else Lp.dualV p t l r):=by
 unfold ngF;rw [QD,Rc h];rfl
theorem JR (p:Lp.Sys)(t:Lp.Tab)(l:Lp.Line):(List.range p.m).map (Lp.dualV p t l)=ngF p t l 0:=List.map_congr_left fun r _=>by rw [aF (Nat.not_lt_zero _)]
theorem Nk (h:i<p.m):(ngF p t l i).set i (-Lp.dualV p t l i)=ngF p t l (i+1):=by
 refine List.ext_getElem? fun v=>?_;rw [List.getElem?_set,ic];by_cases a:v<p.m
 ·rw [B7 a,B7 a];by_cases e:i=v
  ·subst e;rw [aJ rfl,aJ a,aJ om_]
  rw [aF e];by_cases hm:v<i
  ·rw [aJ hm,aJ om_]
  rw [aF hm,aF om_]
 rw [aF om_,QJ (by rw [ic];omega),QJ (by rw [ic];omega)]
theorem Nl (h:t.bas i-p.n<p.m):(ngF p t (t.line i) p.m).set (t.bas i-p.n) 1=(List.range p.m).map (Lp.refV p t i):=by
 refine List.ext_getElem? fun v=>?_;rw [List.getElem?_set,ic,QD];by_cases a:v<p.m
 ·rw [B7 a,Rc a,aJ a];unfold Lp.refV;by_cases e:t.bas i-p.n=v
  ·subst e;rw [aJ rfl,aJ h,Sf,aJ rfl]
  rw [aF e,Sf,aF (fun b=>e b.symm)]
 rw [aF om_,QJ (by rw [ic];omega),QJ ap];rfl
theorem qtx1:qtx 1=[49]:=by decide +kernel
theorem enc1:aQ 1=[Value.string ⟨#[49]⟩]:=by
 show [af (qtx 1)]=_;rw [qtx1];rfl
theorem Jp (C:Mem)(p:Lp.Sys)(b i:Nat)(t:Lp.Tab)(A E s v:Value)(e:List Value)(h:TabV C b p.n t A E s v e)(w:Lp.TabOf p t)(F:p.m<=1000000)(f:i<t.basic.length)(W:p.n<=t.bas i)(H:∀ r,QB 50 (Lp.dualV p t (t.line i) r)) :
  Pur cx.P 139 [.pointer (some ⟨b,0,none⟩),.int .i64 i,.int .i64 p.m] C fun u D=>∃ g,u=.agg ⟨[.slice (some ⟨g,0,none⟩) p.m p.m]⟩/\Sl D 1 (.slice (some ⟨g,0,none⟩) p.m p.m) (((List.range p.m).map (Lp.refV p t i)).map aQ):=by
 have ok:=w.ok;obtain ⟨X,Y,rfl,aa,ab,_⟩:=id h.B;obtain ⟨A2,c2,rfl,ac,ad,_⟩:=id h.L;obtain ⟨k,I⟩:=lZ h ok f;obtain ⟨A3,c3,J,ae,af,_⟩:=id k;have ah:=ok.ll;have x:=jT (ls:=t.lines) (ws:=e) (i:=i) om_ h.fl;rw [J] at x k;have aj:maxLen<=9223372036854775807:=by simp [maxLen]
 have ak:=ok.lt _ (QS.2 (.inl (Lp.bas_mem f)));have K:t.bas i-p.n<p.m:=by omega
 have z:((t.bas i:Int)-(p.n:Int)).toNat=t.bas i-p.n:=by omega
 refine Ur func139 49 U3 fun w0=>Ul fun R a=>UB U5 fun c=>Un [0,1,2,6] a Z<|UI [(9,3)] Z fun R a=>Um 4 Z<|Uj (PtrTo.blockT (h.m_.o) _ 1) U8<|Uk U6<|Uy h.L.m_ U10 om_ x fl_ fun am M=>Uj M U8<|Uk U6<|D.call (Ht _ p b t (t.line i) _ _ s v _ e h.m_ w F k.m_ I) Z (.inr dc_) U6 (QI _) fl_ (fun an _ ao _ N=>?_);obtain ⟨g,rfl,rfl⟩:=N;refine C6 1 [0,1,6,7] a Z<|Uh 3 [0,1,6,7,20,21,22] Z<|Uz (L':=[.arr (.slice (some ⟨g,0,none⟩) p.m p.m) 32 1 p.m ((ngF p t (t.line i) 0).map aQ).flatten,.obj c (.cells ⟨[.slice none 0 0]⟩ 68 (0,0))]) (by rw [<- JR];rfl)<|G.loop (fun fr C' l O=>∃ (j:Nat),(j<=p.m)/\fr=[(0,[],.pointer (some ⟨b,0,none⟩)),(1,[],.int .i64 i),(6,[],.pointer (some ⟨c,0,none⟩)),(7,[],.slice (some ⟨g,0,none⟩) p.m p.m),(20,[],.slice (some ⟨g,0,none⟩) p.m p.m),(21,[],.int .i64 p.m),(22,[],.int .i64 j)]/\l=[.arr (.slice (some ⟨g,0,none⟩) p.m p.m) 32 1 p.m ((ngF p t (t.line i) j).map aQ).flatten,.obj c (.cells ⟨[.slice none 0 0]⟩ 68 (0,0))]/\O=p.m-j) (hn_ [0,1,6,7,20,21,22] Z) ⟨0,QH _,Z,Z,Z⟩ (fun fr ap aq m Q S=>?_);obtain ⟨j,hj,rfl,rfl,rfl⟩:=S;refine Uh 1 [0,1,6,7,20,21,22,23] Z<|G.cd (fun q=>?_) fun q=>?_
 ·have d:j<p.m:=by
   have:=PZ q;omega
  have T:(ngF p t (t.line i) j)[j]?=some (Lp.dualV p t (t.line i) j):=by rw [B7 d,aF (Nat.lt_irrefl _)]
  refine Ui 1 Z fun R a=>UL (j*1) U10 ai U2<|U1 ag U6 (fun _=>(by rw [eg bJ T];rfl)) U2<|C6 2 [0,1,6,7,8,9,20,21,22] a Z<|Ui 3 Z fun R a=>Uu (eK _ _ (QW (bg (H j) dc_) dc_)) U7 fl_<|UL (j*1) U10 ai U2<|UO (j:=0) U11 (by show j*1+1<=_;rw [bR bJ,ic];omega)<|Un [0,1,6,7,20,21,22] a Z<|Ul fun R a=>Uq _ Z U6<|C6 1 [0,1,6,7,20,21,22] a Z<|Uz (L':=[.arr (.slice (some ⟨g,0,none⟩) p.m p.m) 32 1 p.m ((ngF p t (t.line i) (j+1)).map aQ).flatten,.obj c (.cells ⟨[.slice none 0 0]⟩ 68 (0,0))]) (by rw [<- Nk d,<- bK bJ _ (by rw [ic];omega)];rfl)<|Uw (m':=p.m-(j+1)) om_ Q (hn_ [0,1,6,7,20,21,22] Z) ⟨j+1,om_,Z,Z,Z⟩
 have d:j=p.m:=by
  have:=QF q;omega
 subst d;refine UD [0,1,2,3,4,5,6,7,8,9,10,11,12,13,14] [] Z kr_ fun R hB a=>Um 4 Z<|Uj (PtrTo.blockT (h.m_.o) _ 1) U8<|Uk U6<|Uy h.B.m_ U10 om_ (show (t.basic.map aT)[i]?=some (aT (t.bas i)) from fh f) fl_ fun ar U=>Uj U U8<|Um 3 Z<|Uj (PtrTo.blockT (h.m_.o) _ 1) U8<|Uq _ Z U6<|UL (((t.bas i:Int)-(p.n:Int)).toNat*1) U10 ai U2<|UO (j:=0) U11 (by show ((t.bas i:Int)-(p.n:Int)).toNat*1+1<=_;rw [z,bR bJ,ic];omega)<|Un [6,7] a Z<|Ui 1 Z fun R a=>UA [.slice (some ⟨g,0,none⟩) p.m p.m] U8<|Us (j:=1) U12<|Un [6] a Z<|G.freezeArr 1 (((List.range p.m).map (Lp.refV p t i)).map aQ) rfl (by rw [z,<- Nl K,<- bK bJ 1 (by rw [ic];omega),enc1]) (by intro r hr;obtain ⟨y,_,rfl⟩:=QE.1 hr;rfl) al fun Cg hg V=>Uv (Va ag U4 ?_);exact ⟨Z,g,Z,V⟩
def cM (t:Lp.Tab)(wF:Nat->Value):List (Rat × Value):=(List.range t.basic.length).map fun i=>((t.line i).c,wF i)
theorem fH :(cM t wF).length=t.basic.length:=by simp [cM]
theorem oo (h:i<t.basic.length):(cM t wF)[i]?=some ((t.line i).c,wF i):=by
 unfold cM;rw [QD,Rc h];rfl
def Lg (t:Lp.Tab)(wF:Nat->Value)(i:Nat):Lent:=.arr (wF i) t.others.length 1 32 ((t.line i).f.map aQ)
def fg (b n:Nat)(t:Lp.Tab)(wB wL wO wW:Value)(wF:Nat->Value):List Lent :=
 .obj b [.int .i64 n,wB,wL,wO,af (qtx t.worth.c),wW] 231::.arr wB t.basic.length 1 3 (t.basic.map aT)::.arr wL t.basic.length 2 228 ((cM t wF).map bE)
  :: .arr wO t.others.length 1 3 (t.others.map aT)::.arr wW t.others.length 1 32 (t.worth.f.map aQ)::(List.range t.basic.length).map (Lg t wF)
theorem ij (a:t.Ok N)(h:i<t.basic.length):(t.line i).f.length=t.others.length:=a.fl _ (Lp.line_mem a h)
theorem bU {l:List Rat}:∀ r∈l.map aQ,r.length=1:=fun r hr=>by
 obtain ⟨x,_,rfl⟩:=QE.1 hr;rfl
theorem uZ {l:List Nat}:∀ r∈l.map aT,r.length=1:=fun r hr=>by
 obtain ⟨x,_,rfl⟩:=QE.1 hr;rfl
theorem gm (c:t.Ok N):∀ x∈fg b n t wB wL wO wW wF,x.wf:=by
 intro x a;unfold fg at a;simp only [QQ,QE,QU] at a;rcases a with rfl | rfl | rfl | rfl | rfl | ⟨i,d,rfl⟩
 ·trivial
 ·exact ⟨by simp,uZ⟩
 ·exact ⟨by simp [fH],fun r hr=>by obtain ⟨y,_,rfl⟩:=QE.1 hr;rfl⟩
 ·exact ⟨by simp,uZ⟩
 ·exact ⟨by simp [c.wl],bU⟩
 exact ⟨by simp [ij c d],bU⟩
theorem EP {b:Type}{f:Lp.Line->Value->b}(a:t.Ok N):List.zipWith f t.lines ((List.range t.basic.length).map wF)=(List.range t.basic.length).map fun i=>f (t.line i) (wF i):=by
 refine List.ext_getElem? fun i=>?_;rw [List.getElem?_zipWith,QD,QD];by_cases h:i<t.basic.length
 ·have h2:t.lines[i]?=some (t.line i):=by
   unfold Lp.Tab.line;rw [am,aj (by rw [a.ll];exact h)];rfl
  rw [h2,Rc h];rfl
 rw [QJ (show (List.range t.basic.length).length<=i by simp;omega),QJ (show t.lines.length<=i by rw [a.ll];omega)];rfl
theorem fb (c:t.Ok N)(h:∀ x∈fg b n t wB wL wO wW wF,x.seen C):TabV C b n t wB wL wO wW ((List.range t.basic.length).map wF):=by
 have h1:=h _ (QC ..);have h2:=h _ (QL _ (QC ..));have h3:=h _ (QL _ (QL _ (QC ..)));have h4:=h _ (QL _ (QL _ (QL _ (QC ..))));have h5:=h _ (QL _ (QL _ (QL _ (QL _ (QC ..)))));have j:∀ i,i<t.basic.length->Sl C 1 (wF i) ((t.line i).f.map aQ):=fun i a =>
  h (Lg t wF i) (QL _ (QL _ (QL _ (QL _ (QL _ (QE.2 ⟨i,QU.2 a,rfl⟩))))))
 refine ⟨h1,h2,h4,h5, ?_,by simp [c.ll],fun i l w e g=>?_⟩
 ·rw [EP c];have d:Sl C 2 wL ((cM t wF).map bE):=h3;unfold cM at d;rw [RC] at d;exact d
 have a:i<t.lines.length:=(aL.1 e).1;rw [c.ll] at a;rw [QD,Rc a] at g;cases g
 have:t.line i=l:=by unfold Lp.Tab.line;rw [am,e];rfl
 rw [<- this];exact j i a
theorem Jx (C:Mem)(p:Tabs C)(e m f i n s:Nat)(w g:Value)(d:List (Rat × Value))(a b:List Rat)(c h:Rat)(q:d.length=m)(r:d[i]?=some (c,w))(t:a.length=n)(k:b.length=n)(v:s<n)(y:QB 50 c)(z:∀ x∈a,QB 50 x)(A:QB 50 h)(B:∀ x∈b,QB 50 x) :
  Jog.Fn cx.P 262 [.pointer (some ⟨e,i*2,none⟩),.int .i64 s,.agg ⟨[af (qtx h),g]⟩] C [.arr g 32 1 n (b.map aQ).flatten,.arr (.slice (some ⟨e,0,none⟩) m f) 228 2 m (d.map bE).flatten,.arr w 32 1 n (a.map aQ).flatten]
   fun u _ j=>u=.tuple #[]/\j=[.arr g 32 1 n (b.map aQ).flatten,.arr (.slice (some ⟨e,0,none⟩) m f) 228 2 m ((d.set i (c+a.getD s 0*h,w)).map bE).flatten,.arr w 32 1 n ((kM a b s (a.getD s 0) n).map aQ).flatten]:=by
 have l:Jog.Enters cx.P 262=true:=by kernel_rfl
 refine Fn.perm (L2:=[.arr w 32 1 n (a.map aQ).flatten,.arr g 32 1 n (b.map aQ).flatten,.arr (.slice (some ⟨e,0,none⟩) m f) 228 2 m (d.map bE).flatten]) (RF (l₁:=[_,_]) (l₂:=[_]))<|Fn.form l om_ fun E F G=>?_;subst G;refine Fn.perm (RF (l₁:=[_]) (l₂:=[_,_]))<|(VK (post:=fun u j=>u=.tuple #[]/\j=[.arr (.slice (some ⟨e,0,none⟩) m f) 228 2 m ((d.set i (c+a.getD s 0*h,_)).map bE).flatten,.arr _ 32 1 n ((kM a b s (a.getD s 0) n).map aQ).flatten]) l bU (by simp [k]) fun o H I=>MY o (p.mono H) e m f i E F n s g d a b c h q r t k v I y z A B).mono ?_;rintro u o j _ ⟨D,rfl,h1,rfl⟩;exact ⟨h1,Z⟩
theorem Jv (C:Mem)(p:Tabs C)(d n s:Nat)(e f g h w i:Value)(a b:List Rat)(c j:Rat)(q:a.length=n)(l:b.length=n)(r:s<n)(t:QB 50 c)(v:∀ x∈a,QB 50 x)(y:QB 50 j)(z:∀ x∈b,QB 50 x) :
  Jog.Fn cx.P 262 [.pointer (some ⟨d,4,none⟩),.int .i64 s,.agg ⟨[af (qtx j),i]⟩] C [.arr i 32 1 n (b.map aQ).flatten,.obj d (.cells ⟨[e,f,g,h,af (qtx c),w]⟩ 231 (0,0)),.arr w 32 1 n (a.map aQ).flatten]
   fun u _ k=>u=.tuple #[]/\k=[.arr i 32 1 n (b.map aQ).flatten,.obj d (.cells ⟨[e,f,g,h,af (qtx (c+a.getD s 0*j)),w]⟩ 231 (0,0)),.arr w 32 1 n ((kM a b s (a.getD s 0) n).map aQ).flatten]:=by
 have m:Jog.Enters cx.P 262=true:=by kernel_rfl
 refine Fn.perm (L2:=[.arr w 32 1 n (a.map aQ).flatten,.arr i 32 1 n (b.map aQ).flatten,.obj d (.cells ⟨[e,f,g,h,af (qtx c),w]⟩ 231 (0,0))]) (RF (l₁:=[_,_]) (l₂:=[_]))<|Fn.form m om_ fun B D E=>?_;subst E;refine Fn.perm (RF (l₁:=[_]) (l₂:=[_,_]))<|(VK (post:=fun u k=>u=.tuple #[]/\k=[.obj d (.cells ⟨[e,f,g,h,af (qtx (c+a.getD s 0*j)),_]⟩ 231 (0,0)),.arr _ 32 1 n ((kM a b s (a.getD s 0) n).map aQ).flatten]) m bU (by simp [l]) fun o F G=>MX o (p.mono F) d B D n s e f g h i a b c j q l r G t v y z).mono ?_;rintro u o k _ ⟨A,rfl,h1,rfl⟩;exact ⟨h1,Z⟩
theorem nQ {F:Nat}(h:Lp.LeaveR F t s n o):o=-1∨∃ r:Nat,o=r/\r<n/\F<=t.bas r/\(t.line r).g s<0:=by
 cases h with
 | none _=>exact .inl rfl
 | some r h1 h2 h3 _=>exact .inr ⟨r,rfl,h1,h2,h3⟩
theorem Ga (a b:Rat):decide (jt a b > 0)=decide (b<a):=by
 unfold jt;rw [Ry];split
 ·next h=>exact ⟨fun h2=>absurd h2 dc_,fun h2=>by grind⟩
 split
 ·next h=>exact ⟨fun _=>h,fun _=>by decide⟩
 next h=>exact ⟨fun h2=>absurd h2 dc_,fun h2=>absurd h2 h⟩
theorem Gb (a b:Rat):(jt a b == 0)=decide (b=a):=by
 unfold jt;split
 ·next h=>rw [Q6 (by grind)];rfl
 split
 ·next h=>rw [Q6 (by grind)];rfl
 next h=>rw [QV (by grind)];rfl
theorem J1 (C:Mem)(S:Tabs C)(b n s N:Nat)(t:Lp.Tab)(wB wL T U:Value)(k:List Value)(h:TabV C b n t wB wL T U k)(V:t.Ok N)(hs:s<t.others.length)(W:∀ i,i<t.basic.length->QB 20 (t.line i).c/\QB 20 ((t.line i).g s)) :
  Pur cx.P 211 [.pointer (some ⟨b,0,none⟩),.int .i64 s] C fun u _=>∃ o:Int,u=.int .i64 o/\Lp.LeaveR n t s t.basic.length o:=by
 obtain ⟨A1,c1,rfl,aw,ax,_⟩:=id h.B;obtain ⟨A2,c2,rfl,ay,az,_⟩:=id h.L;have E:=h.B;have aA:maxLen<=9223372036854775807:=by simp [maxLen]
 have aB:=V.ll;have ac:=h.fl;have aC:(List.zipWith (fun (l:Lp.Line) w=>[af (qtx l.c),w]) t.lines k).length=t.basic.length:=by simp;omega
 refine Ur func211 85 U3 fun w0=>Uh 1 [0,1] Z<|Uh 1 [0,1,5] Z<|Uh 1 [0,1,5,6] Z<|Ui 3 Z fun R a=>Uj (PtrTo.blockT (h.m_.o) _ 1) U8<|C6 2 [0,1,5,6,15,16,17] a Z<|G.loop (fun fr C' L' μ=>∃ (i:Nat)(o:Int)(v:Str),(i<=t.basic.length/\Lp.LeaveR n t s i o/\∀ r:Nat,o=r->v=qtx ((t.line r).c / -(t.line r).g s))/\fr=[(0,[],.pointer (some ⟨b,0,none⟩)),(1,[],.int .i64 s),(5,[],.int .i64 o),(6,[],af v),(15,[],.slice A2 (List.zipWith (fun (l:Lp.Line) w=>[af (qtx l.c),w]) t.lines k).length c2),(16,[],.int .i64 (List.zipWith (fun (l:Lp.Line) w=>[af (qtx l.c),w]) t.lines k).length),(17,[],.int .i64 i)]/\L'=[]/\μ=t.basic.length-i) (hn_ [0,1,5,6,15,16,17] Z) ⟨0, -1,[],⟨QH _,.none fun j hj=>absurd hj (Nat.not_lt_zero _),fun r hr=>by omega⟩,Z,Z,Z⟩ (fun fr aD aE m _ hI=>?_);obtain ⟨i,o,v,⟨hi,f,F⟩,rfl,rfl,rfl⟩:=hI;refine Uh 1 [0,1,5,6,15,16,17,18] Z<|G.cd (fun H=>?_) fun H=>?_
 ·have p:i<t.basic.length:=by
   have:=PZ H;omega
  obtain ⟨z,aF⟩:=lZ h V p;obtain ⟨A3,c3,ad,aG,aH,_⟩:=id z;obtain ⟨X,I⟩:=W i p;have Y:=jT (ls:=t.lines) (ws:=k) (i:=i) om_ ac;rw [ad] at Y z;have aa:(qtx ((t.line i).g s)).length<=1000000:=QW (bg I dc_) dc_;refine Ui 1 Z fun R a=>Uy h.L.m_ U10 om_ Y fl_ fun aI ae=>Uj ae U8<|UB U5 fun b8=>Uk U6<|Us (j:=0) U12<|Un [0,1,5,6,7,8,15,16,17] a Z<|G.freeze 0 Z fun _ _ J=>Ui 4 Z fun R a=>Uj (PtrTo.blockT (h.m_.o) _ 1) U8<|Uk U6<|Uy E.m_ U10 om_ (fh p) fl_ fun aJ ag=>Uj ag U8<|Ut (fu _ b n (t.bas i) t _ _ T U k h.m_) U7<|Um 3 Z<|UM U6 (fun _=>PtrTo.blockT (Mem.get J mup) _ 1) U3<|Uk U6<|D.index U10 (fun hg=>⟨z.mono mup,by omega,dO om_⟩) fl_ Z fun aK ah=>UM U6 ah U3<|US (fun _=>(gd _ ((t.line i).g s) aa)) U9<|Uk U6<|UN U8<|Un [0,1,5,6,7,8,15,16,17,40] a Z<|G.cd (fun K=>?_) fun K=>?_
  ·have d:n<=t.bas i->0<=(t.line i).g s:=by
    intro h1;have d:(!decide (n<=t.bas i) || decide (eH ((t.line i).g s).num ≥ 0))=true:=K;rw [F1,QV h1] at d;simpa using d
   refine Ul fun R a=>Uq _ Z U6<|C6 1 [0,1,5,6,15,16,17] a Z<|Uw (m':=t.basic.length-(i+1)) om_ mup (hn_ [0,1,5,6,15,16,17] Z) ⟨i+1,o,v,⟨by omega,f.no d,F⟩,Z,Z,Z⟩
  have d:n<=t.bas i/\(t.line i).g s<0:=by
   have d:(!decide (n<=t.bas i) || decide (eH ((t.line i).g s).num ≥ 0))=false:=K;rw [F1] at d;simp only [Sr,Bool.not_eq_false',QK,Q7] at d;exact ⟨d.1,by have:=d.2;grind⟩
  have ab:-(t.line i).g s≠0:=by have:=d.2;grind
  have ai:=jy X (eR I) ab;refine UD [0,1,2,3,4,5,6,7,8,9,10,11,12,13] [(7,1),(8,1)] Z kr_ fun R hB a=>Uk U6<|Uj (bkT J 1) U8<|Uk U6<|Uj (bkT J 1) U8<|Uk U6<|Uy z.m_ U10 om_ (dO om_) fl_ fun aL aj=>Uj aj U8<|US (fun _=>(eK _ ((t.line i).g s) aa)) U9<|UG (fun _=>(gW _ S.m_ (t.line i).c (-(t.line i).g s) 20 dc_ dc_ X (eR I) ab)) U9<|C6 5 [0,1,5,6,7,9,15,16,17] a Z<|Uh 1 [0,1,5,6,7,9,15,16,17] Z<|Uh 2 [0,1,5,6,7,9,15,16,17,54] Z<|G.cd (fun M=>?_) fun M=>?_
  ·have ak:0<=o:=by simpa using PZ M
   obtain ⟨r,O,aM,aN,aO⟩:=(nQ f).resolve_left om_;obtain ⟨al,am⟩:=W r om_;have an:-(t.line r).g s≠0:=by grind
   have ao:=jy al (eR am) an;have ap:=F r O;rw [O] at f;subst O;subst ap;obtain ⟨x,A⟩:∃ x,(t.line i).c / -(t.line i).g s=x:=⟨_,rfl⟩;obtain ⟨y,hy⟩:∃ y,(t.line r).c / -(t.line r).g s=y:=⟨_,rfl⟩;refine Ui 2 Z fun R a=>Uu (gX _ S.m_ _ _ 40 dc_ dc_ ai ao) U7 fl_<|C6 1 [0,1,5,6,7,9,11,15,16,17] a Z<|UD [0,1,2,3,4,5,6,7,8,9,10,11,12,13,14,15,16,17,18,19,20,21,22] [] Z kr_ fun R hB a=>Um 9 Z<|UM U6 (fun _=>PtrTo.blockT (h.m_.o) _ 1) U3<|Uk U6<|D.index U10 (fun hg=>⟨E.mono mup,by omega,fh p⟩) fl_ Z fun aP aq=>UM U6 aq U3<|Um 3 Z<|UM U6 (fun _=>PtrTo.blockT (h.m_.o) _ 1) U3<|Uk U6<|D.index U10 (fun hg=>⟨E.mono mup,by omega,by rw [Sx];exact fh om_⟩) fl_ Z fun aQ ar=>UM U6 ar U3<|Uk U6<|UJ U8<|UN U8<|Un [0,1,5,6,7,9,15,16,17,80] a Z<|G.cd (fun Q=>?_) fun Q=>?_
   ·have e:y<x∨y=x/\t.bas r<t.bas i:=by
     have e:(decide (jt ((t.line i).c / -(t.line i).g s) ((t.line r).c / -(t.line r).g s) > 0) || (jt ((t.line i).c / -(t.line i).g s) ((t.line r).c / -(t.line r).g s) == 0 && decide ((t.bas i:Int) > (t.bas r:Int))))=true:=Q;rw [A,hy,Ga,Gb] at e;simp only [SA,QR,QK] at e;rcases e with h1 | ⟨h1,h2⟩
     ·exact .inl h1
     exact .inr ⟨h1,by omega⟩
    have q:=f.keep (by rw [A,hy];exact e.elim .inl (fun h1=>.inr ⟨h1.1,by have:=h1.2;omega⟩));refine Ul fun R a=>Uq _ Z U6<|C6 1 [0,1,5,6,15,16,17] a Z<|Uw (m':=t.basic.length-(i+1)) om_ mup (hn_ [0,1,5,6,15,16,17] Z) ⟨i+1,(r:Int),qtx ((t.line r).c / -(t.line r).g s),⟨by omega,q,F⟩,Z,Z,Z⟩
   have e:x<y∨x=y/\t.bas i<=t.bas r:=by
    have e:(decide (jt ((t.line i).c / -(t.line i).g s) ((t.line r).c / -(t.line r).g s) > 0) || (jt ((t.line i).c / -(t.line i).g s) ((t.line r).c / -(t.line r).g s) == 0 && decide ((t.bas i:Int) > (t.bas r:Int))))=false:=Q;rw [A,hy,Ga,Gb] at e;simp only [Sr,Bool.and_eq_false_iff,Q7] at e;obtain ⟨h1,h2⟩:=e;by_cases h3:x<y
    ·exact .inl h3
    have h4:y=x:=by grind
    rcases h2 with h2 | h2
    ·exact absurd h4 h2
    exact .inr ⟨h4.symm,by omega⟩
   have q:=f.less d.1 d.2 (by rw [A,hy];exact e);refine Uh 4 [0,1,5,6,15,16,17] Z<|Ul fun R a=>Uq _ Z U6<|C6 1 [0,1,5,6,15,16,17] a Z<|Uw (m':=t.basic.length-(i+1)) om_ mup (hn_ [0,1,5,6,15,16,17] Z) ⟨i+1,(i:Int),qtx ((t.line i).c / -(t.line i).g s),⟨by omega,q,fun r' au=>by rw [show r'=i by omega]⟩,Z,Z,Z⟩
  have ak:¬ 0<=o:=by simpa using QF M
  have av:o=-1:=by
   rcases nQ f with h1 | ⟨r,h1,_⟩
   ·exact h1
   omega
  subst av;have q:=f.first d.1 d.2;refine Uh 4 [0,1,5,6,15,16,17] Z<|Ul fun R a=>Uq _ Z U6<|C6 1 [0,1,5,6,15,16,17] a Z<|Uw (m':=t.basic.length-(i+1)) om_ mup (hn_ [0,1,5,6,15,16,17] Z) ⟨i+1,(i:Int),qtx ((t.line i).c / -(t.line i).g s),⟨by omega,q,fun r' au=>by rw [show r'=i by omega]⟩,Z,Z,Z⟩
 have p:i=t.basic.length:=by
  have:=QF H;omega
 exact Uh 2 [4] Z<|Up U2<|⟨Z,o,Z,by rw [<- p];exact f⟩
def ryF (t:Lp.Tab)(s n:Nat)(k:Rat)(i:Nat):List Rat:=(List.range n).map fun v=>if v∈t.basic.take i then k*t.dir s v else if v=t.oth s then k else 0
theorem kJ :(ryF t s n k i).length=n:=by simp [ryF]
theorem Bx (h:v<n):(ryF t s n k i)[v]?=some (if v∈t.basic.take i then k*t.dir s v else if v=t.oth s then k else 0):=by
 unfold ryF;rw [QD,Rc h];rfl
theorem Je (h:n<=t.oth s):List.replicate n 0=ryF t s n k 0:=by
 refine List.ext_getElem? fun v=>?_;by_cases a:v<n
 ·rw [Bx a,RZ,aJ a,List.take_zero,aF RJ,aF om_]
 rw [QJ ap,QJ (by rw [kJ];omega)]
theorem MB (h:t.oth s<n):(List.replicate n 0).set (t.oth s) k=ryF t s n k 0:=by
 refine List.ext_getElem? fun v=>?_;rw [List.getElem?_set];by_cases a:v<n
 ·rw [Bx a,RZ,aJ a,List.take_zero,aF RJ];by_cases e:t.oth s=v
  ·rw [aJ e,aJ (by simpa using h),aJ e.symm]
  rw [aF e,aF (fun b=>e b.symm)]
 rw [aF om_,QJ ap,QJ (by rw [kJ];omega)]
theorem MA (b:Lp.TabOf p t)(c:s<t.others.length)(h:i<t.basic.length)(d:t.bas i<n):(ryF t s n k i).set (t.bas i) (k*(t.line i).g s)=ryF t s n k (i+1):=by
 refine List.ext_getElem? fun v=>?_;rw [List.getElem?_set,kJ];by_cases a:v<n
 ·rw [Bx a,Bx a,lF h];by_cases e:t.bas i=v
  ·subst e;rw [aJ rfl,aJ a,aJ al,Lp.dir_bas b c h]
  rw [aF e];by_cases hm:v∈t.basic.take i
  ·rw [aJ hm,aJ (by simp [hm])]
  rw [aF hm,aF (show ¬ v∈t.basic.take i++[t.bas i] by simp [hm];exact fun h2=>e h2.symm)]
 rw [aF om_,QJ (by rw [kJ];omega),QJ (by rw [kJ];omega)]
theorem Jf (h:i<t.basic.length)(a:n<=t.bas i):ryF t s n k i=ryF t s n k (i+1):=by
 refine List.map_congr_left fun v hm=>?_;have b:=QU.1 hm;rw [lF h];by_cases hm:v∈t.basic.take i
 ·rw [aJ hm,aJ (by simp [hm])]
 rw [aF hm,aF (show ¬ v∈t.basic.take i++[t.bas i] by simp [hm];omega)]
theorem MC (a:Lp.TabOf p t):ryF t s n k t.basic.length=(List.range n).map fun v=>k*t.dir s v:=by
 refine List.map_congr_left fun v _=>?_;rw [QM];split
 ·rfl
 next h =>
 rw [Lp.dir_oth a h];split <;> grind
def lj (t:Lp.Tab)(s:Nat):Rat:=if 0<t.worth.g s then -1 else 1
theorem O8:qtx (-1)=[45,49]:=by decide +kernel
theorem O7 (C:Mem)(Q:Tabs C)(p:Lp.Sys)(b s:Nat)(t:Lp.Tab)(S T U V:Value)(r:List Value)(h:TabV C b p.n t S T U V r)(x:Lp.TabOf p t)(I:s<t.others.length)(X:p.n<=1000000)(Y:∀ i,i<t.basic.length->QB 20 ((t.line i).g s))(aa:QB 20 (t.worth.g s)) :
  Jog.Fn cx.P 142 [.pointer (some ⟨b,0,none⟩),.int .i64 s] C [] fun u _ c=>∃ g,u=.slice (some ⟨g,0,none⟩) p.n p.n/\c=[.arr u 32 1 p.n (((List.range p.n).map fun v=>lj t s*t.dir s v).map aQ).flatten]:=by
 have ok:=x.ok;obtain ⟨A1,J,rfl,ab,aq,_⟩:=id h.B;obtain ⟨A2,c2,rfl,au,av,_⟩:=id h.L;obtain ⟨A3,c3,rfl,aw,ax,_⟩:=id h.O;obtain ⟨A4,c4,rfl,ay,az,_⟩:=id h.W;have ac:=h.B;have aA:t.basic.length<=J:=by rwa [ar] at ab
 have aB:maxLen<=9223372036854775807:=by simp [maxLen]
 have aC:=ok.ll;have ad:=h.fl;have aD:=ok.wl;have ae:QB 20 (lj t s):=by unfold lj;split <;> exact ⟨by decide,by decide⟩
 refine Ur func142 72 U3 fun w0=>Uh 1 [0,1] Z<|Uh 1 [0,1,5] Z<|Ui 4 Z fun R a=>Uj (PtrTo.blockT (h.m_.o) _ 1) U8<|Uk U6<|Uy h.W.m_ U10 om_ (dO om_) fl_ fun aE ag=>Uj ag U8<|Uu (gd _ (t.worth.g s) (QW (bg aa dc_) dc_)) U7 fl_<|C6 1 [0,1,5,19] a Z<|G.cut (fun fr K c f=>(True)/\fr=[(0,[],.pointer (some ⟨b,0,none⟩)),(1,[],.int .i64 s),(5,[],af (qtx (lj t s)))]/\c=[]) ?_ (fun fr _ aG f _ l=>?_)
 ·refine G.cd (fun y=>?_) fun y=>?_
  ·have z:lj t s=-1:=by
    have d:0<t.worth.g s:=by
     have d:decide (0<eH (t.worth.g s).num)=true:=y;rw [ur] at d;exact PZ d
    unfold lj;rw [aJ d]
   refine Uh 1 [0,1,5] Z<|Ux 0 (Mem.le.refl _) (hn_ [0,1,5] Z) ⟨trivial,by rw [z,O8];rfl,Z⟩
  have z:lj t s=1:=by
   have d:¬ 0<t.worth.g s:=by
    have d:decide (0<eH (t.worth.g s).num)=false:=y;rw [ur] at d;exact QF d
   unfold lj;rw [aF d]
  refine Ux 0 (Mem.le.refl _) (hn_ [0,1,5] Z) ⟨trivial,by rw [z,qtx1];rfl,Z⟩
 obtain ⟨ah,rfl,rfl⟩:=l;refine UI [(4,3)] Z fun R a=>Um 3 Z<|Uj (PtrTo.blockT (h.m_.o) _ 1) U8<|D.call (jb _ p.n X) Z (.inr dc_) U6 (QI _) fl_ fun aH _ aI _ aj=>C6 1 [0,1,5,6] a Z ?_;obtain ⟨g,rfl,rfl⟩:=aj;refine Uz (L':=[.arr (.slice (some ⟨g,0,none⟩) p.n p.n) 32 1 p.n ((List.replicate p.n (0:Rat)).map aQ).flatten]) (by rw [<- uh];rfl)<|Ui 3 Z fun R a=>Uj (PtrTo.blockT (h.m_.o) _ 1) U8<|Uk U6<|Uy h.O.m_ U10 om_ (show (t.others.map aT)[s]?=some (aT (t.oth s)) from fh I) fl_ fun aK ak=>Uj ak U8<|C6 1 [0,1,5,6,7] a Z<|Ui 2 Z fun R a=>Ut (fu _ b p.n (t.oth s) t _ _ _ _ r h.m_) U7<|C6 1 [0,1,5,6,7,35] a Z<|G.cut (fun fr K c f=>(True)/\fr=[(0,[],.pointer (some ⟨b,0,none⟩)),(1,[],.int .i64 s),(5,[],af (qtx (lj t s))),(6,[],.slice (some ⟨g,0,none⟩) p.n p.n)]/\c=[.arr (.slice (some ⟨g,0,none⟩) p.n p.n) 32 1 p.n ((ryF t s p.n (lj t s) 0).map aQ).flatten]) ?_ (fun fr _ aL f _ l=>?_)
 ·refine G.cd (fun A=>?_) fun A=>?_
  ·have q:t.oth s<p.n:=by
    have q:¬ p.n<=t.oth s:=by simpa using A
    omega
   refine Ui 3 Z fun R a=>UL (t.oth s*1) U10 ai U2<|UO (j:=0) U11 (by show t.oth s*1+1<=_;rw [bR bJ,Rb];omega)<|Un [0,1,5,6] a Z<|Uz (L':=[.arr (.slice (some ⟨g,0,none⟩) p.n p.n) 32 1 p.n ((ryF t s p.n (lj t s) 0).map aQ).flatten]) (by rw [<- MB q,<- bK bJ _ (by rw [Rb];exact q)];rfl)<|Ux 0 (Mem.le.refl _) (hn_ [0,1,5,6] Z) ⟨trivial,Z,Z⟩
  have q:p.n<=t.oth s:=by simpa using A
  rw [Je (k:=lj t s) q];refine Ux 0 (Mem.le.refl _) (hn_ [0,1,5,6] Z) ⟨trivial,Z,Z⟩
 obtain ⟨ah,rfl,rfl⟩:=l;refine Ui 3 Z fun R a=>Uj (PtrTo.blockT (h.m_.o) _ 1) U8<|C6 2 [0,1,5,6,43,44,45] a Z<|G.loop (fun fr K c f=>∃ (i:Nat),(i<=t.basic.length)/\fr=[(0,[],.pointer (some ⟨b,0,none⟩)),(1,[],.int .i64 s),(5,[],af (qtx (lj t s))),(6,[],.slice (some ⟨g,0,none⟩) p.n p.n),(43,[],.slice A1 (t.basic.map aT).length J),(44,[],.int .i64 (t.basic.map aT).length),(45,[],.int .i64 i)]/\c=[.arr (.slice (some ⟨g,0,none⟩) p.n p.n) 32 1 p.n ((ryF t s p.n (lj t s) i).map aQ).flatten]/\f=t.basic.length-i) (hn_ [0,1,5,6,43,44,45] Z) ⟨0,QH _,Z,Z,Z⟩ (fun fr aM aN m M l=>?_);obtain ⟨i,hi,rfl,rfl,rfl⟩:=l;refine Uh 1 [0,1,5,6,43,44,45,46] Z<|G.cd (fun E=>?_) fun E=>?_
 ·have e:i<t.basic.length:=by
   have:=PZ E;rw [ar] at this;omega
  obtain ⟨F,aO⟩:=lZ h ok e;obtain ⟨A5,c5,al,aP,aR,_⟩:=id F;have N:=jT (ls:=t.lines) (ws:=r) (i:=i) om_ ad;rw [al] at N F;refine Ui 1 Z fun R a=>Uy ac.m_ U10 om_ (show (t.basic.map aT)[i]?=some (aT (t.bas i)) from fh e) fl_ fun aS am=>Uj am U8<|C6 2 [0,1,5,6,8,9,43,44,45] a Z<|Ui 2 Z fun R a=>Ut (fu _ b p.n (t.bas i) t _ _ _ _ r h.m_) U7<|C6 1 [0,1,5,6,8,9,43,44,45,53] a Z<|G.cd (fun H=>?_) fun H=>?_
  ·have w:t.bas i<p.n:=by
    have aU:¬ p.n<=t.bas i:=by simpa using H
    omega
   refine Ui 6 Z fun R a=>Uj (PtrTo.blockT (h.m_.o) _ 1) U8<|Uk U6<|Uy h.L.m_ U10 om_ N fl_ fun aV an=>Vz an U10 fl_ fun aW ao=>Uj ao U8<|Uk U6<|Uy F.m_ U10 om_ (dO om_) fl_ fun aX ap=>Uj ap U8<|Uu (dm _ Q.m_ (lj t s) ((t.line i).g s) 20 dc_ dc_ ae (Y i e)) U7 fl_<|UL (t.bas i*1) U10 ai U2<|UO (j:=0) U11 (by show t.bas i*1+1<=_;rw [bR bJ,kJ];omega)<|Un [0,1,5,6,43,44,45] a Z<|Ul fun R a=>Uq _ Z U6<|C6 1 [0,1,5,6,43,44,45] a Z<|Uz (L':=[.arr (.slice (some ⟨g,0,none⟩) p.n p.n) 32 1 p.n ((ryF t s p.n (lj t s) (i+1)).map aQ).flatten]) (by rw [<- MA x I e w,<- bK bJ _ (by rw [kJ];exact w)];rfl)<|Uw (m':=t.basic.length-(i+1)) om_ M (hn_ [0,1,5,6,43,44,45] Z) ⟨i+1,om_,Z,Z,Z⟩
  have w:p.n<=t.bas i:=by simpa using H
  rw [Jf e w];refine Ul fun R a=>Uq _ Z U6<|C6 1 [0,1,5,6,43,44,45] a Z<|Uw (m':=t.basic.length-(i+1)) om_ M (hn_ [0,1,5,6,43,44,45] Z) ⟨i+1,om_,Z,Z,Z⟩
 have e:i=t.basic.length:=by
  have:=QF E;rw [ar] at this;omega
 refine Uh 2 [4] Z<|Uv (UV Z Z ?_);exact ⟨g,Z,by rw [e,MC x]⟩
end Go.Proofs.YtfjcldheldflbaaGreatDoor
