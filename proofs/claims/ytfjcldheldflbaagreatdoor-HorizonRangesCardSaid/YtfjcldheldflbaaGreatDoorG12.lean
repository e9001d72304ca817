/- Laws that the proofs of this seat share, part 12. -/
import Derived.Test.YtfjcldheldflbaaGreatDoorG11
import Derived.Test.YtfjcldheldflbaaGreatDoorShelf
set_option maxHeartbeats 4000000
namespace Go.Proofs.YtfjcldheldflbaaGreatDoor
open Go.Proofs.Tryz
open Go Go.Jog
set_option maxRecDepth 100000
variable {C:Mem}{N b:Nat}{bf fs:List Rat}{i j:Nat}{k:Rat}{l:Lp.Line}{ls:List (Rat × Value)}{n:Nat}{o:Int}{p:Lp.Sys}{q:Nat}{r:List Str × Str}{rows:List (List Str × Str)}{s:Nat}{t:Lp.Tab}{v:Nat}{vs:List Value}{wB:Value}{wF:Nat->Value}{wL wO wW:Value}
def RowsT (C:Mem)(v:Value)(rows:List (List Str × Str)):Prop:=∃ vs:List Value,vs.length=rows.length/\(∀ (i:Nat)(w:Value)(r:List Str × Str),vs[i]?=some w->rows[i]?=some r->Sl C 1 w (r.1.map yW))/\Sl C 2 v (List.zipWith (fun w (r:List Str × Str)=>[w,af r.2]) vs rows)
theorem RowsT.mono {C D:Mem}{v:Value}{a:List (List Str × Str)}(h:RowsT C v a)(b:C.le D):RowsT D v a:=by
 obtain ⟨vs,h1,h2,h3⟩:=h;exact ⟨vs,h1,fun i w r c hr=>(h2 i w r c hr).mono b,h3.mono b⟩
theorem RowsT.m_ {D:Mem}{v:Value}(h:RowsT C v rows)(a:C.le D:=by exact mup):RowsT D v rows:=RowsT.mono h a
theorem D6 {w:Value}(a:vs[i]?=some w)(b:rows[i]?=some r):(List.zipWith (fun w (r:List Str × Str)=>[w,af r.2]) vs rows)[i]?=some [w,af r.2]:=by
 rw [List.getElem?_zipWith,a,b]
theorem sX (h:vs.length=rows.length):(List.zipWith (fun w (r:List Str × Str)=>[w,af r.2]) vs rows).length=rows.length:=by simp [h]
def EU (n:Int)(r:List Str × Str):Int:=if iY n r.1≠0 then iY n r.1 else nX (aS r.2)
def tB (n:Int):List (List Str × Str)->Int
 | []=>0
 | r::l=>if EU n r≠0 then EU n r else tB n l
def HI (n:Int)(rows:List (List Str × Str))(obj:List Str):Int:=if n<0∨60<n then 3 else if 300<rows.length then 4 else if iY n obj≠0 then iY n obj else tB n rows
def PB (rows:List (List Str × Str)):Prop:=∀ r∈rows,(∀ s∈r.1,s.length<=999998)/\r.2.length<=999998
theorem wn (C:Mem)(p:Tabs C)(n:Int)(E F:Value)(a:List (List Str × Str))(c:List Str)(M:RowsT C E a)(q:Sl C 1 F (c.map yW))(H:PB a)(N:∀ s∈c,s.length<=999998) :
  Gives cx.P 73 [.agg ⟨[.int .i64 n,E,F]⟩] C (.int .i64 (HI n a c)):=by
 obtain ⟨vs,O,Q,t⟩:=M;obtain ⟨S,c0,rfl,T,ae,_⟩:=id t;obtain ⟨A1,c1,rfl,U,af,_⟩:=id q;have ag:maxLen<=9223372036854775807:=by simp [maxLen]
 simp only [sX O,al] at t q T U ⊢;refine Tr func73 48 U3 fun w0=>Tl fun R b=>TC U6 fun V=>C6 1 [1] b Z<|G.freeze 0 Z fun _ _ d=>Ti 1 Z fun R b=>Tj (bkT d 1) U8<|Tm 3 Z<|TN U6 (fun _=>PtrTo.blockT (Mem.get d mup) _ 1) U3<|Tk U6<|TQ U8<|C6 1 [1,7] b Z<|G.cd (fun u=>?_) fun u=>?_
 ·have f:n<0∨60<n:=by
   simp only [Ru,PN] at u;omega
  exact Th 1 [2] Z<|Tp U2<|⟨by unfold HI;rw [aK f],Z⟩
 have f:¬ (n<0∨60<n):=by
  simp only [Rk,P7] at u;omega
 refine Ti 1 Z fun R b=>Tj (bkT d 1) U8<|C6 3 [1,16] b Z<|G.cd (fun v=>?_) fun v=>?_
 ·have g:300<a.length:=by
   have:=aY v;omega
  exact Th 1 [2] Z<|Tp U2<|⟨by unfold HI;rw [aG f,aK g],Z⟩
 have g:¬ 300<a.length:=by
  have:=PJ v;omega
 refine Ti 1 Z fun R b=>Tj (bkT d 1) U8<|Tk U6<|Tj (bkT d 1) U8<|Tt (Bc _ p.m_ _ n c q.m_ N) U7<|C6 1 [1,3] b Z<|Th 2 [1,3,27] Z<|G.cd (fun x=>?_) fun x=>?_
 ·have y:iY n c≠0:=by simpa using x
  exact Th 2 [2] Z<|Tp U2<|⟨by unfold HI;rw [aG f,aG g,aK y],Z⟩
 have y:¬ iY n c≠0:=by simpa using x
 have z:HI n a c=tB n a:=by unfold HI;rw [aG f,aG g,aG y]
 refine Ti 1 Z fun R b=>Tj (bkT d 1) U8<|C6 2 [1,30,31,32] b Z<|G.loop (fun fr C' W X=>∃ (i:Nat),(i<=a.length/\tB n a=tB n (a.drop i))/\fr=[(1,[],.pointer (some ⟨V,0,none⟩)),(30,[],.slice S a.length c0),(31,[],.int .i64 a.length),(32,[],.int .i64 i)]/\W=[]/\X=a.length-i) (hn_ [1,30,31,32] Z) ⟨0,⟨PL _,Z⟩,Z,Z,Z⟩ (fun fr ah ai m _ Y=>?_);obtain ⟨i,⟨hi,e⟩,rfl,rfl,rfl⟩:=Y;refine Th 1 [1,30,31,32,33] Z<|G.cd (fun A=>?_) fun A=>?_
 ·have h:i<a.length:=by
   have:=aY A;omega
  obtain ⟨r,k⟩:∃ r,a[i]?=some r:=⟨a[i],aj h⟩;obtain ⟨w,I⟩:∃ w,vs[i]?=some w:=⟨vs[i]'om_,aj _⟩;have J:=O0 k;have K:=Q i w r I k;obtain ⟨Aw,cw,rfl,_⟩:=id K;have aa:a.drop i=r::a.drop (i+1):=P1 h |>.trans (by rw [(aJ.1 k).2]);rw [aa] at e;simp only [tB] at e;refine Tl fun R b=>Ty t.m_ U10 om_ (D6 I k) fl_ fun ak ab=>Tj ab U8<|TB U5 fun b5=>Ts (j:=0) U12<|Tn [1,5,30,31,32] b Z<|G.freeze 0 Z fun _ _ L=>Ti 1 Z fun R b=>Tj (bkT L 1) U8<|Tk U6<|Tj (bkT d 1) U8<|Tt (Bc _ p.m_ _ n r.1 K.m_ (H r J).1) U7<|C6 1 [1,5,6,30,31,32] b Z<|Th 2 [1,5,6,30,31,32,42] Z<|G.cd (fun B=>?_) fun B=>?_
  ·have l:iY n r.1≠0:=by simpa using B
   have o:EU n r=iY n r.1:=by unfold EU;rw [aK l]
   exact Th 2 [2] Z<|Tp U2<|⟨by rw [z,e,o,aK l],Z⟩
  have l:¬ iY n r.1≠0:=by simpa using B
  have o:EU n r=nX (aS r.2):=by unfold EU;rw [aG l]
  refine Ti 1 Z fun R b=>Tj (bkT L 1) U8<|Tt (pd _ p.m_ r.2 (H r J).2) U7<|Tn [1,30,31,32,46] b Z<|G.cd (fun D=>?_) fun D=>?_
  ·have ac:aS r.2=false:=by simpa using D
   exact Th 1 [2] Z<|Tp U2<|⟨by rw [z,e,o,ac];rfl,Z⟩
  have ad:aS r.2=true:=by simpa using D
  refine Tl fun R b=>Tq _ Z U6<|C6 1 [1,30,31,32] b Z<|Tv (m':=a.length-(i+1)) om_ mup (hn_ [1,30,31,32] Z) ⟨i+1,⟨by omega,by rw [e,o,ad];rfl⟩,Z,Z,Z⟩
 have h:i=a.length:=by
  have:=PJ A;omega
 exact Th 1 [2] Z<|Tp U2<|⟨by rw [z,e,h,QI];rfl,Z⟩
theorem tR {a b:Rat}{k m:Nat}(c:QB k a)(d:QB m b):QB (k+m) (a*b):=by
 rw [gw];refine gW (Nat.mul_ne_zero a.den_nz b.den_nz) ?_ ?_
 ·rw [Q9,Sy];exact Rx c.1 d.1
 rw [Sy];exact Rx c.2 d.2
def fH (r:List Rat × Rat):List Str × Str:=(r.1.map qtx,qtx r.2)
structure RowsQ (n:Nat)(rs:List (List Rat × Rat)):Prop where
 l:∀ r∈rs,r.1.length=n
 q:∀ r∈rs,(∀ x∈r.1,QB 23 x)/\QB 23 r.2
 m:rs.length<=150
theorem Ov {l:List Rat}(h:∀ x∈l,QB 23 x):QB 23 (l.getD j 0):=by
 rw [ax];cases e:l[j]? with
 | none=>exact ⟨by decide,by decide⟩
 | some x=>exact h x (O0 e)
theorem tM (q:Rat):decide (eN q.num<0)=decide (q<0):=by
 have h:q.num<0 ↔ q<0:=by rw [Rat.lt_iff];simp
 rw [Qy];unfold eN;by_cases h1:q.num<0
 ·rw [aK h1];exact ⟨fun _=>h.1 h1,fun _=>by decide⟩
 rw [aG h1];exact ⟨fun h2=>by split at h2 <;> exact absurd h2 dc_,fun h2=>absurd (h.2 h2) h1⟩
open Classical in
theorem sG (b:Bool):nX b=0/\b=true∨nX b=2/\b=false:=by cases b <;> simp [nX]
theorem bJ:∀ q:Rat,(aQ q).length=1:=fun _=>rfl
open Classical in
theorem Fg (q:Rat):decide (eN q.num ≥ 0)=decide (0<=q):=by
 have h:=tM q;have h2:decide (0<=q)=!decide (q<0):=by
  rw [<- decide_not,Qy];grind
 rw [h2,<- h,<- decide_not,Qy];omega
theorem LS:qtx 0=[48]:=by decide +kernel
theorem Pr:aQ 0=[Value.string ⟨#[48]⟩]:=by
 show [af (qtx 0)]=_;rw [LS];rfl
def zF (fs:List Rat)(s q:Nat):Rat:=if q=s then 0 else fs.getD q 0
def kG (fs bf:List Rat)(s:Nat)(k:Rat)(j:Nat):List Rat:=(List.range fs.length).map fun q=>zF fs s q+(if q<j then k*bf.getD q 0 else 0)
theorem gQ :(kG fs bf s k j).length=fs.length:=by simp [kG]
theorem wc :fs.set s 0=kG fs bf s k 0:=by
 refine List.ext_getElem? fun q=>?_;unfold kG;rw [List.getElem?_set,PH];by_cases a:q<fs.length
 ·rw [Qi a];simp only [Ra,Nat.not_lt_zero,Q0];unfold zF;split
  ·next e=>rw [aK om_,aK e.symm];rw [Rat.add_zero]
  next e=>rw [aG (fun b=>e b.symm),ax,aj a];simp only [QW];congr 1;grind
 rw [PO om_,PO ap];split
 ·split
  ·omega
  rfl
 rfl
theorem tH (h:q<fs.length):(kG fs bf s k j)[q]?=some (zF fs s q+(if q<j then k*bf.getD q 0 else 0)):=by
 unfold kG;rw [PH,Qi h];rfl
theorem AW (h:j<fs.length):(kG fs bf s k j).set j (zF fs s j+k*bf.getD j 0)=kG fs bf s k (j+1):=by
 refine List.ext_getElem? fun q=>?_;rw [List.getElem?_set,gQ];by_cases a:q<fs.length
 ·rw [tH a,tH a];by_cases e:j=q
  ·subst e;rw [aK rfl,aK a,aK om_]
  rw [aG e];by_cases h1:q<j
  ·rw [aK h1,aK om_]
  rw [aG h1,aG om_]
 rw [PO (by rw [gQ];omega),PO (by rw [gQ];omega)];split
 ·exact absurd om_ a
 rfl
theorem wg (a:bf.getD j 0=0):kG fs bf s k j=kG fs bf s k (j+1):=by
 refine List.map_congr_left fun q _=>?_;by_cases e:q=j
 ·subst e;rw [aG om_,aK om_,a];grind
 by_cases h1:q<j
 ·rw [aK h1,aK om_]
 rw [aG h1,aG om_]
theorem wd :kG fs bf s 0 j=kG fs bf s 0 0:=by
 refine List.map_congr_left fun q _=>?_;split <;> split <;> grind
theorem Fc {c bc:Rat}(_b:s<fs.length):Lp.putL ⟨c,fs⟩ s ⟨bc,bf⟩=⟨c+fs.getD s 0*bc,kG fs bf s (fs.getD s 0) fs.length⟩:=by
 unfold Lp.putL;congr 1;refine List.map_congr_left fun q a=>?_;rw [aK (PX.1 a)];rfl
theorem Nr (a:∀ x∈fs,QB 50 x)(b:q<fs.length):QB 50 (zF fs s q):=by
 unfold zF;split
 ·exact ⟨by decide,by decide⟩
 rw [ax,aj b];exact a _ (Qx _)
def bE (p:Rat × Value):List Value:=[af (qtx p.1),p.2]
theorem gA:∀ p,(bE p).length=2:=fun _=>rfl
theorem nQ {p:Rat × Value}(h:ls[i]?=some p):(ls.map bE).flatten.drop (i*2)=af (qtx p.1)::p.2::(ls.map bE).flatten.drop (i*2+2):=by
 obtain ⟨h1,h2⟩:=aJ.1 h;have e:=(cE gA ls i).2;have a:=(cE gA ls (i+1)).2;rw [Rm] at a;rw [e,a,P1 h1,h2];rfl
theorem Ii {p:Rat × Value}(h:ls[i]?=some p):ls.set i p=ls:=by
 refine List.ext_getElem? fun j=>?_;rw [List.getElem?_set];split
 ·next e=>subst e;rw [aK (aJ.1 h).1,h]
 rfl
theorem De {p:Rat × Value}(h:ls[i]?=some p):((ls.map bE).flatten.drop (i*2)).take 1=[af (qtx p.1)]:=by rw [nQ h];rfl
theorem jM {p:Rat × Value}(h:ls[i]?=some p):((ls.map bE).flatten.drop (i*2+1)).take 1=[p.2]:=by rw [<- List.drop_drop,nQ h];rfl
theorem yE {p:Rat × Value}(h:ls[i]?=some p)(c:Rat):aE (ls.map bE).flatten [af (qtx c)] (i*2)=((ls.set i (c,p.2)).map bE).flatten:=by
 rw [<- bN gA (c,p.2) (aJ.1 h).1];unfold aE;have:(ls.map bE).flatten.drop (i*2+1)=p.2::(ls.map bE).flatten.drop (i*2+2):=by rw [<- List.drop_drop,nQ h];rfl
 show _++[_]++List.drop (i*2+1) _=_++[_,_]++List.drop (i*2+2) _;rw [this];simp
theorem LV (C:Mem)(t:Tabs C)(g e f n s:Nat)(i l o p z:Value)(b d:List Rat)(c h:Rat)(ah:b.length=n)(ak:d.length=n)(hs:s<n)(q:Sl C 1 z (d.map aQ))(Q:QB 50 c)(A:∀ x∈b,QB 50 x)(B:QB 50 h)(S:∀ x∈d,QB 50 x) :
  Jog.Fn cx.P 262 [.pointer (some ⟨g,4,none⟩),.int .i64 s,.agg ⟨[af (qtx h),z]⟩] C [.obj g (.cells ⟨[i,l,o,p,af (qtx c),.slice (some ⟨e,0,none⟩) n f]⟩ 231 (0,0)),.arr (.slice (some ⟨e,0,none⟩) n f) 32 1 n (b.map aQ).flatten]
   fun u _ r=>u=.tuple #[]/\r=[.obj g (.cells ⟨[i,l,o,p,af (qtx (c+b.getD s 0*h)),.slice (some ⟨e,0,none⟩) n f]⟩ 231 (0,0)),.arr (.slice (some ⟨e,0,none⟩) n f) 32 1 n ((kG b d s (b.getD s 0) n).map aQ).flatten]:=by
 obtain ⟨T,U,rfl,V,am,_⟩:=id q;simp only [al] at V q ⊢;have D:s<b.length:=by omega
 have an:maxLen<=9223372036854775807:=by simp [maxLen]
 obtain ⟨k,E⟩:∃ k,b.getD s 0=k:=⟨_,rfl⟩;have F:b[s]?=some k:=by rw [<- E,ax,aj D];rfl
 have v:QB 50 k:=A k (O0 F);rw [E];refine Tr func262 64 U3 fun w0=>?_;refine Tz (L':=[.obj g (.cells ⟨[i,l,o,p,af (qtx c),.slice (some ⟨e,0,none⟩) n f]⟩ 231 (0,0)),.arr (.slice (some ⟨e,0,none⟩) n f) 32 1 n (b.map aQ).flatten]) Z ?_;refine Tl fun R a=>?_;refine TC U6 (fun b5=>?_);refine Tn [0,1,5] a Z ?_;clear a R;refine G.freeze 0 Z (fun _ _ H=>?_);refine Ti 3 Z fun R a=>?_;refine To ag U9 ?_;refine Tk U6 ?_;refine TL (s*1) U10 ai U2 ?_;refine Ue ae U6 (fun _=>(by rw [eD bJ F];rfl)) U2 ?_;refine C6 1 [0,1,5,6] a Z ?_;clear a R;refine Ti 3 Z fun R a=>?_;refine To ag U9 ?_;refine Tk U6 ?_;refine TL (s*1) U10 ai U2 ?_;refine TP (j:=1) U11 (by show s*1+1<=_;rw [bW bJ];omega) ?_;refine Tn [0,5,6] a Z ?_;clear a R;refine G.perm (L':=[.obj g (.cells ⟨[i,l,o,p,af (qtx c),.slice (some ⟨e,0,none⟩) n f]⟩ 231 (0,0)),.arr (.slice (some ⟨e,0,none⟩) n f) 32 1 n ((kG b d s k 0).map aQ).flatten]) (by rw [<- wc,<- bN bJ 0 D,Pr];exact List.Perm.swap _ _ _) ?_;refine Th 2 [0,5,6,23] Z ?_;refine G.cd (fun I=>?_) fun I=>?_
 ·have W:qtx k=[48]:=by simpa using I
  have X:k=0:=ly (W.trans (by decide +kernel:([48]:List UInt8)=qtx 0));subst X;have Y:c+0*h=c:=by grind
  refine Tz (L':=[.obj g (.cells ⟨[i,l,o,p,af (qtx (c+0*h)),.slice (some ⟨e,0,none⟩) n f]⟩ 231 (0,0)),.arr (.slice (some ⟨e,0,none⟩) n f) 32 1 n ((kG b d s 0 n).map aQ).flatten]) (by rw [Y,wd (j:=n)]) ?_;refine Tu (Vv Z  ?_);exact ⟨Z,Z⟩
 refine TD [0,1,2,3,4,5,6,7,8,9,10,11,12] [(8,1),(9,1)] Z kr_ (fun R q a=>?_);refine Tm 4 Z ?_;refine To ag U9 ?_;refine Tm 2 Z ?_;refine Tj (bkT H 1) U8 ?_;refine TG (fun _=>(di _ t.m_ k h 50 dc_ dc_ v B)) U9 ?_;refine TG (fun _=>(mH _ t.m_ c (k*h) 100 dc_ dc_ (Q.le dc_) ((tR v B).le dc_))) U9 ?_;refine Tm 2 Z ?_;refine Ts (j:=0) U12 ?_;refine Tn [0,5,6] a Z ?_;clear a q R;refine Ti 1 Z fun R a=>?_;refine Tj (bkT H 1) U8 ?_;refine C6 2 [0,6,37,38,39] a Z ?_;clear a R;refine G.loop (fun fr C' r μ=>∃ (j:Nat),(j<=n)/\fr=[(0,[],.pointer (some ⟨g,4,none⟩)),(6,[],af (qtx k)),(37,[],.slice T d.length U),(38,[],.int .i64 d.length),(39,[],.int .i64 j)]/\r=[.obj g (.cells ⟨[i,l,o,p,af (qtx (c+k*h)),.slice (some ⟨e,0,none⟩) n f]⟩ 231 (0,0)),.arr (.slice (some ⟨e,0,none⟩) n f) 32 1 n ((kG b d s k j).map aQ).flatten]/\μ=n-j) (hn_ [0,6,37,38,39] Z) ⟨0,PL _,Z,Z,Z⟩ (fun fr ao ap m J hI=>?_);obtain ⟨j,hj,rfl,rfl,rfl⟩:=hI;refine Th 1 [0,6,37,38,39,40] Z ?_;refine G.cd (fun w=>?_) fun w=>?_
 ·have K:j<n:=by
   have:=aY w;omega
  obtain ⟨x,y⟩:∃ x,d[j]?=some x:=⟨d[j]'om_,aj om_⟩;have L:QB 50 x:=S x (O0 y);have M:d.getD j 0=x:=by rw [ax,y];rfl
  have aa:(kG b d s k j)[j]?=some (zF b s j):=by
   rw [tH om_,aG (Nat.lt_irrefl _)];congr 1;grind
  have qz:=Nr (s:=s) A (show j<b.length by omega);have N:=AW (bf:=d) (s:=s) (k:=k) (show j<b.length by omega);rw [M] at N;refine Ti 1 Z fun R a=>?_;refine Ty q.m_ U10 om_ (kH y) fl_ (fun aq ab=>?_);refine Tj ab U8 ?_;refine C6 2 [0,6,7,8,37,38,39] a Z ?_;clear a R;refine Th 2 [0,6,7,8,37,38,39,45] Z ?_;refine G.cd (fun O=>?_) fun O=>?_
  ·refine TD [0,1,2,3,4,5,6,7,8,9,10,11,12,13,14,15,16,17] [(14,1),(15,1)] Z kr_ (fun R q a=>?_);refine Tm 3 Z ?_;refine To ag U9 ?_;refine Tm 4 Z ?_;refine To ag U9 ?_;refine Tk U6 ?_;refine TL (j*1) U10 ai U2 ?_;refine Ue ae U6 (fun _=>(by rw [eD bJ aa];rfl)) U2 ?_;refine Tm 2 Z ?_;refine TG (fun _=>(di _ t.m_ k x 50 dc_ dc_ v L)) U9 ?_;refine TG (fun _=>(mH _ t.m_ (zF b s j) (k*x) 100 dc_ dc_ (qz.le dc_) ((tR v L).le dc_))) U9 ?_;refine TL (j*1) U10 ai U2 ?_;refine TP (j:=1) U11 (by show j*1+1<=_;rw [bW bJ,gQ];omega) ?_;refine Tn [0,6,37,38,39] a Z ?_;clear a q R;refine Tl fun R a=>?_;refine Tq _ Z U6 ?_;refine C6 1 [0,6,37,38,39] a Z ?_;clear a R;refine G.perm (L':=[.obj g (.cells ⟨[i,l,o,p,af (qtx (c+k*h)),.slice (some ⟨e,0,none⟩) n f]⟩ 231 (0,0)),.arr (.slice (some ⟨e,0,none⟩) n f) 32 1 n ((kG b d s k (j+1)).map aQ).flatten]) (by rw [<- N,<- bN bJ _ (by rw [gQ];omega)];exact List.Perm.swap _ _ _) ?_;refine Tv (m':=n-(j+1)) om_ J (hn_ [0,6,37,38,39] Z) ⟨j+1,om_,Z,Z,Z⟩
  have ac:x=0:=by
   have ad:qtx x=[48]:=by simpa using O
   exact ly (ad.trans (by decide +kernel:([48]:List UInt8)=qtx 0))
  rw [wg (j:=j) (by rw [M];exact ac)];refine Tl fun R a=>?_;refine Tq _ Z U6 ?_;refine C6 1 [0,6,37,38,39] a Z ?_;clear a R;refine Tv (m':=n-(j+1)) om_ J (hn_ [0,6,37,38,39] Z) ⟨j+1,om_,Z,Z,Z⟩
 have K:j=n:=by
  have:=PJ w;omega
 rw [K];refine Uz Z ?_;exact ⟨Z,Z⟩
theorem LW (C:Mem)(t:Tabs C)(l m o i e f n s:Nat)(z:Value)(h:List (Rat × Value))(b d:List Rat)(c g:Rat)(ak:h.length=m)(q:h[i]?=some (c,.slice (some ⟨e,0,none⟩) n f))(am:b.length=n)(an:d.length=n)(hs:s<n)(r:Sl C 1 z (d.map aQ))(S:QB 50 c)(A:∀ x∈b,QB 50 x)(B:QB 50 g)(T:∀ x∈d,QB 50 x) :
  Jog.Fn cx.P 262 [.pointer (some ⟨l,i*2,none⟩),.int .i64 s,.agg ⟨[af (qtx g),z]⟩] C [.arr (.slice (some ⟨l,0,none⟩) m o) 228 2 m (h.map bE).flatten,.arr (.slice (some ⟨e,0,none⟩) n f) 32 1 n (b.map aQ).flatten]
   fun u _ p=>u=.tuple #[]/\p=[.arr (.slice (some ⟨l,0,none⟩) m o) 228 2 m ((h.set i (c+b.getD s 0*g,.slice (some ⟨e,0,none⟩) n f)).map bE).flatten,.arr (.slice (some ⟨e,0,none⟩) n f) 32 1 n ((kG b d s (b.getD s 0) n).map aQ).flatten]:=by
 obtain ⟨U,V,rfl,W,ao,_⟩:=id r;simp only [al] at W r ⊢;have D:s<b.length:=by omega
 have ap:maxLen<=9223372036854775807:=by simp [maxLen]
 obtain ⟨k,E⟩:∃ k,b.getD s 0=k:=⟨_,rfl⟩;have F:b[s]?=some k:=by rw [<- E,ax,aj D];rfl
 have v:QB 50 k:=A k (O0 F);rw [E];refine Tr func262 64 U3 fun w0=>?_;refine Tz (L':=[.arr (.slice (some ⟨l,0,none⟩) m o) 228 2 m (h.map bE).flatten,.arr (.slice (some ⟨e,0,none⟩) n f) 32 1 n (b.map aQ).flatten]) Z ?_;refine Tl fun R a=>?_;refine TC U6 (fun b5=>?_);refine Tn [0,1,5] a Z ?_;clear a R;refine G.freeze 0 Z (fun _ _ H=>?_);refine Ti 3 Z fun R a=>?_;refine Ue ag U6 (fun _=>(by rw [jM q];rfl)) U2 ?_;refine Tk U6 ?_;refine TL (s*1) U10 ai U2 ?_;refine Ue ae U6 (fun _=>(by rw [eD bJ F];rfl)) U2 ?_;refine C6 1 [0,1,5,6] a Z ?_;clear a R;refine Ti 3 Z fun R a=>?_;refine Ue ag U6 (fun _=>(by rw [jM q];rfl)) U2 ?_;refine Tk U6 ?_;refine TL (s*1) U10 ai U2 ?_;refine TP (j:=1) U11 (by show s*1+1<=_;rw [bW bJ];omega) ?_;refine Tn [0,5,6] a Z ?_;clear a R;refine G.perm (L':=[.arr (.slice (some ⟨l,0,none⟩) m o) 228 2 m (h.map bE).flatten,.arr (.slice (some ⟨e,0,none⟩) n f) 32 1 n ((kG b d s k 0).map aQ).flatten]) (by rw [<- wc,<- bN bJ 0 D,Pr];exact List.Perm.swap _ _ _) ?_;refine Th 2 [0,5,6,23] Z ?_;refine G.cd (fun I=>?_) fun I=>?_
 ·have X:qtx k=[48]:=by simpa using I
  have Y:k=0:=ly (X.trans (by decide +kernel:([48]:List UInt8)=qtx 0));subst Y;have aa:c+0*g=c:=by grind
  refine Tz (L':=[.arr (.slice (some ⟨l,0,none⟩) m o) 228 2 m ((h.set i (c+0*g,.slice (some ⟨e,0,none⟩) n f)).map bE).flatten,.arr (.slice (some ⟨e,0,none⟩) n f) 32 1 n ((kG b d s 0 n).map aQ).flatten]) (by rw [aa,wd (j:=n),Ii q]) ?_;refine Tu (Vv Z  ?_);exact ⟨Z,Z⟩
 refine TD [0,1,2,3,4,5,6,7,8,9,10,11,12] [(8,1),(9,1)] Z kr_ (fun R r a=>?_);refine Tm 4 Z ?_;refine Ue ag U6 (fun _=>(by rw [De q];rfl)) U2 ?_;refine Tm 2 Z ?_;refine Tj (bkT H 1) U8 ?_;refine TG (fun _=>(di _ t.m_ k g 50 dc_ dc_ v B)) U9 ?_;refine TG (fun _=>(mH _ t.m_ c (k*g) 100 dc_ dc_ (S.le dc_) ((tR v B).le dc_))) U9 ?_;refine Tm 2 Z ?_;refine TP (j:=0) U11 (by show i*2+1<=_;rw [bW gA];have:=(aJ.1 q).1;omega) ?_;refine Tn [0,5,6] a Z ?_;clear a r R;refine Tz (L':=[.arr (.slice (some ⟨l,0,none⟩) m o) 228 2 m ((h.set i (c+k*g,.slice (some ⟨e,0,none⟩) n f)).map bE).flatten,.arr (.slice (some ⟨e,0,none⟩) n f) 32 1 n ((kG b d s k 0).map aQ).flatten]) (by rw [<- yE q];rfl) ?_;have J:(h.set i (c+k*g,Value.slice (some ⟨e,0,none⟩) n f))[i]?=some (c+k*g,Value.slice (some ⟨e,0,none⟩) n f):=SM (aJ.1 q).1;refine Ti 1 Z fun R a=>?_;refine Tj (bkT H 1) U8 ?_;refine C6 2 [0,6,37,38,39] a Z ?_;clear a R;refine G.loop (fun fr C' p μ=>∃ (j:Nat),(j<=n)/\fr=[(0,[],.pointer (some ⟨l,i*2,none⟩)),(6,[],af (qtx k)),(37,[],.slice U d.length V),(38,[],.int .i64 d.length),(39,[],.int .i64 j)]/\p=[.arr (.slice (some ⟨l,0,none⟩) m o) 228 2 m ((h.set i (c+k*g,.slice (some ⟨e,0,none⟩) n f)).map bE).flatten,.arr (.slice (some ⟨e,0,none⟩) n f) 32 1 n ((kG b d s k j).map aQ).flatten]/\μ=n-j) (hn_ [0,6,37,38,39] Z) ⟨0,PL _,Z,Z,Z⟩ (fun fr aq ar m K hI=>?_);obtain ⟨j,hj,rfl,rfl,rfl⟩:=hI;refine Th 1 [0,6,37,38,39,40] Z ?_;refine G.cd (fun w=>?_) fun w=>?_
 ·have L:j<n:=by
   have:=aY w;omega
  obtain ⟨x,y⟩:∃ x,d[j]?=some x:=⟨d[j]'om_,aj om_⟩;have M:QB 50 x:=T x (O0 y);have N:d.getD j 0=x:=by rw [ax,y];rfl
  have ab:(kG b d s k j)[j]?=some (zF b s j):=by
   rw [tH om_,aG (Nat.lt_irrefl _)];congr 1;grind
  have qz:=Nr (s:=s) A (show j<b.length by omega);have O:=AW (bf:=d) (s:=s) (k:=k) (show j<b.length by omega);rw [N] at O;refine Ti 1 Z fun R a=>?_;refine Ty r.m_ U10 om_ (kH y) fl_ (fun au ac=>?_);refine Tj ac U8 ?_;refine C6 2 [0,6,7,8,37,38,39] a Z ?_;clear a R;refine Th 2 [0,6,7,8,37,38,39,45] Z ?_;refine G.cd (fun Q=>?_) fun Q=>?_
  ·refine TD [0,1,2,3,4,5,6,7,8,9,10,11,12,13,14,15,16,17] [(14,1),(15,1)] Z kr_ (fun R r a=>?_);refine Tm 3 Z ?_;refine Ue ag U6 (fun _=>(by rw [jM J];rfl)) U2 ?_;refine Tm 4 Z ?_;refine Ue ag U6 (fun _=>(by rw [jM J];rfl)) U2 ?_;refine Tk U6 ?_;refine TL (j*1) U10 ai U2 ?_;refine Ue ae U6 (fun _=>(by rw [eD bJ ab];rfl)) U2 ?_;refine Tm 2 Z ?_;refine TG (fun _=>(di _ t.m_ k x 50 dc_ dc_ v M)) U9 ?_;refine TG (fun _=>(mH _ t.m_ (zF b s j) (k*x) 100 dc_ dc_ (qz.le dc_) ((tR v M).le dc_))) U9 ?_;refine TL (j*1) U10 ai U2 ?_;refine TP (j:=1) U11 (by show j*1+1<=_;rw [bW bJ,gQ];omega) ?_;refine Tn [0,6,37,38,39] a Z ?_;clear a r R;refine Tl fun R a=>?_;refine Tq _ Z U6 ?_;refine C6 1 [0,6,37,38,39] a Z ?_;clear a R;refine G.perm (L':=[.arr (.slice (some ⟨l,0,none⟩) m o) 228 2 m ((h.set i (c+k*g,.slice (some ⟨e,0,none⟩) n f)).map bE).flatten,.arr (.slice (some ⟨e,0,none⟩) n f) 32 1 n ((kG b d s k (j+1)).map aQ).flatten]) (by rw [<- O,<- bN bJ _ (by rw [gQ];omega)];exact List.Perm.swap _ _ _) ?_;refine Tv (m':=n-(j+1)) om_ K (hn_ [0,6,37,38,39] Z) ⟨j+1,om_,Z,Z,Z⟩
  have ad:x=0:=by
   have ah:qtx x=[48]:=by simpa using Q
   exact ly (ah.trans (by decide +kernel:([48]:List UInt8)=qtx 0))
  rw [wg (j:=j) (by rw [N];exact ad)];refine Tl fun R a=>?_;refine Tq _ Z U6 ?_;refine C6 1 [0,6,37,38,39] a Z ?_;clear a R;refine Tv (m':=n-(j+1)) om_ K (hn_ [0,6,37,38,39] Z) ⟨j+1,om_,Z,Z,Z⟩
 have L:j=n:=by
  have:=PJ w;omega
 rw [L];refine Uz Z ?_;exact ⟨Z,Z⟩
theorem rT {n:Int}{l:List Str}:iY n l=0 ↔ (l.length:Int)=n/\l.all aS=true:=by
 unfold iY;by_cases h:(l.length:Int)=n
 ·rw [aK h];rcases sG (l.all aS) with ⟨h1,h2⟩ | ⟨h1,h2⟩
  ·rw [h1];exact ⟨fun _=>⟨h,h2⟩,fun _=>rfl⟩
  rw [h1,h2];exact ⟨fun h=>(by cases h),fun h=>(by cases h.2)⟩
 rw [aG h];exact ⟨fun h=>(by cases h),fun h2=>absurd h2.1 h⟩
theorem ET {n:Int}:EU n r=0 ↔ iY n r.1=0/\aS r.2=true:=by
 unfold EU;by_cases h:iY n r.1=0
 ·rw [aG (fun a=>a h)];rcases sG (aS r.2) with ⟨h1,h2⟩ | ⟨h1,h2⟩
  ·rw [h1];exact ⟨fun _=>⟨h,h2⟩,fun _=>rfl⟩
  rw [h1,h2];exact ⟨fun h=>(by cases h),fun h=>(by cases h.2)⟩
 rw [aK h];exact ⟨fun h2=>absurd h2 h,fun h2=>absurd h2.1 h⟩
theorem tU {l:List Nat}{x:Nat}(h:l[i]?=some x):(l.map aT)[i]?=some (aT x):=by rw [PH,h];rfl
theorem wJ {l:List Nat}{q:Nat->Prop}(h:Lp.LeastR l q n o):o=-1∨∃ i:Nat,o=i/\i<n:=by
 cases h with
 | none _=>exact .inl rfl
 | some i a _ _=>exact .inr ⟨i,rfl,a⟩
theorem nR (C:Mem)(v:Value)(l:List Nat)(g:Nat)(f:List Value)(q:Nat->Bool)(d:Sl C 1 v (l.map aT))(_O:Jog.Enters cx.P g=true)
  (E:∀ i,i<l.length->∀ D:Mem,C.le D->Gives cx.P g (.int .i64 i::f) D (.bool (q i))) :
  Pur cx.P 206 [v,.func (.func g) #[] ⟨f⟩] C fun u _=>∃ o:Int,u=.int .i64 o/\Lp.LeastR l (fun i=>q i=true) l.length o:=by
 obtain ⟨s,c0,rfl,F,Q,_⟩:=id d;have S:maxLen<=9223372036854775807:=by simp [maxLen]
 simp only [al] at d F ⊢;refine Tr func206 33 U3 fun w0=>Th 1 [0,1] Z<|Th 1 [0,1,5] Z<|Th 3 [0,1,5,8,9,10] Z<|G.loop (fun fr T H I=>∃ (i:Nat)(o:Int),(i<=l.length/\Lp.LeastR l (fun i=>q i=true) i o)/\fr=[(0,[],.slice s l.length c0),(1,[],.func (.func g) #[] ⟨f⟩),(5,[],.int .i64 o),(8,[],.slice s l.length c0),(9,[],.int .i64 l.length),(10,[],.int .i64 i)]/\H=[]/\I=l.length-i) (hn_ [0,1,5,8,9,10] Z) ⟨0, -1,⟨PL _,.none fun j J=>absurd J (Nat.not_lt_zero _)⟩,Z,Z,Z⟩ (fun fr U V m t K=>?_);obtain ⟨i,o,⟨W,a⟩,rfl,rfl,rfl⟩:=K;refine Th 1 [0,1,5,8,9,10,11] Z<|G.cd (fun k=>?_) fun k=>?_
 ·have e:i<l.length:=by
   have:=aY k;omega
  obtain ⟨x,w⟩:∃ x,l[i]?=some x:=⟨l[i],aj e⟩;have y:l.getD i 0=x:=by rw [ax,w];rfl
  have n:=wJ a;have L:¬ o<0->(l.map aT)[o.toNat]?=some (aT (l.getD o.toNat 0)):=fun h=>by
   rcases n with h1 | ⟨z,h1,h2⟩
   ·omega
   rw [h1,Rr];exact tU (by rw [ax,aj om_];rfl)
  refine Ti 1 Z fun R b=>Ty d.m_ U10 om_ (tU w) fl_ fun X M=>Tj M U8<|C6 2 [0,1,5,6,7,8,9,10] b Z<|Ti 2 Z fun R b=>Tt (E i e _ mup) U7<|Tm 7 Z<|D.index U10 (fun A=>⟨d.mono mup,(by have h:decide (o<0)=false:=A.1;have:=PJ h;omega),L (by have h:decide (o<0)=false:=A.1;exact PJ h)⟩) fl_ Z fun Y N=>TN U6 N U3<|Tk U6<|TQ U8<|TJ U8<|Tn [0,1,5,6,8,9,10,29] b Z<|G.cd (fun p=>?_) fun p=>?_
  ·have c:q i=true/\(o<0∨x<l.getD o.toNat 0):=by
    simpa using p
   have r:Lp.LeastR l (fun i=>q i=true) (i+1) i:=by
    rcases n with h1 | ⟨z,h1,h2⟩
    ·rw [h1] at a;exact a.first c.1
    rw [h1] at a c;refine a.less c.1 ?_;rw [y];rcases c.2 with h3 | h3
    ·omega
    exact h3
   refine Th 2 [0,1,5,8,9,10] Z<|Tl fun R b=>Tq _ Z U6<|C6 1 [0,1,5,8,9,10] b Z<|Tv (m':=l.length-(i+1)) om_ t (hn_ [0,1,5,8,9,10] Z) ⟨i+1,_,⟨by omega,r⟩,Z,Z,Z⟩
  have c:q i=true->¬ (o<0∨x<l.getD o.toNat 0):=by
   simpa using p
  have r:Lp.LeastR l (fun i=>q i=true) (i+1) o:=by
   by_cases B:q i=true
   ·have h3:=c B;rcases n with h1 | ⟨z,h1,h2⟩
    ·exact absurd (.inl om_) h3
    rw [h1] at a h3 ⊢;refine a.keep ?_;rw [y];exact fun h=>h3 (.inr h)
   exact a.no B
  refine Tl fun R b=>Tq _ Z U6<|C6 1 [0,1,5,8,9,10] b Z<|Tv (m':=l.length-(i+1)) om_ t (hn_ [0,1,5,8,9,10] Z) ⟨i+1,_,⟨by omega,r⟩,Z,Z,Z⟩
 have e:i=l.length:=by
  have:=PJ k;omega
 exact Th 2 [4] Z<|Tp U2<|⟨Z,o,Z,by rw [<- e];exact a⟩
structure TabV (D:Mem)(b n:Nat)(t:Lp.Tab)(wB wL wO wW:Value)(wF:List Value):Prop where
 o:D b=some (.cells ⟨[.int .i64 n,wB,wL,wO,af (qtx t.worth.c),wW]⟩ 231 (0,0))
 B:Sl D 1 wB (t.basic.map aT)
 O:Sl D 1 wO (t.others.map aT)
 W:Sl D 1 wW (t.worth.f.map aQ)
 L:Sl D 2 wL (List.zipWith (fun (l:Lp.Line) w=>[af (qtx l.c),w]) t.lines wF)
 fl:wF.length=t.lines.length
 F:∀ (i:Nat)(l:Lp.Line)(w:Value),t.lines[i]?=some l->wF[i]?=some w->Sl D 1 w (l.f.map aQ)
theorem TabV.mono {D E:Mem}{b n:Nat}{t:Lp.Tab}{c d e f:Value}{g:List Value}(h:TabV D b n t c d e f g)(a:D.le E):TabV E b n t c d e f g :=
 ⟨a _ _ h.o,h.B.mono a,h.O.mono a,h.W.mono a,h.L.mono a,h.fl,fun i l w h1 h2=>(h.F i l w h1 h2).mono a⟩
theorem TabV.m_ {D E:Mem}{a:List Value}(h:TabV D b n t wB wL wO wW a)(c:D.le E:=by exact mup):TabV E b n t wB wL wO wW a:=TabV.mono h c
theorem fo (C:Mem)(b n v:Nat)(t:Lp.Tab)(a c d e:Value)(f:List Value)(h:TabV C b n t a c d e f) :
  Gives cx.P 203 [.pointer (some ⟨b,0,none⟩),.int .i64 v] C (.bool (decide (n<=v))):=by
 refine Tr func203 11 U3 fun w0=>Th 1 [0,1] Z<|Ti 4 Z fun R g=>Tj (PtrTo.blockT (h.m_.o) _ 1) U8<|C6 2 [4] g Z<|Tp U2<|⟨?_,Z⟩;congr 1;rw [Qy];omega
theorem fe {l:List Nat}(h:i<l.length):(l.map aT)[i]?=some (aT (l.getD i 0)):=tU (by rw [ax,aj h];rfl)
theorem dM {l:List Rat}(h:i<l.length):(l.map aQ)[i]?=some (aQ (l.getD i 0)):=kH (by rw [ax,aj h];rfl)
theorem jK {ls:List Lp.Line}{ws:List Value}(h:i<ls.length)(a:ws.length=ls.length):(List.zipWith (fun (l:Lp.Line) w=>[af (qtx l.c),w]) ls ws)[i]?=some [af (qtx (ls.getD i ⟨0,[]⟩).c),ws.getD i (.slice none 0 0)]:=by
 rw [List.getElem?_zipWith,aj h,aj (show i<ws.length by omega),ax,ax,aj h,aj (show i<ws.length by omega)];rfl
theorem Ju (C:Mem)(a b n i N:Nat)(t:Lp.Tab)(j k e f:Value)(g:List Value)(h:TabV C b n t j k e f g)(l:t.Ok N)(d:C a=some (.cells ⟨[.pointer (some ⟨b,0,none⟩)]⟩ 221 (0,0)))(m:i<t.basic.length)(p:QB 50 (t.line i).c) :
  Gives cx.P 207 [.int .i64 i,.pointer (some ⟨a,0,none⟩)] C (.bool (decide (n<=t.bas i) && decide ((t.line i).c<0))):=by
 obtain ⟨v,w,rfl,x,y,_⟩:=id h.B;obtain ⟨A2,c2,rfl,z,A,_⟩:=id h.L;have E:maxLen<=9223372036854775807:=by simp [maxLen]
 have F:=l.ll;exact Tr func207 25 U3 fun w0=>Th 1 [0,1] Z<|TD [0,1,2,3,4,5,6,7,8,9,10,11,12,13,14,15,16,17,18,19,20,21] [(8,1)] Z kr_ fun R G q=>Tj (bkT d 1) U8<|Tj (bkT d 1) U8<|Tm 2 Z<|Tj (PtrTo.blockT (h.m_.o) _ 1) U8<|Tk U6<|Ty h.B.m_ U10 om_ (fe m) fl_ fun H r=>Tj r U8<|TU (fun _=>(fo _ b n (t.bas i) t _ _ e f g h.m_)) U9<|Tk U6<|TN U6 (fun _=>PtrTo.blockT (Mem.get d mup) _ 1) U3<|Tm 2 Z<|TN U6 (fun _=>PtrTo.blockT (h.m_.o) _ 1) U3<|Tk U6<|D.index U10 (fun I=>⟨h.L.mono mup,by omega,jK om_ h.fl⟩) fl_ Z fun J s=>UW Z Z Z Z Z Z Z Z Z Z s fl_ Z fun K u=>TN U6 u U3<|TG (fun _=>(fY _ (t.line i).c (PV (bi p dc_) dc_))) U9<|Tk U6<|TJ U8<|C6 1 [3] q Z<|Tp U2<|⟨by rw [tM],Z⟩
theorem tL (q:Rat):decide (0<eN q.num)=decide (0<q):=by
 have h:0<q.num ↔ 0<q:=by rw [Rat.lt_iff];simp
 rw [Qy];unfold eN;by_cases h1:q.num<0
 ·rw [aK h1];exact ⟨fun h2=>absurd h2 dc_,fun h2=>absurd (h.2 h2) om_⟩
 rw [aG h1];by_cases h2:q.num=0
 ·rw [aK h2];exact ⟨fun h3=>absurd h3 dc_,fun h3=>absurd (h.2 h3) om_⟩
 rw [aG h2];exact ⟨fun _=>h.1 om_,fun _=>by decide⟩
theorem lK {a:List Value}(h:TabV C b n t wB wL wO wW a)(c:t.Ok N)(d:i<t.basic.length):Sl C 1 (a.getD i (.slice none 0 0)) ((t.line i).f.map aQ)/\(t.line i).f.length=t.others.length:=by
 have e:=c.ll;have g:=h.fl;refine ⟨?_,c.fl _ (Lp.line_mem c d)⟩;refine h.F i _ _ (show t.lines[i]?=some (t.line i) from ?_) (show a[i]?=some _ from ?_)
 ·unfold Lp.Tab.line;rw [ax,aj om_];rfl
 rw [ax,aj om_];rfl
theorem Jt (C:Mem)(a j b n i r N:Nat)(t:Lp.Tab)(p q s k:Value)(c:List Value)(h:TabV C b n t p q s k c)(d:t.Ok N)(e:C a=some (.cells ⟨[.pointer (some ⟨b,0,none⟩)]⟩ 221 (0,0)))(u:C j=some (.cells ⟨[.int .i64 r]⟩ 3 (0,0)))
  (l:r<t.basic.length) (v:i<t.others.length) (w:QB 50 ((t.line r).g i)) :
  Gives cx.P 208 [.int .i64 i,.pointer (some ⟨a,0,none⟩),.pointer (some ⟨j,0,none⟩)] C (.bool (decide (n<=t.oth i) && decide (0<(t.line r).g i))):=by
 obtain ⟨G,H,rfl,I,J,_⟩:=id h.O;obtain ⟨A2,c2,rfl,K,M,_⟩:=id h.L;obtain ⟨f,Q⟩:=lK h d l;obtain ⟨S,T,x,U,V,_⟩:=id f;have m:=jK (ls:=t.lines) (ws:=c) (i:=r) (by rw [d.ll];exact l) h.fl;rw [x] at m f;have W:maxLen<=9223372036854775807:=by simp [maxLen]
 have X:=d.ll;exact Tr func208 29 U3 fun w0=>Th 1 [0,1,2] Z<|TD [0,1,2,3,4,5,6,7,8,9,10,11,12,13,14,15,16,17,18,19,20,21,22,23,24] [(8,1)] Z kr_ fun R Y y=>Tj (bkT e 1) U8<|Tj (bkT e 1) U8<|Tm 2 Z<|Tj (PtrTo.blockT (h.m_.o) _ 1) U8<|Tk U6<|Ty h.O.m_ U10 om_ (fe v) fl_ fun aa z=>Tj z U8<|TU (fun _=>(fo _ b n (t.oth i) t _ _ _ k c h.m_)) U9<|Tk U6<|TN U6 (fun _=>PtrTo.blockT (Mem.get e mup) _ 1) U3<|Tm 2 Z<|TN U6 (fun _=>PtrTo.blockT (h.m_.o) _ 1) U3<|TN U6 (fun _=>PtrTo.blockT (Mem.get u mup) _ 1) U3<|D.index U10 (fun A=>⟨h.L.mono mup,by omega,m⟩) fl_ Z fun ab B=>UW Z Z Z Z Z Z Z Z Z Z B fl_ Z fun ac E=>TN U6 E U3<|Tk U6<|D.index U10 (fun A=>⟨f.mono mup,by omega,dM om_⟩) fl_ Z fun ad F=>TN U6 F U3<|TG (fun _=>(fY _ ((t.line r).g i) (PV (bi w dc_) dc_))) U9<|Tk U6<|TJ U8<|C6 1 [4] y Z<|Tp U2<|⟨by rw [<- tL],Z⟩
theorem Mt (C:Mem)(a b n i N:Nat)(t:Lp.Tab)(e f j k:Value)(d:List Value)(h:TabV C b n t e f j k d)(l:t.Ok N)(c:C a=some (.cells ⟨[.pointer (some ⟨b,0,none⟩)]⟩ 221 (0,0)))(m:i<t.others.length) :
  Gives cx.P 209 [.int .i64 i,.pointer (some ⟨a,0,none⟩)] C (.bool (!decide (n<=t.oth i) && !decide (t.worth.g i=0))):=by
 obtain ⟨s,u,rfl,v,w,_⟩:=id h.O;obtain ⟨A2,c2,rfl,x,y,_⟩:=id h.W;have z:maxLen<=9223372036854775807:=by simp [maxLen]
 have A:=l.wl;refine Tr func209 25 U3 fun w0=>Th 1 [0,1] Z<|TD [0,1,2,3,4,5,6,7,8,9,10,11,12,13,14,15,16,17,18,19,20,21] [(8,1)] Z kr_ fun R B p=>Tj (bkT c 1) U8<|Tj (bkT c 1) U8<|Tm 2 Z<|Tj (PtrTo.blockT (h.m_.o) _ 1) U8<|Tk U6<|Ty h.O.m_ U10 om_ (fe m) fl_ fun E q=>Tj q U8<|TU (fun _=>(fo _ b n (t.oth i) t _ _ _ _ d h.m_)) U9<|Tm 2 Z<|TN U6 (fun _=>PtrTo.blockT (Mem.get c mup) _ 1) U3<|Tm 3 Z<|TN U6 (fun _=>PtrTo.blockT (h.m_.o) _ 1) U3<|Tk U6<|D.index U10 (fun F=>⟨h.W.mono mup,by omega,dM om_⟩) fl_ Z fun G r=>TN U6 r U3<|Tk U6<|TJ U8<|C6 1 [3] p Z<|Tp U2<|⟨?_,Z⟩;show Value.bool _=Value.bool _;congr 1;congr 1;show (!((⟨(qtx (t.worth.g i)).toArray⟩:ByteArray).data.toList == (⟨#[48]⟩:ByteArray).data.toList))=_;rw [fh]
theorem Ms (C:Mem)(a b n i N:Nat)(t:Lp.Tab)(e f j k:Value)(d:List Value)(h:TabV C b n t e f j k d)(l:t.Ok N)(c:C a=some (.cells ⟨[.pointer (some ⟨b,0,none⟩)]⟩ 221 (0,0)))(m:i<t.others.length)(p:QB 50 (t.worth.g i)) :
  Gives cx.P 210 [.int .i64 i,.pointer (some ⟨a,0,none⟩)] C (.bool (decide (n<=t.oth i) && decide (t.worth.g i<0))):=by
 obtain ⟨u,v,rfl,w,x,_⟩:=id h.O;obtain ⟨A2,c2,rfl,y,z,_⟩:=id h.W;have A:maxLen<=9223372036854775807:=by simp [maxLen]
 have B:=l.wl;exact Tr func210 25 U3 fun w0=>Th 1 [0,1] Z<|TD [0,1,2,3,4,5,6,7,8,9,10,11,12,13,14,15,16,17,18,19,20,21] [(8,1)] Z kr_ fun R E q=>Tj (bkT c 1) U8<|Tj (bkT c 1) U8<|Tm 2 Z<|Tj (PtrTo.blockT (h.m_.o) _ 1) U8<|Tk U6<|Ty h.O.m_ U10 om_ (fe m) fl_ fun F r=>Tj r U8<|TU (fun _=>(fo _ b n (t.oth i) t _ _ _ _ d h.m_)) U9<|Tk U6<|TN U6 (fun _=>PtrTo.blockT (Mem.get c mup) _ 1) U3<|Tm 3 Z<|TN U6 (fun _=>PtrTo.blockT (h.m_.o) _ 1) U3<|Tk U6<|D.index U10 (fun G=>⟨h.W.mono mup,by omega,dM om_⟩) fl_ Z fun H s=>TN U6 s U3<|TG (fun _=>(fY _ (t.worth.g i) (PV (bi p dc_) dc_))) U9<|Tk U6<|TJ U8<|C6 1 [3] q Z<|Tp U2<|⟨by rw [tM],Z⟩
theorem tE (n:Nat):List.replicate n (af [48])=((List.replicate n (0:Rat)).map aQ).flatten:=by
 rw [R4,show aQ 0=[af [48]] by unfold aQ;rw [LS]];induction n with
 | zero=>rfl
 | succ n a=>rw [QJ,QJ,QQ,<- a];rfl
def ptF (t:Lp.Tab)(n i:Nat):List Rat:=(List.range n).map fun v=>if v∈t.basic.take i then t.sol v else 0
theorem mJ :(ptF t n i).length=n:=by simp [ptF]
theorem Ff (h:v<n):(ptF t n i)[v]?=some (if v∈t.basic.take i then t.sol v else 0):=by
 unfold ptF;rw [PH,Qi h];rfl
theorem IG (t:Lp.Tab)(n:Nat):ptF t n 0=List.replicate n 0:=by
 refine List.ext_getElem? fun v=>?_;by_cases h:v<n
 ·rw [Ff h,Q6,aK h,List.take_zero,aG QF]
 rw [PO (by rw [mJ];omega),PO ap]
theorem li (h:i<t.basic.length):t.basic.take (i+1)=t.basic.take i++[t.bas i]:=by
 rw [P6];congr 1;unfold Lp.Tab.bas;rw [ax,aj h];rfl
theorem LY (b:t.Ok N)(h:i<t.basic.length)(d:t.bas i<n):(ptF t n i).set (t.bas i) (t.line i).c=ptF t n (i+1):=by
 refine List.ext_getElem? fun v=>?_;rw [List.getElem?_set,mJ];by_cases a:v<n
 ·rw [Ff a,Ff a,li h];by_cases e:t.bas i=v
  ·subst e;rw [aK rfl,aK a,aK am,Lp.sol_bas b h]
  rw [aG e];by_cases hm:v∈t.basic.take i
  ·rw [aK hm,aK (by simp [hm])]
  rw [aG hm,aG (by simp [hm];exact fun h2=>e h2.symm)]
 rw [aG om_,PO (by rw [mJ];omega),PO (by rw [mJ];omega)]
theorem IH (h:i<t.basic.length)(a:n<=t.bas i):ptF t n i=ptF t n (i+1):=by
 refine List.map_congr_left fun v hm=>?_;have b:=PX.1 hm;rw [li h];by_cases hm:v∈t.basic.take i
 ·rw [aK hm,aK (by simp [hm])]
 rw [aG hm,aG (by simp [hm];omega)]
theorem LZ (a:t.Ok N):ptF t n t.basic.length=(List.range n).map t.sol:=by
 refine List.map_congr_left fun v _=>?_;rw [PT];split
 ·rfl
 next h=>exact (Lp.sol_oth a h).symm
theorem Bb (C:Mem)(b n N:Nat)(t:Lp.Tab)(w x p q:Value)(r:List Value)(h:TabV C b n t w x p q r)(f:t.Ok N)(y:n<=1000000) :
  Jog.Fn cx.P 141 [.pointer (some ⟨b,0,none⟩)] C [] fun u _ c=>∃ g,u=.slice (some ⟨g,0,none⟩) n n/\c=[.arr u 32 1 n (((List.range n).map t.sol).map aQ).flatten]:=by
 obtain ⟨z,s,rfl,A,Q,_⟩:=id h.B;obtain ⟨A2,c2,rfl,S,T,_⟩:=id h.L;have E:=h.B;have U:t.basic.length<=s:=by rwa [al] at A
 have V:maxLen<=9223372036854775807:=by simp [maxLen]
 have W:=f.ll;have F:=h.fl;refine Tr func141 38 U3 fun w0=>Th 1 [0] Z<|TH [(4,3)] Z fun R a=>Tm 3 Z<|Tj (PtrTo.blockT (h.m_.o) _ 1) U8<|D.call (iM _ n y) Z (.inr dc_) U6 (PI _) fl_ (fun X _ Y _ H=>?_);obtain ⟨g,rfl,rfl⟩:=H;refine C6 1 [0,3] a Z<|Ti 3 Z fun R a=>Tj (PtrTo.blockT (h.m_.o) _ 1) U8<|C6 2 [0,3,14,15,16] a Z<|Tz (L':=[.arr (.slice (some ⟨g,0,none⟩) n n) 32 1 n ((ptF t n 0).map aQ).flatten]) (by rw [IG,<- tE];rfl)<|G.loop (fun fr C' c I=>∃ (i:Nat),(i<=t.basic.length)/\fr=[(0,[],.pointer (some ⟨b,0,none⟩)),(3,[],.slice (some ⟨g,0,none⟩) n n),(14,[],.slice z (t.basic.map aT).length s),(15,[],.int .i64 (t.basic.map aT).length),(16,[],.int .i64 i)]/\c=[.arr (.slice (some ⟨g,0,none⟩) n n) 32 1 n ((ptF t n i).map aQ).flatten]/\I=t.basic.length-i) (hn_ [0,3,14,15,16] Z) ⟨0,PL _,Z,Z,Z⟩ (fun fr aa ab m v J=>?_);obtain ⟨i,hi,rfl,rfl,rfl⟩:=J;refine Th 1 [0,3,14,15,16,17] Z<|G.cd (fun k=>?_) fun k=>?_
 ·have d:i<t.basic.length:=by
   have:=aY k;rw [al] at this;omega
  refine Ti 1 Z fun R a=>Ty E.m_ U10 om_ (show (t.basic.map aT)[i]?=some (aT (t.bas i)) from fe d) fl_ fun ac K=>Tj K U8<|C6 2 [0,3,4,5,14,15,16] a Z<|Ti 2 Z fun R a=>Tt (fo _ b n (t.bas i) t _ _ p q r h.m_) U7<|C6 1 [0,3,4,5,14,15,16,24] a Z<|G.cd (fun l=>?_) fun l=>?_
  ·have e:t.bas i<n:=by
    have ad:¬ n<=t.bas i:=by simpa using l
    omega
   refine Ti 5 Z fun R a=>Tj (PtrTo.blockT (h.m_.o) _ 1) U8<|Tk U6<|Ty h.L.m_ U10 om_ (jK om_ F) fl_ fun ae M=>UD M U10 fl_ fun af O=>Tj O U8<|TL (t.bas i*1) U10 ai U2<|TP (j:=0) U11 (by show t.bas i*1+1<=_;rw [bW bJ,mJ];omega)<|Tn [0,3,14,15,16] a Z<|Tl fun R a=>Tq _ Z U6<|C6 1 [0,3,14,15,16] a Z<|Tz (L':=[.arr (.slice (some ⟨g,0,none⟩) n n) 32 1 n ((ptF t n (i+1)).map aQ).flatten]) (by rw [<- LY f d e,<- bN bJ _ (by rw [mJ];exact e)];rfl)<|Tv (m':=t.basic.length-(i+1)) om_ v (hn_ [0,3,14,15,16] Z) ⟨i+1,om_,Z,Z,Z⟩
  have e:n<=t.bas i:=by simpa using l
  rw [IH d e];refine Tl fun R a=>Tq _ Z U6<|C6 1 [0,3,14,15,16] a Z<|Tv (m':=t.basic.length-(i+1)) om_ v (hn_ [0,3,14,15,16] Z) ⟨i+1,om_,Z,Z,Z⟩
 have d:i=t.basic.length:=by
  have:=PJ k;rw [al] at this;omega
 refine Th 2 [2] Z<|Tu (TW Z Z ?_);exact ⟨g,Z,by rw [d,LZ f]⟩
def duF (p:Lp.Sys)(t:Lp.Tab)(l:Lp.Line)(i:Nat):List Rat:=(List.range p.m).map fun r=>if p.n+r∈t.others.take i then Lp.dualV p t l r else 0
theorem mQ :(duF p t l i).length=p.m:=by simp [duF]
theorem GG {r:Nat}(h:r<p.m):(duF p t l i)[r]?=some (if p.n+r∈t.others.take i then Lp.dualV p t l r else 0):=by
 unfold duF;rw [PH,Qi h];rfl
theorem JB (p:Lp.Sys)(t:Lp.Tab)(l:Lp.Line):duF p t l 0=List.replicate p.m 0:=by
 refine List.ext_getElem? fun v=>?_;by_cases h:v<p.m
 ·rw [GG h,Q6,aK h,List.take_zero,aG QF]
 rw [PO (by rw [mQ];omega),PO ap]
theorem Ah (h:i<t.others.length):t.others.take (i+1)=t.others.take i++[t.oth i]:=by
 rw [P6];congr 1;unfold Lp.Tab.oth;rw [ax,aj h];rfl
theorem MM (b:Lp.TabOf p t)(h:i<t.others.length)(c:p.n<=t.oth i):(duF p t l i).set (t.oth i-p.n) (l.g i)=duF p t l (i+1):=by
 refine List.ext_getElem? fun v=>?_;rw [List.getElem?_set,mQ];by_cases a:v<p.m
 ·rw [GG a,GG a,Ah h];by_cases e:t.oth i-p.n=v
  ·subst e;rw [aK rfl,aK a,aK (by rw [show p.n+(t.oth i-p.n)=t.oth i by omega];simp),Lp.dualV_at b h c]
  rw [aG e];by_cases hm:p.n+v∈t.others.take i
  ·rw [aK hm,aK (by simp [hm])]
  rw [aG hm,aG (by simp [hm];omega)]
 rw [PO (by rw [mQ];omega),PO (by rw [mQ];omega)];have:=b.ok.lt _ (PU.2 (.inr (Lp.oth_mem h)));split
 ·exact aG om_
 rfl
theorem JC (h:i<t.others.length)(a:t.oth i<p.n):duF p t l i=duF p t l (i+1):=by
 refine List.map_congr_left fun v _=>?_;rw [Ah h];by_cases hm:p.n+v∈t.others.take i
 ·rw [aK hm,aK (by simp [hm])]
 rw [aG hm,aG (by simp [hm];omega)]
theorem MN :duF p t l t.others.length=(List.range p.m).map (Lp.dualV p t l):=by
 refine List.map_congr_left fun v _=>?_;rw [PT];split
 ·rfl
 next h=>exact (Lp.dualV_none h).symm
theorem GF (C:Mem)(p:Lp.Sys)(b:Nat)(t:Lp.Tab)(l:Lp.Line)(E F H s w:Value)(v:List Value)(h:TabV C b p.n t E F H s v)(x:Lp.TabOf p t)(I:p.m<=1000000)(y:Sl C 1 w (l.f.map aQ))(X:l.f.length=t.others.length) :
  Jog.Fn cx.P 143 [.pointer (some ⟨b,0,none⟩),.agg ⟨[af (qtx l.c),w]⟩,.int .i64 p.m] C [] fun u _ e=>∃ g,u=.slice (some ⟨g,0,none⟩) p.m p.m/\e=[.arr u 32 1 p.m (((List.range p.m).map (Lp.dualV p t l)).map aQ).flatten]:=by
 obtain ⟨J,z,rfl,K,Y,_⟩:=id h.O;obtain ⟨A3,c3,rfl,aa,ab,_⟩:=id y;have L:=h.O;have ac:t.others.length<=z:=by rwa [al] at K
 have ad:maxLen<=9223372036854775807:=by simp [maxLen]
 refine Tr func143 40 U3 fun w0=>Tl fun R a=>TC U6 fun M=>C6 1 [0,2,4] a Z<|G.freeze 0 Z fun _ _ N=>TH [(1,3)] Z fun R a=>Tk U6<|D.call (iM _ p.m I) Z (.inr dc_) U6 (PI _) fl_ (fun ae _ ag _ Q=>?_);obtain ⟨g,rfl,rfl⟩:=Q;refine C6 1 [0,4,7] a Z<|Ti 3 Z fun R a=>Tj (PtrTo.blockT (h.m_.o) _ 1) U8<|C6 2 [0,4,7,15,16,17] a Z<|Tz (L':=[.arr (.slice (some ⟨g,0,none⟩) p.m p.m) 32 1 p.m ((duF p t l 0).map aQ).flatten]) (by rw [JB,<- tE];rfl)<|G.loop (fun fr C' e S=>∃ (i:Nat),(i<=t.others.length)/\fr=[(0,[],.pointer (some ⟨b,0,none⟩)),(4,[],.pointer (some ⟨M,0,none⟩)),(7,[],.slice (some ⟨g,0,none⟩) p.m p.m),(15,[],.slice J (t.others.map aT).length z),(16,[],.int .i64 (t.others.map aT).length),(17,[],.int .i64 i)]/\e=[.arr (.slice (some ⟨g,0,none⟩) p.m p.m) 32 1 p.m ((duF p t l i).map aQ).flatten]/\S=t.others.length-i) (hn_ [0,4,7,15,16,17] Z) ⟨0,PL _,Z,Z,Z⟩ (fun fr ah aj m A T=>?_);obtain ⟨i,hi,rfl,rfl,rfl⟩:=T;refine Th 1 [0,4,7,15,16,17,18] Z<|G.cd (fun k=>?_) fun k=>?_
 ·have d:i<t.others.length:=by
   have:=aY k;rw [al] at this;omega
  have ak:=x.ok.lt _ (PU.2 (.inr (Lp.oth_mem d)));refine Ti 1 Z fun R a=>Ty L.m_ U10 om_ (show (t.others.map aT)[i]?=some (aT (t.oth i)) from fe d) fl_ fun am U=>Tj U U8<|C6 2 [0,4,7,8,9,15,16,17] a Z<|Ti 2 Z fun R a=>Tt (fo _ b p.n (t.oth i) t _ _ _ s v h.m_) U7<|Tn [0,4,7,8,9,15,16,17,24] a Z<|G.cd (fun q=>?_) fun q=>?_
  ·have r:p.n<=t.oth i:=by simpa using q
   have B:((t.oth i:Int)-(p.n:Int)).toNat=t.oth i-p.n:=by omega
   have V:=MM (l:=l) x d r;refine TD [0,1,2,3,4,5,6,7,8,9,10,11,12,13] [] Z kr_ fun R hB a=>Tm 5 Z<|Tj (PtrTo.blockT (h.m_.o) _ 1) U8<|Tq _ Z U6<|Tk U6<|Tj (bkT N 1) U8<|Tk U6<|Ty y.m_ U10 om_ (dM om_) fl_ fun an W=>Tj W U8<|TL (((t.oth i:Int)-(p.n:Int)).toNat*1) U10 ai U2<|TP (j:=0) U11 (by show ((t.oth i:Int)-(p.n:Int)).toNat*1+1<=_;rw [B,bW bJ,mQ];omega)<|Tn [0,4,7,15,16,17] a Z<|Tl fun R a=>Tq _ Z U6<|C6 1 [0,4,7,15,16,17] a Z<|Tz (L':=[.arr (.slice (some ⟨g,0,none⟩) p.m p.m) 32 1 p.m ((duF p t l (i+1)).map aQ).flatten]) (by rw [B,<- V,<- bN bJ _ (by rw [mQ];omega)];rfl)<|Tv (m':=t.others.length-(i+1)) om_ A (hn_ [0,4,7,15,16,17] Z) ⟨i+1,om_,Z,Z,Z⟩
  have r:t.oth i<p.n:=by
   have ao:¬ p.n<=t.oth i:=by simpa using q
   omega
  rw [JC d r];refine Tl fun R a=>Tq _ Z U6<|C6 1 [0,4,7,15,16,17] a Z<|Tv (m':=t.others.length-(i+1)) om_ A (hn_ [0,4,7,15,16,17] Z) ⟨i+1,om_,Z,Z,Z⟩
 have d:i=t.others.length:=by
  have:=PJ k;rw [al] at this;omega
 refine Th 2 [6] Z<|Tu (TW Z Z ?_);exact ⟨g,Z,by rw [d,MN]⟩
def ngF (p:Lp.Sys)(t:Lp.Tab)(l:Lp.Line)(i:Nat):List Rat:=(List.range p.m).map fun r=>if r<i then -Lp.dualV p t l r else Lp.dualV p t l r
theorem gU :(ngF p t l i).length=p.m:=by simp [ngF]
theorem Br {r:Nat}(h:r<p.m):(ngF p t l i)[r]?=some (if r<i then -Lp.dualV p t l r else Lp.dualV p t l r):=by
 unfold ngF;rw [PH,Qi h];rfl
theorem I1 (p:Lp.Sys)(t:Lp.Tab)(l:Lp.Line):(List.range p.m).map (Lp.dualV p t l)=ngF p t l 0:=List.map_congr_left fun r _=>by rw [aG (Nat.not_lt_zero _)]
theorem Mp (h:i<p.m):(ngF p t l i).set i (-Lp.dualV p t l i)=ngF p t l (i+1):=by
 refine List.ext_getElem? fun v=>?_;rw [List.getElem?_set,gU];by_cases a:v<p.m
 ·rw [Br a,Br a];by_cases e:i=v
  ·subst e;rw [aK rfl,aK a,aK om_]
  rw [aG e];by_cases hm:v<i
  ·rw [aK hm,aK om_]
  rw [aG hm,aG om_]
 rw [aG om_,PO (by rw [gU];omega),PO (by rw [gU];omega)]
theorem Mq (h:t.bas i-p.n<p.m):(ngF p t (t.line i) p.m).set (t.bas i-p.n) 1=(List.range p.m).map (Lp.refV p t i):=by
 refine List.ext_getElem? fun v=>?_;rw [List.getElem?_set,gU,PH];by_cases a:v<p.m
 ·rw [Br a,Qi a,aK a];unfold Lp.refV;by_cases e:t.bas i-p.n=v
  ·subst e;rw [aK rfl,aK h,Ra,aK rfl]
  rw [aG e,Ra,aG (fun b=>e b.symm)]
 rw [aG om_,PO (by rw [gU];omega),PO ap];rfl
theorem qtx1:qtx 1=[49]:=by decide +kernel
theorem enc1:aQ 1=[Value.string ⟨#[49]⟩]:=by
 show [af (qtx 1)]=_;rw [qtx1];rfl
theorem Iw (C:Mem)(p:Lp.Sys)(b i:Nat)(t:Lp.Tab)(A E s v:Value)(e:List Value)(h:TabV C b p.n t A E s v e)(w:Lp.TabOf p t)(F:p.m<=1000000)(f:i<t.basic.length)(W:p.n<=t.bas i)(H:∀ r,QB 50 (Lp.dualV p t (t.line i) r)) :
  Pur cx.P 139 [.pointer (some ⟨b,0,none⟩),.int .i64 i,.int .i64 p.m] C fun u D=>∃ g,u=.agg ⟨[.slice (some ⟨g,0,none⟩) p.m p.m]⟩/\Sl D 1 (.slice (some ⟨g,0,none⟩) p.m p.m) (((List.range p.m).map (Lp.refV p t i)).map aQ):=by
 have ok:=w.ok;obtain ⟨X,Y,rfl,aa,ab,_⟩:=id h.B;obtain ⟨A2,c2,rfl,ac,ad,_⟩:=id h.L;obtain ⟨k,I⟩:=lK h ok f;obtain ⟨A3,c3,J,ae,af,_⟩:=id k;have ah:=ok.ll;have x:=jK (ls:=t.lines) (ws:=e) (i:=i) om_ h.fl;rw [J] at x k;have aj:maxLen<=9223372036854775807:=by simp [maxLen]
 have ak:=ok.lt _ (PU.2 (.inl (Lp.bas_mem f)));have K:t.bas i-p.n<p.m:=by omega
 have z:((t.bas i:Int)-(p.n:Int)).toNat=t.bas i-p.n:=by omega
 refine Tr func139 49 U3 fun w0=>Tl fun R a=>TB U5 fun c=>Tn [0,1,2,6] a Z<|TH [(9,3)] Z fun R a=>Tm 4 Z<|Tj (PtrTo.blockT (h.m_.o) _ 1) U8<|Tk U6<|Ty h.L.m_ U10 om_ x fl_ fun al M=>Tj M U8<|Tk U6<|D.call (GF _ p b t (t.line i) _ _ s v _ e h.m_ w F k.m_ I) Z (.inr dc_) U6 (PI _) fl_ (fun an _ ao _ N=>?_);obtain ⟨g,rfl,rfl⟩:=N;refine C6 1 [0,1,6,7] a Z<|Th 3 [0,1,6,7,20,21,22] Z<|Tz (L':=[.arr (.slice (some ⟨g,0,none⟩) p.m p.m) 32 1 p.m ((ngF p t (t.line i) 0).map aQ).flatten,.obj c (.cells ⟨[.slice none 0 0]⟩ 68 (0,0))]) (by rw [<- I1];rfl)<|G.loop (fun fr C' l O=>∃ (j:Nat),(j<=p.m)/\fr=[(0,[],.pointer (some ⟨b,0,none⟩)),(1,[],.int .i64 i),(6,[],.pointer (some ⟨c,0,none⟩)),(7,[],.slice (some ⟨g,0,none⟩) p.m p.m),(20,[],.slice (some ⟨g,0,none⟩) p.m p.m),(21,[],.int .i64 p.m),(22,[],.int .i64 j)]/\l=[.arr (.slice (some ⟨g,0,none⟩) p.m p.m) 32 1 p.m ((ngF p t (t.line i) j).map aQ).flatten,.obj c (.cells ⟨[.slice none 0 0]⟩ 68 (0,0))]/\O=p.m-j) (hn_ [0,1,6,7,20,21,22] Z) ⟨0,PL _,Z,Z,Z⟩ (fun fr ap aq m Q S=>?_);obtain ⟨j,hj,rfl,rfl,rfl⟩:=S;refine Th 1 [0,1,6,7,20,21,22,23] Z<|G.cd (fun q=>?_) fun q=>?_
 ·have d:j<p.m:=by
   have:=aY q;omega
  have T:(ngF p t (t.line i) j)[j]?=some (Lp.dualV p t (t.line i) j):=by rw [Br d,aG (Nat.lt_irrefl _)]
  refine Ti 1 Z fun R a=>TL (j*1) U10 ai U2<|Ue ag U6 (fun _=>(by rw [eD bJ T];rfl)) U2<|C6 2 [0,1,6,7,8,9,20,21,22] a Z<|Ti 3 Z fun R a=>Tw (eF _ _ (PV (bi (H j) dc_) dc_)) U7 fl_<|TL (j*1) U10 ai U2<|TP (j:=0) U11 (by show j*1+1<=_;rw [bW bJ,gU];omega)<|Tn [0,1,6,7,20,21,22] a Z<|Tl fun R a=>Tq _ Z U6<|C6 1 [0,1,6,7,20,21,22] a Z<|Tz (L':=[.arr (.slice (some ⟨g,0,none⟩) p.m p.m) 32 1 p.m ((ngF p t (t.line i) (j+1)).map aQ).flatten,.obj c (.cells ⟨[.slice none 0 0]⟩ 68 (0,0))]) (by rw [<- Mp d,<- bN bJ _ (by rw [gU];omega)];rfl)<|Tv (m':=p.m-(j+1)) om_ Q (hn_ [0,1,6,7,20,21,22] Z) ⟨j+1,om_,Z,Z,Z⟩
 have d:j=p.m:=by
  have:=PJ q;omega
 subst d;refine TD [0,1,2,3,4,5,6,7,8,9,10,11,12,13,14] [] Z kr_ fun R hB a=>Tm 4 Z<|Tj (PtrTo.blockT (h.m_.o) _ 1) U8<|Tk U6<|Ty h.B.m_ U10 om_ (show (t.basic.map aT)[i]?=some (aT (t.bas i)) from fe f) fl_ fun ar U=>Tj U U8<|Tm 3 Z<|Tj (PtrTo.blockT (h.m_.o) _ 1) U8<|Tq _ Z U6<|TL (((t.bas i:Int)-(p.n:Int)).toNat*1) U10 ai U2<|TP (j:=0) U11 (by show ((t.bas i:Int)-(p.n:Int)).toNat*1+1<=_;rw [z,bW bJ,gU];omega)<|Tn [6,7] a Z<|Ti 1 Z fun R a=>TA [.slice (some ⟨g,0,none⟩) p.m p.m] U8<|Ts (j:=1) U12<|Tn [6] a Z<|G.freezeArr 1 (((List.range p.m).map (Lp.refV p t i)).map aQ) rfl (by rw [z,<- Mq K,<- bN bJ 1 (by rw [gU];omega),enc1]) (by intro r hr;obtain ⟨y,_,rfl⟩:=PK.1 hr;rfl) am fun Cg hg V=>Tu (Uc ag U4 ?_);exact ⟨Z,g,Z,V⟩
def cN (t:Lp.Tab)(wF:Nat->Value):List (Rat × Value):=(List.range t.basic.length).map fun i=>((t.line i).c,wF i)
theorem fG :(cN t wF).length=t.basic.length:=by simp [cN]
theorem nL (h:i<t.basic.length):(cN t wF)[i]?=some ((t.line i).c,wF i):=by
 unfold cN;rw [PH,Qi h];rfl
def Kr (t:Lp.Tab)(wF:Nat->Value)(i:Nat):Lent:=.arr (wF i) t.others.length 1 32 ((t.line i).f.map aQ)
def fc (b n:Nat)(t:Lp.Tab)(wB wL wO wW:Value)(wF:Nat->Value):List Lent :=
 .obj b [.int .i64 n,wB,wL,wO,af (qtx t.worth.c),wW] 231::.arr wB t.basic.length 1 3 (t.basic.map aT)::.arr wL t.basic.length 2 228 ((cN t wF).map bE)
  :: .arr wO t.others.length 1 3 (t.others.map aT)::.arr wW t.others.length 1 32 (t.worth.f.map aQ)::(List.range t.basic.length).map (Kr t wF)
theorem gY (a:t.Ok N)(h:i<t.basic.length):(t.line i).f.length=t.others.length:=a.fl _ (Lp.line_mem a h)
theorem bR {l:List Rat}:∀ r∈l.map aQ,r.length=1:=fun r hr=>by
 obtain ⟨x,_,rfl⟩:=PK.1 hr;rfl
theorem uw {l:List Nat}:∀ r∈l.map aT,r.length=1:=fun r hr=>by
 obtain ⟨x,_,rfl⟩:=PK.1 hr;rfl
theorem gc (c:t.Ok N):∀ x∈fc b n t wB wL wO wW wF,x.wf:=by
 intro x a;unfold fc at a;simp only [PQ,PK,PX] at a;rcases a with rfl | rfl | rfl | rfl | rfl | ⟨i,d,rfl⟩
 ·trivial
 ·exact ⟨by simp,uw⟩
 ·exact ⟨by simp [fG],fun r hr=>by obtain ⟨y,_,rfl⟩:=PK.1 hr;rfl⟩
 ·exact ⟨by simp,uw⟩
 ·exact ⟨by simp [c.wl],bR⟩
 exact ⟨by simp [gY c d],bR⟩
theorem D5 {b:Type}{f:Lp.Line->Value->b}(a:t.Ok N):List.zipWith f t.lines ((List.range t.basic.length).map wF)=(List.range t.basic.length).map fun i=>f (t.line i) (wF i):=by
 refine List.ext_getElem? fun i=>?_;rw [List.getElem?_zipWith,PH,PH];by_cases h:i<t.basic.length
 ·have h2:t.lines[i]?=some (t.line i):=by
   unfold Lp.Tab.line;rw [ax,aj (by rw [a.ll];exact h)];rfl
  rw [h2,Qi h];rfl
 rw [PO (show (List.range t.basic.length).length<=i by simp;omega),PO (show t.lines.length<=i by rw [a.ll];omega)];rfl
theorem eV (c:t.Ok N)(h:∀ x∈fc b n t wB wL wO wW wF,x.seen C):TabV C b n t wB wL wO wW ((List.range t.basic.length).map wF):=by
 have h1:=h _ (PG ..);have h2:=h _ (PP _ (PG ..));have h3:=h _ (PP _ (PP _ (PG ..)));have h4:=h _ (PP _ (PP _ (PP _ (PG ..))));have h5:=h _ (PP _ (PP _ (PP _ (PP _ (PG ..)))));have j:∀ i,i<t.basic.length->Sl C 1 (wF i) ((t.line i).f.map aQ):=fun i a =>
  h (Kr t wF i) (PP _ (PP _ (PP _ (PP _ (PP _ (PK.2 ⟨i,PX.2 a,rfl⟩))))))
 refine ⟨h1,h2,h4,h5, ?_,by simp [c.ll],fun i l w e g=>?_⟩
 ·rw [D5 c];have d:Sl C 2 wL ((cN t wF).map bE):=h3;unfold cN at d;rw [QC] at d;exact d
 have a:i<t.lines.length:=(aJ.1 e).1;rw [c.ll] at a;rw [PH,Qi a] at g;cases g
 have:t.line i=l:=by unfold Lp.Tab.line;rw [ax,e];rfl
 rw [<- this];exact j i a
theorem IE (C:Mem)(p:Tabs C)(e m f i n s:Nat)(w g:Value)(d:List (Rat × Value))(a b:List Rat)(c h:Rat)(q:d.length=m)(r:d[i]?=some (c,w))(t:a.length=n)(k:b.length=n)(v:s<n)(y:QB 50 c)(z:∀ x∈a,QB 50 x)(A:QB 50 h)(B:∀ x∈b,QB 50 x) :
  Jog.Fn cx.P 262 [.pointer (some ⟨e,i*2,none⟩),.int .i64 s,.agg ⟨[af (qtx h),g]⟩] C [.arr g 32 1 n (b.map aQ).flatten,.arr (.slice (some ⟨e,0,none⟩) m f) 228 2 m (d.map bE).flatten,.arr w 32 1 n (a.map aQ).flatten]
   fun u _ j=>u=.tuple #[]/\j=[.arr g 32 1 n (b.map aQ).flatten,.arr (.slice (some ⟨e,0,none⟩) m f) 228 2 m ((d.set i (c+a.getD s 0*h,w)).map bE).flatten,.arr w 32 1 n ((kG a b s (a.getD s 0) n).map aQ).flatten]:=by
 have l:Jog.Enters cx.P 262=true:=by kernel_rfl
 refine Fn.perm (L2:=[.arr w 32 1 n (a.map aQ).flatten,.arr g 32 1 n (b.map aQ).flatten,.arr (.slice (some ⟨e,0,none⟩) m f) 228 2 m (d.map bE).flatten]) (QE (l₁:=[_,_]) (l₂:=[_]))<|Fn.form l om_ fun E F G=>?_;subst G;refine Fn.perm (QE (l₁:=[_]) (l₂:=[_,_]))<|(UO (post:=fun u j=>u=.tuple #[]/\j=[.arr (.slice (some ⟨e,0,none⟩) m f) 228 2 m ((d.set i (c+a.getD s 0*h,_)).map bE).flatten,.arr _ 32 1 n ((kG a b s (a.getD s 0) n).map aQ).flatten]) l bR (by simp [k]) fun o H I=>LW o (p.mono H) e m f i E F n s g d a b c h q r t k v I y z A B).mono ?_;rintro u o j _ ⟨D,rfl,h1,rfl⟩;exact ⟨h1,Z⟩
theorem IC (C:Mem)(p:Tabs C)(d n s:Nat)(e f g h w i:Value)(a b:List Rat)(c j:Rat)(q:a.length=n)(l:b.length=n)(r:s<n)(t:QB 50 c)(v:∀ x∈a,QB 50 x)(y:QB 50 j)(z:∀ x∈b,QB 50 x) :
  Jog.Fn cx.P 262 [.pointer (some ⟨d,4,none⟩),.int .i64 s,.agg ⟨[af (qtx j),i]⟩] C [.arr i 32 1 n (b.map aQ).flatten,.obj d (.cells ⟨[e,f,g,h,af (qtx c),w]⟩ 231 (0,0)),.arr w 32 1 n (a.map aQ).flatten]
   fun u _ k=>u=.tuple #[]/\k=[.arr i 32 1 n (b.map aQ).flatten,.obj d (.cells ⟨[e,f,g,h,af (qtx (c+a.getD s 0*j)),w]⟩ 231 (0,0)),.arr w 32 1 n ((kG a b s (a.getD s 0) n).map aQ).flatten]:=by
 have m:Jog.Enters cx.P 262=true:=by kernel_rfl
 refine Fn.perm (L2:=[.arr w 32 1 n (a.map aQ).flatten,.arr i 32 1 n (b.map aQ).flatten,.obj d (.cells ⟨[e,f,g,h,af (qtx c),w]⟩ 231 (0,0))]) (QE (l₁:=[_,_]) (l₂:=[_]))<|Fn.form m om_ fun B D E=>?_;subst E;refine Fn.perm (QE (l₁:=[_]) (l₂:=[_,_]))<|(UO (post:=fun u k=>u=.tuple #[]/\k=[.obj d (.cells ⟨[e,f,g,h,af (qtx (c+a.getD s 0*j)),_]⟩ 231 (0,0)),.arr _ 32 1 n ((kG a b s (a.getD s 0) n).map aQ).flatten]) m bR (by simp [l]) fun o F G=>LV o (p.mono F) d B D n s e f g h i a b c j q l r G t v y z).mono ?_;rintro u o k _ ⟨A,rfl,h1,rfl⟩;exact ⟨h1,Z⟩
theorem nq {F:Nat}(h:Lp.LeaveR F t s n o):o=-1∨∃ r:Nat,o=r/\r<n/\F<=t.bas r/\(t.line r).g s<0:=by
 cases h with
 | none _=>exact .inl rfl
 | some r h1 h2 h3 _=>exact .inr ⟨r,rfl,h1,h2,h3⟩
theorem Fo (a b:Rat):decide (sD a b > 0)=decide (b<a):=by
 unfold sD;rw [Qy];split
 ·next h=>exact ⟨fun h2=>absurd h2 dc_,fun h2=>by grind⟩
 split
 ·next h=>exact ⟨fun _=>h,fun _=>by decide⟩
 next h=>exact ⟨fun h2=>absurd h2 dc_,fun h2=>absurd h2 h⟩
theorem Fp (a b:Rat):(sD a b == 0)=decide (b=a):=by
 unfold sD;split
 ·next h=>rw [Qc (by grind)];rfl
 split
 ·next h=>rw [Qc (by grind)];rfl
 next h=>rw [P0 (by grind)];rfl
theorem Jb (C:Mem)(S:Tabs C)(b n s N:Nat)(t:Lp.Tab)(wB wL T U:Value)(k:List Value)(h:TabV C b n t wB wL T U k)(V:t.Ok N)(hs:s<t.others.length)(W:∀ i,i<t.basic.length->QB 20 (t.line i).c/\QB 20 ((t.line i).g s)) :
  Pur cx.P 211 [.pointer (some ⟨b,0,none⟩),.int .i64 s] C fun u _=>∃ o:Int,u=.int .i64 o/\Lp.LeaveR n t s t.basic.length o:=by
 obtain ⟨A1,c1,rfl,aw,ax,_⟩:=id h.B;obtain ⟨A2,c2,rfl,ay,az,_⟩:=id h.L;have E:=h.B;have aA:maxLen<=9223372036854775807:=by simp [maxLen]
 have aB:=V.ll;have ac:=h.fl;have aC:(List.zipWith (fun (l:Lp.Line) w=>[af (qtx l.c),w]) t.lines k).length=t.basic.length:=by simp;omega
 refine Tr func211 85 U3 fun w0=>Th 1 [0,1] Z<|Th 1 [0,1,5] Z<|Th 1 [0,1,5,6] Z<|Ti 3 Z fun R a=>Tj (PtrTo.blockT (h.m_.o) _ 1) U8<|C6 2 [0,1,5,6,15,16,17] a Z<|G.loop (fun fr C' L' μ=>∃ (i:Nat)(o:Int)(v:Str),(i<=t.basic.length/\Lp.LeaveR n t s i o/\∀ r:Nat,o=r->v=qtx ((t.line r).c / -(t.line r).g s))/\fr=[(0,[],.pointer (some ⟨b,0,none⟩)),(1,[],.int .i64 s),(5,[],.int .i64 o),(6,[],af v),(15,[],.slice A2 (List.zipWith (fun (l:Lp.Line) w=>[af (qtx l.c),w]) t.lines k).length c2),(16,[],.int .i64 (List.zipWith (fun (l:Lp.Line) w=>[af (qtx l.c),w]) t.lines k).length),(17,[],.int .i64 i)]/\L'=[]/\μ=t.basic.length-i) (hn_ [0,1,5,6,15,16,17] Z) ⟨0, -1,[],⟨PL _,.none fun j hj=>absurd hj (Nat.not_lt_zero _),fun r hr=>by omega⟩,Z,Z,Z⟩ (fun fr aD aE m _ hI=>?_);obtain ⟨i,o,v,⟨hi,f,F⟩,rfl,rfl,rfl⟩:=hI;refine Th 1 [0,1,5,6,15,16,17,18] Z<|G.cd (fun H=>?_) fun H=>?_
 ·have p:i<t.basic.length:=by
   have:=aY H;omega
  obtain ⟨z,aF⟩:=lK h V p;obtain ⟨A3,c3,ad,aG,aH,_⟩:=id z;obtain ⟨X,I⟩:=W i p;have Y:=jK (ls:=t.lines) (ws:=k) (i:=i) om_ ac;rw [ad] at Y z;have aa:(qtx ((t.line i).g s)).length<=1000000:=PV (bi I dc_) dc_;refine Ti 1 Z fun R a=>Ty h.L.m_ U10 om_ Y fl_ fun aI ae=>Tj ae U8<|TB U5 fun b8=>Tk U6<|Ts (j:=0) U12<|Tn [0,1,5,6,7,8,15,16,17] a Z<|G.freeze 0 Z fun _ _ J=>Ti 4 Z fun R a=>Tj (PtrTo.blockT (h.m_.o) _ 1) U8<|Tk U6<|Ty E.m_ U10 om_ (fe p) fl_ fun aJ ag=>Tj ag U8<|Tt (fo _ b n (t.bas i) t _ _ T U k h.m_) U7<|Tm 3 Z<|TN U6 (fun _=>PtrTo.blockT (Mem.get J mup) _ 1) U3<|Tk U6<|D.index U10 (fun hg=>⟨z.mono mup,by omega,dM om_⟩) fl_ Z fun aK ah=>TN U6 ah U3<|TU (fun _=>(fY _ ((t.line i).g s) aa)) U9<|Tk U6<|TQ U8<|Tn [0,1,5,6,7,8,15,16,17,40] a Z<|G.cd (fun K=>?_) fun K=>?_
  ·have d:n<=t.bas i->0<=(t.line i).g s:=by
    intro h1;have d:(!decide (n<=t.bas i) || decide (eN ((t.line i).g s).num ≥ 0))=true:=K;rw [Fg,P0 h1] at d;simpa using d
   refine Tl fun R a=>Tq _ Z U6<|C6 1 [0,1,5,6,15,16,17] a Z<|Tv (m':=t.basic.length-(i+1)) om_ mup (hn_ [0,1,5,6,15,16,17] Z) ⟨i+1,o,v,⟨by omega,f.no d,F⟩,Z,Z,Z⟩
  have d:n<=t.bas i/\(t.line i).g s<0:=by
   have d:(!decide (n<=t.bas i) || decide (eN ((t.line i).g s).num ≥ 0))=false:=K;rw [Fg] at d;simp only [Rk,Bool.not_eq_false',PN,P7] at d;exact ⟨d.1,by have:=d.2;grind⟩
  have ab:-(t.line i).g s≠0:=by have:=d.2;grind
  have ai:=jn X (fa I) ab;refine TD [0,1,2,3,4,5,6,7,8,9,10,11,12,13] [(7,1),(8,1)] Z kr_ fun R hB a=>Tk U6<|Tj (bkT J 1) U8<|Tk U6<|Tj (bkT J 1) U8<|Tk U6<|Ty z.m_ U10 om_ (dM om_) fl_ fun aL aj=>Tj aj U8<|TU (fun _=>(eF _ ((t.line i).g s) aa)) U9<|TG (fun _=>(gK _ S.m_ (t.line i).c (-(t.line i).g s) 20 dc_ dc_ X (fa I) ab)) U9<|C6 5 [0,1,5,6,7,9,15,16,17] a Z<|Th 1 [0,1,5,6,7,9,15,16,17] Z<|Th 2 [0,1,5,6,7,9,15,16,17,54] Z<|G.cd (fun M=>?_) fun M=>?_
  ·have ak:0<=o:=by simpa using aY M
   obtain ⟨r,O,aM,aN,aO⟩:=(nq f).resolve_left om_;obtain ⟨al,am⟩:=W r om_;have an:-(t.line r).g s≠0:=by grind
   have ao:=jn al (fa am) an;have ap:=F r O;rw [O] at f;subst O;subst ap;obtain ⟨x,A⟩:∃ x,(t.line i).c / -(t.line i).g s=x:=⟨_,rfl⟩;obtain ⟨y,hy⟩:∃ y,(t.line r).c / -(t.line r).g s=y:=⟨_,rfl⟩;refine Ti 2 Z fun R a=>Tw (gM _ S.m_ _ _ 40 dc_ dc_ ai ao) U7 fl_<|C6 1 [0,1,5,6,7,9,11,15,16,17] a Z<|TD [0,1,2,3,4,5,6,7,8,9,10,11,12,13,14,15,16,17,18,19,20,21,22] [] Z kr_ fun R hB a=>Tm 9 Z<|TN U6 (fun _=>PtrTo.blockT (h.m_.o) _ 1) U3<|Tk U6<|D.index U10 (fun hg=>⟨E.mono mup,by omega,fe p⟩) fl_ Z fun aP aq=>TN U6 aq U3<|Tm 3 Z<|TN U6 (fun _=>PtrTo.blockT (h.m_.o) _ 1) U3<|Tk U6<|D.index U10 (fun hg=>⟨E.mono mup,by omega,by rw [Rr];exact fe om_⟩) fl_ Z fun aQ ar=>TN U6 ar U3<|Tk U6<|TJ U8<|TQ U8<|Tn [0,1,5,6,7,9,15,16,17,80] a Z<|G.cd (fun Q=>?_) fun Q=>?_
   ·have e:y<x∨y=x/\t.bas r<t.bas i:=by
     have e:(decide (sD ((t.line i).c / -(t.line i).g s) ((t.line r).c / -(t.line r).g s) > 0) || (sD ((t.line i).c / -(t.line i).g s) ((t.line r).c / -(t.line r).g s) == 0 && decide ((t.bas i:Int) > (t.bas r:Int))))=true:=Q;rw [A,hy,Fo,Fp] at e;simp only [Ru,PR,PN] at e;rcases e with h1 | ⟨h1,h2⟩
     ·exact .inl h1
     exact .inr ⟨h1,by omega⟩
    have q:=f.keep (by rw [A,hy];exact e.elim .inl (fun h1=>.inr ⟨h1.1,by have:=h1.2;omega⟩));refine Tl fun R a=>Tq _ Z U6<|C6 1 [0,1,5,6,15,16,17] a Z<|Tv (m':=t.basic.length-(i+1)) om_ mup (hn_ [0,1,5,6,15,16,17] Z) ⟨i+1,(r:Int),qtx ((t.line r).c / -(t.line r).g s),⟨by omega,q,F⟩,Z,Z,Z⟩
   have e:x<y∨x=y/\t.bas i<=t.bas r:=by
    have e:(decide (sD ((t.line i).c / -(t.line i).g s) ((t.line r).c / -(t.line r).g s) > 0) || (sD ((t.line i).c / -(t.line i).g s) ((t.line r).c / -(t.line r).g s) == 0 && decide ((t.bas i:Int) > (t.bas r:Int))))=false:=Q;rw [A,hy,Fo,Fp] at e;simp only [Rk,Bool.and_eq_false_iff,P7] at e;obtain ⟨h1,h2⟩:=e;by_cases h3:x<y
    ·exact .inl h3
    have h4:y=x:=by grind
    rcases h2 with h2 | h2
    ·exact absurd h4 h2
    exact .inr ⟨h4.symm,by omega⟩
   have q:=f.less d.1 d.2 (by rw [A,hy];exact e);refine Th 4 [0,1,5,6,15,16,17] Z<|Tl fun R a=>Tq _ Z U6<|C6 1 [0,1,5,6,15,16,17] a Z<|Tv (m':=t.basic.length-(i+1)) om_ mup (hn_ [0,1,5,6,15,16,17] Z) ⟨i+1,(i:Int),qtx ((t.line i).c / -(t.line i).g s),⟨by omega,q,fun r' au=>by rw [show r'=i by omega]⟩,Z,Z,Z⟩
  have ak:¬ 0<=o:=by simpa using PJ M
  have av:o=-1:=by
   rcases nq f with h1 | ⟨r,h1,_⟩
   ·exact h1
   omega
  subst av;have q:=f.first d.1 d.2;refine Th 4 [0,1,5,6,15,16,17] Z<|Tl fun R a=>Tq _ Z U6<|C6 1 [0,1,5,6,15,16,17] a Z<|Tv (m':=t.basic.length-(i+1)) om_ mup (hn_ [0,1,5,6,15,16,17] Z) ⟨i+1,(i:Int),qtx ((t.line i).c / -(t.line i).g s),⟨by omega,q,fun r' au=>by rw [show r'=i by omega]⟩,Z,Z,Z⟩
 have p:i=t.basic.length:=by
  have:=PJ H;omega
 exact Th 2 [4] Z<|Tp U2<|⟨Z,o,Z,by rw [<- p];exact f⟩
def ryF (t:Lp.Tab)(s n:Nat)(k:Rat)(i:Nat):List Rat:=(List.range n).map fun v=>if v∈t.basic.take i then k*t.dir s v else if v=t.oth s then k else 0
theorem kD :(ryF t s n k i).length=n:=by simp [ryF]
theorem AI (h:v<n):(ryF t s n k i)[v]?=some (if v∈t.basic.take i then k*t.dir s v else if v=t.oth s then k else 0):=by
 unfold ryF;rw [PH,Qi h];rfl
theorem Il (h:n<=t.oth s):List.replicate n 0=ryF t s n k 0:=by
 refine List.ext_getElem? fun v=>?_;by_cases a:v<n
 ·rw [AI a,Q6,aK a,List.take_zero,aG QF,aG om_]
 rw [PO ap,PO (by rw [kD];omega)]
theorem Ly (h:t.oth s<n):(List.replicate n 0).set (t.oth s) k=ryF t s n k 0:=by
 refine List.ext_getElem? fun v=>?_;rw [List.getElem?_set];by_cases a:v<n
 ·rw [AI a,Q6,aK a,List.take_zero,aG QF];by_cases e:t.oth s=v
  ·rw [aK e,aK (by simpa using h),aK e.symm]
  rw [aG e,aG (fun b=>e b.symm)]
 rw [aG om_,PO ap,PO (by rw [kD];omega)]
theorem Lx (b:Lp.TabOf p t)(c:s<t.others.length)(h:i<t.basic.length)(d:t.bas i<n):(ryF t s n k i).set (t.bas i) (k*(t.line i).g s)=ryF t s n k (i+1):=by
 refine List.ext_getElem? fun v=>?_;rw [List.getElem?_set,kD];by_cases a:v<n
 ·rw [AI a,AI a,li h];by_cases e:t.bas i=v
  ·subst e;rw [aK rfl,aK a,aK am,Lp.dir_bas b c h]
  rw [aG e];by_cases hm:v∈t.basic.take i
  ·rw [aK hm,aK (by simp [hm])]
  rw [aG hm,aG (show ¬ v∈t.basic.take i++[t.bas i] by simp [hm];exact fun h2=>e h2.symm)]
 rw [aG om_,PO (by rw [kD];omega),PO (by rw [kD];omega)]
theorem Im (h:i<t.basic.length)(a:n<=t.bas i):ryF t s n k i=ryF t s n k (i+1):=by
 refine List.map_congr_left fun v hm=>?_;have b:=PX.1 hm;rw [li h];by_cases hm:v∈t.basic.take i
 ·rw [aK hm,aK (by simp [hm])]
 rw [aG hm,aG (show ¬ v∈t.basic.take i++[t.bas i] by simp [hm];omega)]
theorem Lz (a:Lp.TabOf p t):ryF t s n k t.basic.length=(List.range n).map fun v=>k*t.dir s v:=by
 refine List.map_congr_left fun v _=>?_;rw [PT];split
 ·rfl
 next h =>
 rw [Lp.dir_oth a h];split <;> grind
def kT (t:Lp.Tab)(s:Nat):Rat:=if 0<t.worth.g s then -1 else 1
theorem N9:qtx (-1)=[45,49]:=by decide +kernel
theorem N8 (C:Mem)(Q:Tabs C)(p:Lp.Sys)(b s:Nat)(t:Lp.Tab)(S T U V:Value)(r:List Value)(h:TabV C b p.n t S T U V r)(x:Lp.TabOf p t)(I:s<t.others.length)(X:p.n<=1000000)(Y:∀ i,i<t.basic.length->QB 20 ((t.line i).g s))(aa:QB 20 (t.worth.g s)) :
  Jog.Fn cx.P 142 [.pointer (some ⟨b,0,none⟩),.int .i64 s] C [] fun u _ c=>∃ g,u=.slice (some ⟨g,0,none⟩) p.n p.n/\c=[.arr u 32 1 p.n (((List.range p.n).map fun v=>kT t s*t.dir s v).map aQ).flatten]:=by
 have ok:=x.ok;obtain ⟨A1,J,rfl,ab,ar,_⟩:=id h.B;obtain ⟨A2,c2,rfl,au,av,_⟩:=id h.L;obtain ⟨A3,c3,rfl,aw,ax,_⟩:=id h.O;obtain ⟨A4,c4,rfl,ay,az,_⟩:=id h.W;have ac:=h.B;have aA:t.basic.length<=J:=by rwa [al] at ab
 have aB:maxLen<=9223372036854775807:=by simp [maxLen]
 have aC:=ok.ll;have ad:=h.fl;have aD:=ok.wl;have ae:QB 20 (kT t s):=by unfold kT;split <;> exact ⟨by decide,by decide⟩
 refine Tr func142 72 U3 fun w0=>Th 1 [0,1] Z<|Th 1 [0,1,5] Z<|Ti 4 Z fun R a=>Tj (PtrTo.blockT (h.m_.o) _ 1) U8<|Tk U6<|Ty h.W.m_ U10 om_ (dM om_) fl_ fun aE ag=>Tj ag U8<|Tw (fY _ (t.worth.g s) (PV (bi aa dc_) dc_)) U7 fl_<|C6 1 [0,1,5,19] a Z<|G.cut (fun fr K c f=>(True)/\fr=[(0,[],.pointer (some ⟨b,0,none⟩)),(1,[],.int .i64 s),(5,[],af (qtx (kT t s)))]/\c=[]) ?_ (fun fr _ aF f _ l=>?_)
 ·refine G.cd (fun y=>?_) fun y=>?_
  ·have z:kT t s=-1:=by
    have d:0<t.worth.g s:=by
     have d:decide (0<eN (t.worth.g s).num)=true:=y;rw [tL] at d;exact aY d
    unfold kT;rw [aK d]
   refine Th 1 [0,1,5] Z<|Tx 0 (Mem.le.refl _) (hn_ [0,1,5] Z) ⟨trivial,by rw [z,N9];rfl,Z⟩
  have z:kT t s=1:=by
   have d:¬ 0<t.worth.g s:=by
    have d:decide (0<eN (t.worth.g s).num)=false:=y;rw [tL] at d;exact PJ d
   unfold kT;rw [aG d]
  refine Tx 0 (Mem.le.refl _) (hn_ [0,1,5] Z) ⟨trivial,by rw [z,qtx1];rfl,Z⟩
 obtain ⟨ah,rfl,rfl⟩:=l;refine TH [(4,3)] Z fun R a=>Tm 3 Z<|Tj (PtrTo.blockT (h.m_.o) _ 1) U8<|D.call (iM _ p.n X) Z (.inr dc_) U6 (PI _) fl_ fun aH _ aI _ aj=>C6 1 [0,1,5,6] a Z ?_;obtain ⟨g,rfl,rfl⟩:=aj;refine Tz (L':=[.arr (.slice (some ⟨g,0,none⟩) p.n p.n) 32 1 p.n ((List.replicate p.n (0:Rat)).map aQ).flatten]) (by rw [<- tE];rfl)<|Ti 3 Z fun R a=>Tj (PtrTo.blockT (h.m_.o) _ 1) U8<|Tk U6<|Ty h.O.m_ U10 om_ (show (t.others.map aT)[s]?=some (aT (t.oth s)) from fe I) fl_ fun aJ ak=>Tj ak U8<|C6 1 [0,1,5,6,7] a Z<|Ti 2 Z fun R a=>Tt (fo _ b p.n (t.oth s) t _ _ _ _ r h.m_) U7<|C6 1 [0,1,5,6,7,35] a Z<|G.cut (fun fr K c f=>(True)/\fr=[(0,[],.pointer (some ⟨b,0,none⟩)),(1,[],.int .i64 s),(5,[],af (qtx (kT t s))),(6,[],.slice (some ⟨g,0,none⟩) p.n p.n)]/\c=[.arr (.slice (some ⟨g,0,none⟩) p.n p.n) 32 1 p.n ((ryF t s p.n (kT t s) 0).map aQ).flatten]) ?_ (fun fr _ aL f _ l=>?_)
 ·refine G.cd (fun A=>?_) fun A=>?_
  ·have q:t.oth s<p.n:=by
    have q:¬ p.n<=t.oth s:=by simpa using A
    omega
   refine Ti 3 Z fun R a=>TL (t.oth s*1) U10 ai U2<|TP (j:=0) U11 (by show t.oth s*1+1<=_;rw [bW bJ,Qd];omega)<|Tn [0,1,5,6] a Z<|Tz (L':=[.arr (.slice (some ⟨g,0,none⟩) p.n p.n) 32 1 p.n ((ryF t s p.n (kT t s) 0).map aQ).flatten]) (by rw [<- Ly q,<- bN bJ _ (by rw [Qd];exact q)];rfl)<|Tx 0 (Mem.le.refl _) (hn_ [0,1,5,6] Z) ⟨trivial,Z,Z⟩
  have q:p.n<=t.oth s:=by simpa using A
  rw [Il (k:=kT t s) q];refine Tx 0 (Mem.le.refl _) (hn_ [0,1,5,6] Z) ⟨trivial,Z,Z⟩
 obtain ⟨ah,rfl,rfl⟩:=l;refine Ti 3 Z fun R a=>Tj (PtrTo.blockT (h.m_.o) _ 1) U8<|C6 2 [0,1,5,6,43,44,45] a Z<|G.loop (fun fr K c f=>∃ (i:Nat),(i<=t.basic.length)/\fr=[(0,[],.pointer (some ⟨b,0,none⟩)),(1,[],.int .i64 s),(5,[],af (qtx (kT t s))),(6,[],.slice (some ⟨g,0,none⟩) p.n p.n),(43,[],.slice A1 (t.basic.map aT).length J),(44,[],.int .i64 (t.basic.map aT).length),(45,[],.int .i64 i)]/\c=[.arr (.slice (some ⟨g,0,none⟩) p.n p.n) 32 1 p.n ((ryF t s p.n (kT t s) i).map aQ).flatten]/\f=t.basic.length-i) (hn_ [0,1,5,6,43,44,45] Z) ⟨0,PL _,Z,Z,Z⟩ (fun fr aM aN m M l=>?_);obtain ⟨i,hi,rfl,rfl,rfl⟩:=l;refine Th 1 [0,1,5,6,43,44,45,46] Z<|G.cd (fun E=>?_) fun E=>?_
 ·have e:i<t.basic.length:=by
   have:=aY E;rw [al] at this;omega
  obtain ⟨F,aO⟩:=lK h ok e;obtain ⟨A5,c5,am,aP,aR,_⟩:=id F;have N:=jK (ls:=t.lines) (ws:=r) (i:=i) om_ ad;rw [am] at N F;refine Ti 1 Z fun R a=>Ty ac.m_ U10 om_ (show (t.basic.map aT)[i]?=some (aT (t.bas i)) from fe e) fl_ fun aS an=>Tj an U8<|C6 2 [0,1,5,6,8,9,43,44,45] a Z<|Ti 2 Z fun R a=>Tt (fo _ b p.n (t.bas i) t _ _ _ _ r h.m_) U7<|C6 1 [0,1,5,6,8,9,43,44,45,53] a Z<|G.cd (fun H=>?_) fun H=>?_
  ·have w:t.bas i<p.n:=by
    have aU:¬ p.n<=t.bas i:=by simpa using H
    omega
   refine Ti 6 Z fun R a=>Tj (PtrTo.blockT (h.m_.o) _ 1) U8<|Tk U6<|Ty h.L.m_ U10 om_ N fl_ fun aV ao=>UD ao U10 fl_ fun aW ap=>Tj ap U8<|Tk U6<|Ty F.m_ U10 om_ (dM om_) fl_ fun aX aq=>Tj aq U8<|Tw (di _ Q.m_ (kT t s) ((t.line i).g s) 20 dc_ dc_ ae (Y i e)) U7 fl_<|TL (t.bas i*1) U10 ai U2<|TP (j:=0) U11 (by show t.bas i*1+1<=_;rw [bW bJ,kD];omega)<|Tn [0,1,5,6,43,44,45] a Z<|Tl fun R a=>Tq _ Z U6<|C6 1 [0,1,5,6,43,44,45] a Z<|Tz (L':=[.arr (.slice (some ⟨g,0,none⟩) p.n p.n) 32 1 p.n ((ryF t s p.n (kT t s) (i+1)).map aQ).flatten]) (by rw [<- Lx x I e w,<- bN bJ _ (by rw [kD];exact w)];rfl)<|Tv (m':=t.basic.length-(i+1)) om_ M (hn_ [0,1,5,6,43,44,45] Z) ⟨i+1,om_,Z,Z,Z⟩
  have w:p.n<=t.bas i:=by simpa using H
  rw [Im e w];refine Tl fun R a=>Tq _ Z U6<|C6 1 [0,1,5,6,43,44,45] a Z<|Tv (m':=t.basic.length-(i+1)) om_ M (hn_ [0,1,5,6,43,44,45] Z) ⟨i+1,om_,Z,Z,Z⟩
 have e:i=t.basic.length:=by
  have:=PJ E;rw [al] at this;omega
 refine Th 2 [4] Z<|Tu (TW Z Z ?_);exact ⟨g,Z,by rw [e,Lz x]⟩
end Go.Proofs.YtfjcldheldflbaaGreatDoor
