import Derived.Test.YtfjcldheldflbaaGreatDoorG11
set_option maxHeartbeats 4000000
namespace Go.Proofs.YtfjcldheldflbaaGreatDoor
open Go.Proofs.Tryz
open Go Go.Jog
set_option maxRecDepth 100000
variable {C:Mem}{N b:Nat}{bf fs:List Rat}{i j:Nat}{k:Rat}{l:Lp.Line}{ls:List (Rat × Value)}{n:Nat}{o:Int}{p:Lp.Sys}{q s:Nat}{t:Lp.Tab}{v:Nat}{wB:Value}{wF:Nat->Value}{wL wO wW:Value}
open Classical in
theorem Hn (q:Rat):decide (er q.num ≥ 0)=decide (0<=q):=by
 have h:=oW q;have h2:decide (0<=q)=!decide (q<0):=by
  rw[<- decide_not,S8];grind
 rw[h2,<- h,<- decide_not,S8];omega
theorem qtx0:qtx 0=[48]:=by decide +kernel
theorem Sa:aM 0=[Value.string ⟨#[48]⟩]:=by
 show [ae (qtx 0)]=_;rw[qtx0];rfl
def zF (fs:List Rat)(s q:Nat):Rat:=if q=s then 0 else fs.getD q 0
def kZ (fs bf:List Rat)(s:Nat)(k:Rat)(j:Nat):List Rat:=(List.range fs.length).map λq=>zF fs s q+(if q<j then k*bf.getD q 0 else 0)
theorem iw :(kZ fs bf s k j).length=fs.length:=by simp[kZ]
theorem xS :fs.set s 0=kZ fs bf s k 0:=by
 refine List.ext_getElem? λq=>?_;unfold kZ;rw[List.getElem?_set,Sh];by_cases a:q<fs.length
 .rw[SU a];simp only[TU,Nat.not_lt_zero,TS];unfold zF;split
  .next e=>rw[aK om_,aK e.symm];rw[Rat.add_zero]
  next e=>rw[aF (λb=>e b.symm),ak,ah a];simp only[TD];congr 1;grind
 rw[Sq om_,Sq am];split
 .split
  .omega
  rfl
 rfl
theorem uR (h:q<fs.length):(kZ fs bf s k j)[q]?=some (zF fs s q+(if q<j then k*bf.getD q 0 else 0)):=by
 unfold kZ;rw[Sh,SU h];rfl
theorem CS (h:j<fs.length):(kZ fs bf s k j).set j (zF fs s j+k*bf.getD j 0)=kZ fs bf s k (j+1):=by
 refine List.ext_getElem? λq=>?_;rw[List.getElem?_set,iw];by_cases a:q<fs.length
 .rw[uR a,uR a];by_cases e:j=q
  .subst e;rw[aK rfl,aK a,aK om_]
  rw[aF e];by_cases h1:q<j
  .rw[aK h1,aK om_]
  rw[aF h1,aF om_]
 rw[Sq (by rw[iw];omega),Sq (by rw[iw];omega)];split
 .exact absurd om_ a
 rfl
theorem xV (a:bf.getD j 0=0):kZ fs bf s k j=kZ fs bf s k (j+1):=by
 refine List.map_congr_left λq _=>?_;by_cases e:q=j
 .subst e;rw[aF om_,aK om_,a];grind
 by_cases h1:q<j
 .rw[aK h1,aK om_]
 rw[aF h1,aF om_]
theorem xU :kZ fs bf s 0 j=kZ fs bf s 0 0:=by
 refine List.map_congr_left λq _=>?_;split <;> split <;> grind
theorem Hk {c bc:Rat}(_b:s<fs.length):Lp.putL ⟨c,fs⟩ s ⟨bc,bf⟩=⟨c+fs.getD s 0*bc,kZ fs bf s (fs.getD s 0) fs.length⟩:=by
 unfold Lp.putL;congr 1;refine List.map_congr_left λq a=>?_;rw[aK (SE.1 a)];rfl
theorem P4 (a:∀x∈fs,QB 50 x)(b:q<fs.length):QB 50 (zF fs s q):=by
 unfold zF;split
 .exact⟨by decide,by decide⟩
 rw[ak,ah b];exact a _ (Td _)
def bC (p:Rat × Value):List Value:=[ae (qtx p.1),p.2]
theorem ig:∀p,(bC p).length=2:=λ_=>rfl
theorem pf {p:Rat × Value}(h:ls[i]?=some p):(ls.map bC).flatten.drop (i*2)=ae (qtx p.1)::p.2::(ls.map bC).flatten.drop (i*2+2):=by
 obtain⟨h1,h2⟩:=aT.1 h;have e:=(ci ig ls i).2;have a:=(ci ig ls (i+1)).2;rw[TQ]at a;rw[e,a,SN h1,h2];rfl
theorem Kt {p:Rat × Value}(h:ls[i]?=some p):ls.set i p=ls:=by
 refine List.ext_getElem? λj=>?_;rw[List.getElem?_set];split
 .next e=>subst e;rw[aK (aT.1 h).1,h]
 rfl
theorem E6 {p:Rat × Value}(h:ls[i]?=some p):((ls.map bC).flatten.drop (i*2)).take 1=[ae (qtx p.1)]:=by rw[pf h];rfl
theorem ko {p:Rat × Value}(h:ls[i]?=some p):((ls.map bC).flatten.drop (i*2+1)).take 1=[p.2]:=by rw[<- List.drop_drop,pf h];rfl
theorem AA {p:Rat × Value}(h:ls[i]?=some p)(c:Rat):aB (ls.map bC).flatten [ae (qtx c)] (i*2)=((ls.set i (c,p.2)).map bC).flatten:=by
 rw[<- bI ig (c,p.2) (aT.1 h).1];unfold aB;have:(ls.map bC).flatten.drop (i*2+1)=p.2::(ls.map bC).flatten.drop (i*2+2):=by rw[<- List.drop_drop,pf h];rfl
 show _++[_]++List.drop (i*2+1) _=_++[_,_]++List.drop (i*2+2) _;rw[this];simp
theorem Ov (C:Mem)(t:Tabs C)(g e f n s:Nat)(i l o p z:Value)(b d:List Rat)(c h:Rat)(ai:b.length=n)(aj:d.length=n)(hs:s<n)(q:Sl C 1 z (d.map aM))(Q:QB 50 c)(A:∀x∈b,QB 50 x)(B:QB 50 h)(S:∀x∈d,QB 50 x) :
  Jog.Fn cx.P 262 [.pointer (some ⟨g,4,none⟩),i_ s,.agg ⟨[ae (qtx h),z]⟩] C [.obj g (.cells ⟨[i,l,o,p,ae (qtx c),s_ e n f]⟩ 231 (0,0)),.arr (s_ e n f) 32 1 n (b.map aM).flatten]
   λu _ r=>u=.tuple #[]/\r=[.obj g (.cells ⟨[i,l,o,p,ae (qtx (c+b.getD s 0*h)),s_ e n f]⟩ 231 (0,0)),.arr (s_ e n f) 32 1 n ((kZ b d s (b.getD s 0) n).map aM).flatten]:=by
 obtain⟨T,V,rfl,W,al,_⟩:=id q;simp only[au]at W q⊢;have D:s<b.length:=by omega
 have am:=mx_
 obtain⟨k,E⟩:∃k,b.getD s 0=k:=⟨_,rfl⟩;have F:b[s]?=some k:=by rw[<- E,ak,ah D];rfl
 have v:QB 50 k:=A k (aJ F);rw[E];refine V7 func262 64 U3 λw0=>?_;refine Wk (L':=[.obj g (.cells ⟨[i,l,o,p,ae (qtx c),s_ e n f]⟩ 231 (0,0)),.arr (s_ e n f) 32 1 n (b.map aM).flatten]) U ?_;refine V3 λR a=>?_;refine Wi U6 (λb5=>?_);refine V5 [0,1,5] a U ?_;clear a R;refine G.freeze 0 U (λ_ _ H=>?_);refine U1 3 U λR a=>?_;refine V9 ag U9 ?_;refine V2 U6 ?_;refine Ww (s*1) U10 w_ U2 ?_;refine WJ af U6 (λ_=>(by rw[dx bE F];rfl)) U2 ?_;refine C6 1 [0,1,5,6] a U ?_;clear a R;refine U1 3 U λR a=>?_;refine V9 ag U9 ?_;refine V2 U6 ?_;refine Ww (s*1) U10 w_ U2 ?_;refine WA (j:=1) U11 (by show s*1+1<=_;rw[bM bE];omega) ?_;refine V5 [0,5,6] a U ?_;clear a R;refine G.perm (L':=[.obj g (.cells ⟨[i,l,o,p,ae (qtx c),s_ e n f]⟩ 231 (0,0)),.arr (s_ e n f) 32 1 n ((kZ b d s k 0).map aM).flatten]) (by rw[<- xS,<- bI bE 0 D,Sa];exact List.Perm.swap _ _ _) ?_;refine U0 2 [0,5,6,23] U ?_;refine G.cd (λI=>?_) λI=>?_
 .have X:qtx k=[48]:=by simpa using I
  have Y:k=0:=gx (X.trans (by decide +kernel:([48]:List UInt8)=qtx 0));subst Y;have Z:c+0*h=c:=by grind
  refine Wk (L':=[.obj g (.cells ⟨[i,l,o,p,ae (qtx (c+0*h)),s_ e n f]⟩ 231 (0,0)),.arr (s_ e n f) 32 1 n ((kZ b d s 0 n).map aM).flatten]) (by rw[Z,xU (j:=n)]) ?_;refine Wd (X5 U  ?_);exact⟨U,U⟩
 refine Wn [0,1,2,3,4,5,6,7,8,9,10,11,12] [(8,1),(9,1)] U kr_ (λR q a=>?_);refine V4 4 U ?_;refine V9 ag U9 ?_;refine V4 2 U ?_;refine V1 (bkT H 1) U8 ?_;refine Wo (λ_=>(cX _ t.m_ k h 50 dc_ dc_ v B)) U9 ?_;refine Wo (λ_=>(fQ _ t.m_ c (k*h) 100 dc_ dc_ (Q.le dc_) ((fS v B).le dc_))) U9 ?_;refine V4 2 U ?_;refine Wa (j:=0) U12 ?_;refine V5 [0,5,6] a U ?_;clear a q R;refine U1 1 U λR a=>?_;refine V1 (bkT H 1) U8 ?_;refine C6 2 [0,6,37,38,39] a U ?_;clear a R;refine G.loop (λfr C' r μ=>∃(j:Nat),(j<=n)/\fr=[(0,[],.pointer (some ⟨g,4,none⟩)),(6,[],ae (qtx k)),(37,[],.slice T d.length V),(38,[],i_ d.length),(39,[],i_ j)]/\r=[.obj g (.cells ⟨[i,l,o,p,ae (qtx (c+k*h)),s_ e n f]⟩ 231 (0,0)),.arr (s_ e n f) 32 1 n ((kZ b d s k j).map aM).flatten]/\μ=n-j) (hn_ [0,6,37,38,39] U) ⟨0,Sm _,U,U,U⟩ (λfr an ao m J hI=>?_);obtain⟨j,hj,rfl,rfl,rfl⟩:=hI;refine U0 1 [0,6,37,38,39,40] U ?_;refine G.cd (λw=>?_) λw=>?_
 .have K:j<n:=by
   have:=RD w;omega
  obtain⟨x,y⟩:∃x,d[j]?=some x:=⟨d[j]'om_,ah om_⟩;have L:QB 50 x:=S x (aJ y);have M:d.getD j 0=x:=by rw[ak,y];rfl
  have aa:(kZ b d s k j)[j]?=some (zF b s j):=by
   rw[uR om_,aF (Nat.lt_irrefl _)];congr 1;grind
  have qz:=P4 (s:=s) A (show j<b.length by omega);have N:=CS (bf:=d) (s:=s) (k:=k) (show j<b.length by omega);rw[M]at N;refine U1 1 U λR a=>?_;refine Wf q.m_ U10 om_ (dJ y) fl_ (λap ab=>?_);refine V1 ab U8 ?_;refine C6 2 [0,6,7,8,37,38,39] a U ?_;clear a R;refine U0 2 [0,6,7,8,37,38,39,45] U ?_;refine G.cd (λO=>?_) λO=>?_
  .refine Wn [0,1,2,3,4,5,6,7,8,9,10,11,12,13,14,15,16,17] [(14,1),(15,1)] U kr_ (λR q a=>?_);refine V4 3 U ?_;refine V9 ag U9 ?_;refine V4 4 U ?_;refine V9 ag U9 ?_;refine V2 U6 ?_;refine Ww (j*1) U10 w_ U2 ?_;refine WJ af U6 (λ_=>(by rw[dx bE aa];rfl)) U2 ?_;refine V4 2 U ?_;refine Wo (λ_=>(cX _ t.m_ k x 50 dc_ dc_ v L)) U9 ?_;refine Wo (λ_=>(fQ _ t.m_ (zF b s j) (k*x) 100 dc_ dc_ (qz.le dc_) ((fS v L).le dc_))) U9 ?_;refine Ww (j*1) U10 w_ U2 ?_;refine WA (j:=1) U11 (by show j*1+1<=_;rw[bM bE,iw];omega) ?_;refine V5 [0,6,37,38,39] a U ?_;clear a q R;refine V3 λR a=>?_;refine V8 _ U U6 ?_;refine C6 1 [0,6,37,38,39] a U ?_;clear a R;refine G.perm (L':=[.obj g (.cells ⟨[i,l,o,p,ae (qtx (c+k*h)),s_ e n f]⟩ 231 (0,0)),.arr (s_ e n f) 32 1 n ((kZ b d s k (j+1)).map aM).flatten]) (by rw[<- N,<- bI bE _ (by rw[iw];omega)];exact List.Perm.swap _ _ _) ?_;refine We (m':=n-(j+1)) om_ J (hn_ [0,6,37,38,39] U) ⟨j+1,om_,U,U,U⟩
  have ac:x=0:=by
   have ad:qtx x=[48]:=by simpa using O
   exact gx (ad.trans (by decide +kernel:([48]:List UInt8)=qtx 0))
  rw[xV (j:=j) (by rw[M];exact ac)];refine V3 λR a=>?_;refine V8 _ U U6 ?_;refine C6 1 [0,6,37,38,39] a U ?_;clear a R;refine We (m':=n-(j+1)) om_ J (hn_ [0,6,37,38,39] U) ⟨j+1,om_,U,U,U⟩
 have K:j=n:=by
  have:=Si w;omega
 rw[K];refine Xc U ?_;exact⟨U,U⟩
theorem Ow (C:Mem)(t:Tabs C)(l m o i e f n s:Nat)(z:Value)(h:List (Rat × Value))(b d:List Rat)(c g:Rat)(aj:h.length=m)(q:h[i]?=some (c,s_ e n f))(al:b.length=n)(am:d.length=n)(hs:s<n)(r:Sl C 1 z (d.map aM))(S:QB 50 c)(A:∀x∈b,QB 50 x)(B:QB 50 g)(T:∀x∈d,QB 50 x) :
  Jog.Fn cx.P 262 [.pointer (some ⟨l,i*2,none⟩),i_ s,.agg ⟨[ae (qtx g),z]⟩] C [.arr (s_ l m o) 228 2 m (h.map bC).flatten,.arr (s_ e n f) 32 1 n (b.map aM).flatten]
   λu _ p=>u=.tuple #[]/\p=[.arr (s_ l m o) 228 2 m ((h.set i (c+b.getD s 0*g,s_ e n f)).map bC).flatten,.arr (s_ e n f) 32 1 n ((kZ b d s (b.getD s 0) n).map aM).flatten]:=by
 obtain⟨V,W,rfl,X,an,_⟩:=id r;simp only[au]at X r⊢;have D:s<b.length:=by omega
 have ao:=mx_
 obtain⟨k,E⟩:∃k,b.getD s 0=k:=⟨_,rfl⟩;have F:b[s]?=some k:=by rw[<- E,ak,ah D];rfl
 have v:QB 50 k:=A k (aJ F);rw[E];refine V7 func262 64 U3 λw0=>?_;refine Wk (L':=[.arr (s_ l m o) 228 2 m (h.map bC).flatten,.arr (s_ e n f) 32 1 n (b.map aM).flatten]) U ?_;refine V3 λR a=>?_;refine Wi U6 (λb5=>?_);refine V5 [0,1,5] a U ?_;clear a R;refine G.freeze 0 U (λ_ _ H=>?_);refine U1 3 U λR a=>?_;refine WJ ag U6 (λ_=>(by rw[ko q];rfl)) U2 ?_;refine V2 U6 ?_;refine Ww (s*1) U10 w_ U2 ?_;refine WJ af U6 (λ_=>(by rw[dx bE F];rfl)) U2 ?_;refine C6 1 [0,1,5,6] a U ?_;clear a R;refine U1 3 U λR a=>?_;refine WJ ag U6 (λ_=>(by rw[ko q];rfl)) U2 ?_;refine V2 U6 ?_;refine Ww (s*1) U10 w_ U2 ?_;refine WA (j:=1) U11 (by show s*1+1<=_;rw[bM bE];omega) ?_;refine V5 [0,5,6] a U ?_;clear a R;refine G.perm (L':=[.arr (s_ l m o) 228 2 m (h.map bC).flatten,.arr (s_ e n f) 32 1 n ((kZ b d s k 0).map aM).flatten]) (by rw[<- xS,<- bI bE 0 D,Sa];exact List.Perm.swap _ _ _) ?_;refine U0 2 [0,5,6,23] U ?_;refine G.cd (λI=>?_) λI=>?_
 .have Y:qtx k=[48]:=by simpa using I
  have Z:k=0:=gx (Y.trans (by decide +kernel:([48]:List UInt8)=qtx 0));subst Z;have aa:c+0*g=c:=by grind
  refine Wk (L':=[.arr (s_ l m o) 228 2 m ((h.set i (c+0*g,s_ e n f)).map bC).flatten,.arr (s_ e n f) 32 1 n ((kZ b d s 0 n).map aM).flatten]) (by rw[aa,xU (j:=n),Kt q]) ?_;refine Wd (X5 U  ?_);exact⟨U,U⟩
 refine Wn [0,1,2,3,4,5,6,7,8,9,10,11,12] [(8,1),(9,1)] U kr_ (λR r a=>?_);refine V4 4 U ?_;refine WJ ag U6 (λ_=>(by rw[E6 q];rfl)) U2 ?_;refine V4 2 U ?_;refine V1 (bkT H 1) U8 ?_;refine Wo (λ_=>(cX _ t.m_ k g 50 dc_ dc_ v B)) U9 ?_;refine Wo (λ_=>(fQ _ t.m_ c (k*g) 100 dc_ dc_ (S.le dc_) ((fS v B).le dc_))) U9 ?_;refine V4 2 U ?_;refine WA (j:=0) U11 (by show i*2+1<=_;rw[bM ig];have:=(aT.1 q).1;omega) ?_;refine V5 [0,5,6] a U ?_;clear a r R;refine Wk (L':=[.arr (s_ l m o) 228 2 m ((h.set i (c+k*g,s_ e n f)).map bC).flatten,.arr (s_ e n f) 32 1 n ((kZ b d s k 0).map aM).flatten]) (by rw[<- AA q];rfl) ?_;have J:(h.set i (c+k*g,s_ e n f))[i]?=some (c+k*g,s_ e n f):=UR (aT.1 q).1;refine U1 1 U λR a=>?_;refine V1 (bkT H 1) U8 ?_;refine C6 2 [0,6,37,38,39] a U ?_;clear a R;refine G.loop (λfr C' p μ=>∃(j:Nat),(j<=n)/\fr=[(0,[],.pointer (some ⟨l,i*2,none⟩)),(6,[],ae (qtx k)),(37,[],.slice V d.length W),(38,[],i_ d.length),(39,[],i_ j)]/\p=[.arr (s_ l m o) 228 2 m ((h.set i (c+k*g,s_ e n f)).map bC).flatten,.arr (s_ e n f) 32 1 n ((kZ b d s k j).map aM).flatten]/\μ=n-j) (hn_ [0,6,37,38,39] U) ⟨0,Sm _,U,U,U⟩ (λfr ap aq m K hI=>?_);obtain⟨j,hj,rfl,rfl,rfl⟩:=hI;refine U0 1 [0,6,37,38,39,40] U ?_;refine G.cd (λw=>?_) λw=>?_
 .have L:j<n:=by
   have:=RD w;omega
  obtain⟨x,y⟩:∃x,d[j]?=some x:=⟨d[j]'om_,ah om_⟩;have M:QB 50 x:=T x (aJ y);have N:d.getD j 0=x:=by rw[ak,y];rfl
  have ab:(kZ b d s k j)[j]?=some (zF b s j):=by
   rw[uR om_,aF (Nat.lt_irrefl _)];congr 1;grind
  have qz:=P4 (s:=s) A (show j<b.length by omega);have O:=CS (bf:=d) (s:=s) (k:=k) (show j<b.length by omega);rw[N]at O;refine U1 1 U λR a=>?_;refine Wf r.m_ U10 om_ (dJ y) fl_ (λar ac=>?_);refine V1 ac U8 ?_;refine C6 2 [0,6,7,8,37,38,39] a U ?_;clear a R;refine U0 2 [0,6,7,8,37,38,39,45] U ?_;refine G.cd (λQ=>?_) λQ=>?_
  .refine Wn [0,1,2,3,4,5,6,7,8,9,10,11,12,13,14,15,16,17] [(14,1),(15,1)] U kr_ (λR r a=>?_);refine V4 3 U ?_;refine WJ ag U6 (λ_=>(by rw[ko J];rfl)) U2 ?_;refine V4 4 U ?_;refine WJ ag U6 (λ_=>(by rw[ko J];rfl)) U2 ?_;refine V2 U6 ?_;refine Ww (j*1) U10 w_ U2 ?_;refine WJ af U6 (λ_=>(by rw[dx bE ab];rfl)) U2 ?_;refine V4 2 U ?_;refine Wo (λ_=>(cX _ t.m_ k x 50 dc_ dc_ v M)) U9 ?_;refine Wo (λ_=>(fQ _ t.m_ (zF b s j) (k*x) 100 dc_ dc_ (qz.le dc_) ((fS v M).le dc_))) U9 ?_;refine Ww (j*1) U10 w_ U2 ?_;refine WA (j:=1) U11 (by show j*1+1<=_;rw[bM bE,iw];omega) ?_;refine V5 [0,6,37,38,39] a U ?_;clear a r R;refine V3 λR a=>?_;refine V8 _ U U6 ?_;refine C6 1 [0,6,37,38,39] a U ?_;clear a R;refine G.perm (L':=[.arr (s_ l m o) 228 2 m ((h.set i (c+k*g,s_ e n f)).map bC).flatten,.arr (s_ e n f) 32 1 n ((kZ b d s k (j+1)).map aM).flatten]) (by rw[<- O,<- bI bE _ (by rw[iw];omega)];exact List.Perm.swap _ _ _) ?_;refine We (m':=n-(j+1)) om_ K (hn_ [0,6,37,38,39] U) ⟨j+1,om_,U,U,U⟩
  have ad:x=0:=by
   have ai:qtx x=[48]:=by simpa using Q
   exact gx (ai.trans (by decide +kernel:([48]:List UInt8)=qtx 0))
  rw[xV (j:=j) (by rw[N];exact ad)];refine V3 λR a=>?_;refine V8 _ U U6 ?_;refine C6 1 [0,6,37,38,39] a U ?_;clear a R;refine We (m':=n-(j+1)) om_ K (hn_ [0,6,37,38,39] U) ⟨j+1,om_,U,U,U⟩
 have L:j=n:=by
  have:=Si w;omega
 rw[L];refine Xc U ?_;exact⟨U,U⟩
def lE (a b:List Rat)(n:Nat):Rat:=Lp.sumN (λk=>a.getD k 0*b.getD k 0) n
theorem AZ {a b:List Rat}(c:∀x∈a,QB 23 x)(d:∀x∈b,QB 23 x):∀i,QB (48*(i+1)) (lE a b i)
|0=>(show QB 20 (0:Rat) from⟨by decide,by decide⟩).le om_
|i+1=>(zZ (AZ c d i) (fS (tI (j:=i) c) (tI (j:=i) d))).le om_
theorem yL {a b:List Rat}{x y:Rat}(c:a[i]?=some x)(d:b[i]?=some y):lE a b (i+1)=lE a b i+x*y:=by
 unfold lE;simp only[Lp.sumN];rw[ak,c,ak,d];rfl
theorem Rb (C:Mem)(l:Tabs C)(n o:Value)(a b:List Rat)(d:Sl C 1 n (a.map aM))(e:Sl C 1 o (b.map aM))(O:b.length=a.length)(Q:a.length<=150)(p:∀x∈a,QB 23 x)(q:∀x∈b,QB 23 x) :
  Gives cx.P 219 [n,o] C (ae (qtx (lE a b a.length))):=by
 obtain⟨w,z,rfl,A,S,_⟩:=id d;obtain⟨A2,c2,rfl,B,T,_⟩:=id e;have V:=mx_
 simp only[au]at d e A B⊢;refine V7 func219 37 U3 λw0=>U0 1 [0,1] U<|U0 1 [0,1,5] U<|U0 3 [0,1,5,8,9] U ?_;have E:Value.string ⟨#[48]⟩=ae (qtx (lE a b 0)):=by
  show _=ae (qtx 0);rw[qtx0];rfl
 rw[E];refine G.loop (λfr W F H=>∃(i:Nat),(i<=a.length)/\fr=[(0,[],.slice w a.length z),(1,[],.slice A2 b.length c2),(5,[],ae (qtx (lE a b i))),(8,[],i_ a.length),(9,[],i_ i)]/\F=[]/\H=a.length-i) (hn_ [0,1,5,8,9] U) ⟨0,Sm _,U,U,U⟩ (λfr X Y m r I=>?_);obtain⟨i,Z,rfl,rfl,rfl⟩:=I;refine U0 1 [0,1,5,8,9,10] U<|G.cd (λg=>?_) λg=>?_
 .have s:i<a.length:=by
   have:=RD g;omega
  obtain⟨x,f⟩:∃x,a[i]?=some x:=⟨a[i]'om_,ah om_⟩;obtain⟨y,hy⟩:∃y,b[i]?=some y:=⟨b[i]'om_,ah om_⟩;have t:QB 23 x:=p x (aJ f);have u:QB 23 y:=q y (aJ hy);have J:=AZ p q i;have v:=yL f hy;refine U0 2 [0,1,5,6,8,9] U<|U1 2 U λR c=>Wf d.m_ U10 om_ (dJ f) fl_ λaa K=>V1 K U8<|V4 4 U<|D.index U10 (λhg=>⟨e.mono mup,by omega,dJ hy⟩) fl_ U λab L=>Wv U6 L U3<|V2 U6<|Wr U8<|V5 [0,1,5,6,8,9,23] c U<|G.cd (λj=>?_) λj=>?_
  .refine Wn [0,1,2,3,4,5,6,7,8,9,10,11] [(9,1),(10,1)] U kr_ λR hB c=>V4 3 U<|Wf d.m_ U10 om_ (dJ f) fl_ λac M=>V1 M U8<|V4 2 U<|Wf e.m_ U10 om_ (dJ hy) fl_ λad N=>V1 N U8<|Wo (λ_=>(cX _ l.m_ x y 23 dc_ dc_ t u)) U9<|Wo (λ_=>(fQ _ l.m_ (lE a b i) (x*y) (48*(i+1)) om_ om_ J ((fS t u).le om_))) U9<|C6 1 [0,1,5,8,9] c U<|V3 λR c=>V8 _ U U6<|C6 1 [0,1,5,8,9] c U ?_;rw[<- v];refine We (m':=a.length-(i+1)) om_ r (hn_ [0,1,5,8,9] U) ⟨i+1,om_,U,U,U⟩
  have h0:x*y=0:=by
   simp only[VG]at j;rcases j with h|h
   .have k:qtx x=qtx (lE a b 0):=by simpa using h
    rw[gx k,show lE a b 0=0 from rfl];grind
   have k:qtx y=qtx (lE a b 0):=by simpa using h
   rw[gx k,show lE a b 0=0 from rfl];grind
  have h1:lE a b i=lE a b (i+1):=by rw[v,h0];grind
  rw[h1];refine V3 λR c=>V8 _ U U6<|C6 1 [0,1,5,8,9] c U<|We (m':=a.length-(i+1)) om_ r (hn_ [0,1,5,8,9] U) ⟨i+1,om_,U,U,U⟩
 have s:i=a.length:=by
  have:=Si g;omega
 exact U0 2 [4] U<|V6 U2<|⟨by rw[s],U⟩
theorem fH {n:Int}{l:List Str}:ek n l=0 ↔ (l.length:Int)=n/\l.all aS=true:=by
 unfold ek;by_cases h:(l.length:Int)=n
 .rw[aK h];rcases oa (l.all aS) with⟨h1,h2⟩|⟨h1,h2⟩
  .rw[h1];exact⟨λ_=>⟨h,h2⟩,λ_=>rfl⟩
  rw[h1,h2];exact⟨λh=>(by cases h),λh=>(by cases h.2)⟩
 rw[aF h];exact⟨λh=>(by cases h),λh2=>absurd h2.1 h⟩
theorem G3 {n:Int}{r:List Str × Str}:G4 n r=0 ↔ ek n r.1=0/\aS r.2=true:=by
 unfold G4;by_cases h:ek n r.1=0
 .rw[aF (λa=>a h)];rcases oa (aS r.2) with⟨h1,h2⟩|⟨h1,h2⟩
  .rw[h1];exact⟨λ_=>⟨h,h2⟩,λ_=>rfl⟩
  rw[h1,h2];exact⟨λh=>(by cases h),λh=>(by cases h.2)⟩
 rw[aK h];exact⟨λh2=>absurd h2 h,λh2=>absurd h2.1 h⟩
def zA (rs:List (List Rat × Rat))(ps:List Rat)(n:Nat):Nat->List Int
|0=>[]
|i+1=>if (rs.getD i ([],0)).2<lE (rs.getD i ([],0)).1 ps n then zA rs ps n i++[(i:Int)] else zA rs ps n i
theorem BX (a:List (List Rat × Rat))(b:List Rat)(n:Nat):∀i,(zA a b n i).length<=i
|0=>Sg _
|i+1=>by
  have:=BX a b n i;unfold zA;split
  .rw[So,Sk];omega
  omega
theorem zD (C:Mem)(k:Tabs C)(n:Nat)(N O Q:Value)(a:List (List Rat × Rat))(e:List Str)(o b:List Rat)(S:RowsT C N (a.map dp))(T:Sl C 1 O ((o.map qtx).map kK))(ai:JB (a.map dp))(f:RowsQ n a)(hz:DZ n (a.map dp) (o.map qtx)=0)
  (hn:n<=60) (qc:∀x∈o,QB 23 x) (V:Sl C 1 Q (e.map kK)) (aj:∀s∈e,s.length<=999998) (al:e.all aS=true->e=b.map qtx/\∀x∈b,QB 23 x) :
  Pur cx.P 154 [.agg ⟨[i_ n,N,O]⟩,Q] C λu _D=>∃A m c,u=.tuple #[.slice A m c,i_ (ek n e)]/\(ek n e=0->m=(zA a b n a.length).length):=by
 have W:=S;have X:=T;have v:=V;obtain⟨vs,Y,am,y⟩:=S;obtain⟨A0,c0,rfl,an,ay,_⟩:=id y;obtain⟨A1,c1,rfl,az,aA,_⟩:=id T;obtain⟨A2,c2,rfl,aB,aC,_⟩:=id V;have aD:=mx_
 have aE:=f.m;simp only[jQ Y,au]at y an W X v Y⊢;refine V7 func154 45 U3 λw0=>V3 λR d=>Wi U6 λb2=>C6 2 [1,2] d U<|G.freeze 0 U λ_ _ z=>V3 λR d=>V1 (bkT z 3) U8<|Wc (mg _ k.m_ (n:Nat) _ _ (a.map dp) (o.map qtx) W.m_ X.m_ ai (λs hs=>by
  obtain⟨q,f,rfl⟩:=Sn.1 hs;exact Su (aV (qc q f) dc_) dc_)) U7 fl_ ?_
 refine C6 1 [1,2,6] d U<|U0 2 [1,2,6,14] U<|G.cd (λZ=>?_) λZ=>?_
 .simp[hz]at Z
 refine U1 2 U λR d=>V1 (bkT z 1) U8<|Wb (oY _ k.m_ _ (n:Nat) e v.m_ aj) U7<|C6 1 [1,2,7] d U<|U0 2 [1,2,7,21] U<|G.cd (λB=>?_) λB=>?_
 .have p:ek (n:Nat) e≠0:=by simpa using B
  refine U0 3 [4,5] U<|Wd (G.dropAll (Wu U3 ?_));exact⟨U,none,0,0,U,λh=>absurd h p⟩
 have p:ek (n:Nat) e=0:=by simpa using B
 obtain⟨ao,ap⟩:=fH.1 p;obtain⟨aa,qp⟩:=al ap;have aG:b.length=n:=by
  rw[aa,au]at ao;omega
 refine U0 1 [1,2,8] U<|U1 1 U λR d=>V1 (bkT z 1) U8<|C6 2 [1,8,24,25,26] d U<|G.nilArr 3 1<|G.loop (λfr C' L' μ=>∃(i:Nat)(E:Value),(i<=a.length)/\fr=[(1,[],.slice A2 e.length c2),(8,[],E),(24,[],.slice A0 a.length c0),(25,[],i_ a.length),(26,[],i_ i)]/\L'=[.arr E 3 1 (zA a b n i).length ((zA a b n i).map nU).flatten]/\μ=a.length-i) (hn_ [1,8,24,25,26] U) ⟨0,.slice none 0 0,Sm _,U,U,U⟩ (λfr aH aI m _ hI=>?_);obtain⟨i,E,hi,rfl,rfl,rfl⟩:=hI;refine U0 1 [1,8,24,25,26,27] U<|G.cd (λF=>?_) λF=>?_
 .have H:i<a.length:=by
   have:=RD F;omega
  obtain⟨r,I⟩:∃r,a[i]?=some r:=⟨a[i],ah H⟩;have ab:(a.map dp)[i]?=some (dp r):=by rw[Sh,I];rfl
  obtain⟨w,t⟩:∃w,vs[i]?=some w:=⟨vs[i]'om_,ah _⟩;have ac:=aJ I;have ad:=am i w (dp r) t ab;obtain⟨aL,aM,rfl,_,_,_⟩:=id ad;have J:=f.l r ac;have K:=f.q r ac;have ae:a.getD i ([],0)=r:=by rw[ak,I];rfl
  have aq:=AZ K.1 qp n;have aN:=BX a b n i;refine U1 1 U λR d=>Wf y.m_ U10 om_ (pE t ab) fl_ λaO ar=>V1 ar U8<|Wg U5 λaP=>V2 U6<|Wa (j:=0) U12<|V5 [1,8,9,10,24,25,26] d U<|G.freeze 0 U λ_ _ af=>Wn [0,1,2,3,4,5,6,7] [(3,1),(6,1)] U kr_ λR hB d=>V2 U6<|V1 (bkT af 1) U8<|V2 U6<|Wo (λ_=>(Rb _ k.m_ _ _ r.1 b (by rw[fx];exact ad.mono mup) (by rw[fx,<- aa];exact v.mono mup) om_ om_ K.1 qp)) U9<|V2 U6<|V1 (bkT af 1) U8<|Wo (λ_=>(fP _ k.m_ (lE r.1 b r.1.length) r.2 (48*(n+1)) om_ om_ (by rw[J];exact aq) (K.2.le om_))) U9<|C6 1 [1,8,9,24,25,26,38] d U<|G.cd (λg=>?_) λg=>?_
  .have L:r.2<lE r.1 b n:=by
    rw[J]at g;have h:=RD g;unfold nZ at h;split at h
    .omega
    split at h
    .next h2=>exact h2
    omega
   have M:zA a b n (i+1)=zA a b n i++[(i:Int)]:=by
    show(if _ then _ else _)=_;rw[ae,aK L]
   refine U1 2 U λR d=>Wq [nU i] U12 λaQ _ _ av=>D.append (j:=0) U11 av U ax (by simp only[Sk];omega) fl_ λaw=>C6 1 [1,8,24,25,26] d U<|V3 λR d=>V8 _ U U6<|C6 1 [1,8,24,25,26] d U<|Wk (L':=[.arr aw 3 1 (zA a b n (i+1)).length ((zA a b n (i+1)).map nU).flatten]) (by rw[M];simp)<|We (m':=a.length-(i+1)) om_ mup (hn_ [1,8,24,25,26] U) ⟨i+1,_,om_,U,U,U⟩
  have L:¬ r.2<lE r.1 b n:=by
   rw[J]at g;have h:=Si g;intro h2;have h3:nZ (lE r.1 b n) r.2=1:=by
    unfold nZ;rw[aF (by grind),aK h2]
   rw[h3]at h;exact h dc_
  have M:zA a b n (i+1)=zA a b n i:=by
   show(if _ then _ else _)=_;rw[ae,aF L]
  rw[<- M];refine V3 λR d=>V8 _ U U6<|C6 1 [1,8,24,25,26] d U<|We (m':=a.length-(i+1)) om_ mup (hn_ [1,8,24,25,26] U) ⟨i+1,_,om_,U,U,U⟩
 have H:i=a.length:=by
  have:=Si F;omega
 refine U0 3 [4,5] U<|X3 ag λAw cw t _ _ _=>Wd (G.dropAll (Wu U3 ?_));exact⟨U,Aw,_,cw,by rw[t,p],λ_=>by rw[H]⟩
def RE (n:Nat)(rs:List (List Rat × Rat))(ds cs:List Rat):Prop:=∀j,j<n->wA rs ds j rs.length+cs.getD j 0=0
open Classical in
noncomputable def zB (n:Nat)(rs:List (List Rat × Rat))(d:List Str)(ds cs:List Rat):Int :=
 if xg rs.length d ds≠0 then xg rs.length d ds else if ¬ RE n rs ds cs then 23 else if aS (qtx (-By rs ds rs.length)) then 0 else 4
noncomputable def JR (n:Nat)(rs:List (List Rat × Rat))(d:List Str)(ds cs:List Rat):Str:=if zB n rs d ds cs=0 then qtx (-By rs ds rs.length) else []
theorem Ou {k:Nat}{q:Rat}(h:QB k q):QB k (-q):=⟨by rw[VB];have:=h.1;omega,h.2⟩
theorem D7 (C:Mem)(l:Tabs C)(n:Nat)(E F H:Value)(a:List (List Rat × Rat))(d:List Str)(c b:List Rat)(I:RowsT C E (a.map dp))(J:Sl C 1 F ((c.map qtx).map kK))(Y:JB (a.map dp))(i:RowsQ n a)(Z:DZ n (a.map dp) (c.map qtx)=0)
  (aq:c.length=n) (hn:n<=60) (K:∀x∈c,QB 23 x) (L:Sl C 1 H (d.map kK)) (aa:∀s∈d,s.length<=999998) (M:d.all aS=true->d=b.map qtx/\∀x∈b,QB 23 x) :
  Gives cx.P 45 [.agg ⟨[i_ n,E,F]⟩,.agg ⟨[H]⟩] C (.tuple #[ae (JR n a d b c),i_ (zB n a d b c)]):=by
 have r:=I;have t:=J;have N:=L;obtain⟨vs,O,ar,Q⟩:=I;obtain⟨A0,c0,rfl,ab,av,_⟩:=id Q;obtain⟨A1,c1,rfl,aw,ax,_⟩:=id J;obtain⟨A2,c2,rfl,ay,az,_⟩:=id L;have aA:=mx_
 have aB:=i.m;simp only[jQ O,au]at Q ab r t N O⊢;refine V7 func45 48 U3 λw0=>V3 λR e=>Wi U6 λb2=>Wi U6 λb3=>C6 2 [2,3] e U<|G.freeze 1 U λ_ _ u=>G.freeze 0 U λ_ _ ac=>V3 λR e=>V1 (bkT u 3) U8<|Wc (mg _ l.m_ (n:Nat) _ _ (a.map dp) (c.map qtx) r.m_ t.m_ Y (λs hs=>by
  obtain⟨q,i,rfl⟩:=Sn.1 hs;exact Su (aV (K q i) dc_) dc_)) U7 fl_ ?_
 refine C6 1 [2,3,6] e U<|U0 2 [2,3,6,15] U<|G.cd (λS=>?_) λS=>?_
 .simp[Z]at S
 refine V3 λR e=>V1 (bkT u 3) U8<|V1 (bkT ac 1) U8<|Ws (KR _ l.m_ n _ _ _ a d b r.m_ i om_ N.m_ aa M) U7 fl_ (λaC _ _ ad=>?_);obtain⟨fv,bt,rfl,af⟩:=ad;refine C6 7 [2,7,8,9] e U<|U0 2 [2,7,8,9,25] U<|G.cd (λv=>?_) λv=>?_
 .have hs:xg a.length d b≠0:=by simpa using v
  have g:zB n a d b c=xg a.length d b:=aK hs;refine U0 3 [4,5] U<|Wd (G.dropAll (Wu U3 ?_));exact⟨by unfold JR;rw[g,aF hs];rfl,U⟩
 have k:xg a.length d b=0:=by simpa using v
 have w:¬ xg a.length d b≠0:=λh=>h k;obtain⟨z,ag⟩:=af k;subst ag;have ai:d.all aS=true:=by
  unfold xg at k;split at k
  .rename_i h1;exact absurd k h1
  rename_i h1;have h2:ek (a.length:Nat) d=0:=by simpa using h1
  exact(fH.1 h2).2
 have qd:=(M ai).2;have T:=Bx i qd a.length;obtain⟨A3,c3,rfl,aj,_,_⟩:=id z;simp only[au,eL]at z aj;refine U0 3 [2,8,27,28,29] U ?_;rw[au,eL];refine G.loop (λfr C' L' μ=>∃(j:Nat),(j<=n/\∀f,f<j->wA a b f a.length+c.getD f 0=0)/\fr=[(2,[],p_ b2),(8,[],ae (qtx (By a b a.length))),(27,[],.slice A3 n c3),(28,[],i_ n),(29,[],i_ j)]/\L'=[]/\μ=n-j) (hn_ [2,8,27,28,29] U) ⟨0,⟨Sm _,λf h=>absurd h (Nat.not_lt_zero _)⟩,U,U,U⟩ (λfr aD aE m al hI=>?_);obtain⟨j,⟨hj,V⟩,rfl,rfl,rfl⟩:=hI;refine U0 1 [2,8,27,28,29,30] U<|G.cd (λA=>?_) λA=>?_
 .have o:j<n:=by
   have:=RD A;omega
  have hx:(wz n a b a.length 0)[j]?=some (wA a b j a.length):=by rw[li o,aF (Nat.not_lt_zero _)]
  obtain⟨y,hy⟩:∃y,c[j]?=some y:=⟨c[j]'om_,ah om_⟩;have W:c.getD j 0=y:=by rw[ak,hy];rfl
  have qy:QB 23 y:=K y (aJ hy);have qf:=AW i qd j a.length;refine U1 1 U λR e=>Wf z.m_ U10 om_ (dJ hx) fl_ λaG am=>V1 am U8<|C6 2 [2,8,10,11,27,28,29] e U<|U1 2 U λR e=>V1 (bkT u 1) U8<|V2 U6<|Wf (Sl.mono (by rw[fx];exact t) mup) U10 om_ (dJ hy) fl_ λaH an=>V1 an U8<|Wc (fQ _ l.m_ (wA a b j a.length) y (48*(a.length+1)) om_ om_ qf (qy.le om_)) U7 fl_<|C6 1 [2,8,27,28,29,41] e U<|G.cd (λp=>?_) λp=>?_
  .have ao:¬ RE n a b c:=λhb=>by
    have h0:=hb j o;rw[W]at h0;rw[h0,qtx0]at p;simp at p
   have g:zB n a d b c=23:=by unfold zB;rw[aF w,aK ao]
   refine U0 2 [4,5] U<|Wd (G.dropAll (Wu U3 ?_));exact⟨by unfold JR;rw[g];rfl,U⟩
  have h0:qtx (wA a b j a.length+y)=[48]:=by simpa using p
  have h1:=gx (h0.trans qtx0.symm);have ap:∀f,f<j+1->wA a b f a.length+c.getD f 0=0:=λf h2=>by
   rcases Nat.lt_or_eq_of_le (Nat.le_of_lt_succ h2) with h3|h3
   .exact V f h3
   rw[h3,W];exact h1
  refine V3 λR e=>V8 _ U U6<|C6 1 [2,8,27,28,29] e U<|We (m':=n-(j+1)) om_ al (hn_ [2,8,27,28,29] U) ⟨j+1,⟨by omega,ap⟩,U,U,U⟩
 have o:j=n:=by
  have:=Si A;omega
 subst o;have X:RE j a b c:=V;refine U1 1 U λR e=>Wc (fq _ _ (Su (aV T om_) om_)) U7 fl_<|C6 1 [8] e U<|U1 1 U λR e=>Wc (me _ l.m_ _ (Su (aV (Ou T) om_) om_)) U7 fl_<|V5 [8,46] e U<|G.cd (λB=>?_) λB=>?_
 .have D:aS (qtx (-By a b a.length))=false:=by simpa using B
  have g:zB j a d b c=4:=by unfold zB;rw[aF w,aF (λh=>h X),D];rfl
  refine U0 2 [4,5] U<|Wd (G.dropAll (Wu U3 ?_));exact⟨by unfold JR;rw[g];rfl,U⟩
 have D:aS (qtx (-By a b a.length))=true:=by simpa using B
 have g:zB j a d b c=0:=by unfold zB;rw[aF w,aF (λh=>h X),D];rfl
 refine U0 3 [4,5] U<|Wd (G.dropAll (Wu U3 ?_));exact⟨by unfold JR;rw[g,aK rfl],U⟩
theorem vf {l:List Nat}{x:Nat}(h:l[i]?=some x):(l.map aW)[i]?=some (aW x):=by rw[Sh,h];rfl
theorem yt {l:List Nat}{q:Nat->Prop}(h:Lp.LeastR l q n o):o=-1∨∃i:Nat,o=i/\i<n:=by
 cases h with
|none _=>exact .inl rfl
|some i a _ _=>exact .inr ⟨i,rfl,a⟩
theorem pg (C:Mem)(v:Value)(l:List Nat)(g:Nat)(f:List Value)(q:Nat->Bool)(d:Sl C 1 v (l.map aW))(_O:Jog.Enters cx.P g=true)
  (E:∀i,i<l.length->∀D:Mem,C.le D->Gives cx.P g (i_ i::f) D (.bool (q i))) :
  Pur cx.P 206 [v,.func (.func g) #[] ⟨f⟩] C λu _=>∃o:Int,u=i_ o/\Lp.LeastR l (λi=>q i=true) l.length o:=by
 obtain⟨s,c0,rfl,F,Q,_⟩:=id d;have S:=mx_
 simp only[au]at d F⊢;refine V7 func206 33 U3 λw0=>U0 1 [0,1] U<|U0 1 [0,1,5] U<|U0 3 [0,1,5,8,9,10] U<|G.loop (λfr T H I=>∃(i:Nat)(o:Int),(i<=l.length/\Lp.LeastR l (λi=>q i=true) i o)/\fr=[(0,[],.slice s l.length c0),(1,[],.func (.func g) #[] ⟨f⟩),(5,[],i_ o),(8,[],.slice s l.length c0),(9,[],i_ l.length),(10,[],i_ i)]/\H=[]/\I=l.length-i) (hn_ [0,1,5,8,9,10] U) ⟨0, -1,⟨Sm _,.none λj J=>absurd J (Nat.not_lt_zero _)⟩,U,U,U⟩ (λfr V W m t K=>?_);obtain⟨i,o,⟨X,a⟩,rfl,rfl,rfl⟩:=K;refine U0 1 [0,1,5,8,9,10,11] U<|G.cd (λk=>?_) λk=>?_
 .have e:i<l.length:=by
   have:=RD k;omega
  obtain⟨x,w⟩:∃x,l[i]?=some x:=⟨l[i],ah e⟩;have y:l.getD i 0=x:=by rw[ak,w];rfl
  have n:=yt a;have L:¬ o<0->(l.map aW)[o.toNat]?=some (aW (l.getD o.toNat 0)):=λh=>by
   rcases n with h1|⟨z,h1,h2⟩
   .omega
   rw[h1,Ue];exact vf (by rw[ak,ah om_];rfl)
  refine U1 1 U λR b=>Wf d.m_ U10 om_ (vf w) fl_ λY M=>V1 M U8<|C6 2 [0,1,5,6,7,8,9,10] b U<|U1 2 U λR b=>Wb (E i e _ mup) U7<|V4 7 U<|D.index U10 (λA=>⟨d.mono mup,(by have h:decide (o<0)=false:=A.1;have:=Si h;omega),L (by have h:decide (o<0)=false:=A.1;exact Si h)⟩) fl_ U λZ N=>Wv U6 N U3<|V2 U6<|Wy U8<|Wr U8<|V5 [0,1,5,6,8,9,10,29] b U<|G.cd (λp=>?_) λp=>?_
  .have c:q i=true/\(o<0∨x<l.getD o.toNat 0):=by
    simpa using p
   have r:Lp.LeastR l (λi=>q i=true) (i+1) i:=by
    rcases n with h1|⟨z,h1,h2⟩
    .rw[h1]at a;exact a.first c.1
    rw[h1]at a c;refine a.less c.1 ?_;rw[y];rcases c.2 with h3|h3
    .omega
    exact h3
   refine U0 2 [0,1,5,8,9,10] U<|V3 λR b=>V8 _ U U6<|C6 1 [0,1,5,8,9,10] b U<|We (m':=l.length-(i+1)) om_ t (hn_ [0,1,5,8,9,10] U) ⟨i+1,_,⟨by omega,r⟩,U,U,U⟩
  have c:q i=true->¬ (o<0∨x<l.getD o.toNat 0):=by
   simpa using p
  have r:Lp.LeastR l (λi=>q i=true) (i+1) o:=by
   by_cases B:q i=true
   .have h3:=c B;rcases n with h1|⟨z,h1,h2⟩
    .exact absurd (.inl om_) h3
    rw[h1]at a h3⊢;refine a.keep ?_;rw[y];exact λh=>h3 (.inr h)
   exact a.no B
  refine V3 λR b=>V8 _ U U6<|C6 1 [0,1,5,8,9,10] b U<|We (m':=l.length-(i+1)) om_ t (hn_ [0,1,5,8,9,10] U) ⟨i+1,_,⟨by omega,r⟩,U,U,U⟩
 have e:i=l.length:=by
  have:=Si k;omega
 exact U0 2 [4] U<|V6 U2<|⟨U,o,U,by rw[<- e];exact a⟩
structure TabV (D:Mem)(b n:Nat)(t:Lp.Tab)(wB wL wO wW:Value)(wF:List Value):Prop where
 o:D b=some (.cells ⟨[.int .i64 n,wB,wL,wO,ae (qtx t.worth.c),wW]⟩ 231 (0,0))
 B:Sl D 1 wB (t.basic.map aW)
 O:Sl D 1 wO (t.others.map aW)
 W:Sl D 1 wW (t.worth.f.map aM)
 L:Sl D 2 wL (List.zipWith (λ(l:Lp.Line) w=>[ae (qtx l.c),w]) t.lines wF)
 fl:wF.length=t.lines.length
 F:∀(i:Nat)(l:Lp.Line)(w:Value),t.lines[i]?=some l->wF[i]?=some w->Sl D 1 w (l.f.map aM)
theorem TabV.mono {D E:Mem}{b n:Nat}{t:Lp.Tab}{c d e f:Value}{g:List Value}(h:TabV D b n t c d e f g)(a:D.le E):TabV E b n t c d e f g :=
 ⟨a _ _ h.o,h.B.mono a,h.O.mono a,h.W.mono a,h.L.mono a,h.fl,λi l w h1 h2=>(h.F i l w h1 h2).mono a⟩
theorem TabV.m_ {D E:Mem}{a:List Value}(h:TabV D b n t wB wL wO wW a)(c:D.le E:=by exact mup):TabV E b n t wB wL wO wW a:=TabV.mono h c
theorem fA (C:Mem)(b n v:Nat)(t:Lp.Tab)(a c d e:Value)(f:List Value)(h:TabV C b n t a c d e f) :
  Gives cx.P 203 [p_ b,i_ v] C (.bool (decide (n<=v))):=by
 refine V7 func203 11 U3 λw0=>U0 1 [0,1] U<|U1 4 U λR g=>V1 (PtrTo.blockT (h.m_.o) _ 1) U8<|C6 2 [4] g U<|V6 U2<|⟨?_,U⟩;congr 1;rw[S8];omega
theorem fp {l:List Nat}(h:i<l.length):(l.map aW)[i]?=some (aW (l.getD i 0)):=vf (by rw[ak,ah h];rfl)
theorem dR {l:List Rat}(h:i<l.length):(l.map aM)[i]?=some (aM (l.getD i 0)):=dJ (by rw[ak,ah h];rfl)
theorem km {ls:List Lp.Line}{ws:List Value}(h:i<ls.length)(a:ws.length=ls.length):(List.zipWith (λ(l:Lp.Line) w=>[ae (qtx l.c),w]) ls ws)[i]?=some [ae (qtx (ls.getD i ⟨0,[]⟩).c),ws.getD i (.slice none 0 0)]:=by
 rw[List.getElem?_zipWith,ah h,ah (show i<ws.length by omega),ak,ak,ah h,ah (show i<ws.length by omega)];rfl
theorem LJ (C:Mem)(a b n i N:Nat)(t:Lp.Tab)(j k e f:Value)(g:List Value)(h:TabV C b n t j k e f g)(l:t.Ok N)(d:C a=some (.cells ⟨[p_ b]⟩ 221 (0,0)))(m:i<t.basic.length)(p:QB 50 (t.line i).c) :
  Gives cx.P 207 [i_ i,p_ a] C (.bool (decide (n<=t.bas i) && decide ((t.line i).c<0))):=by
 obtain⟨v,w,rfl,x,y,_⟩:=id h.B;obtain⟨A2,c2,rfl,z,A,_⟩:=id h.L;have E:=mx_
 have F:=l.ll;exact V7 func207 25 U3 λw0=>U0 1 [0,1] U<|Wn [0,1,2,3,4,5,6,7,8,9,10,11,12,13,14,15,16,17,18,19,20,21] [(8,1)] U kr_ λR G q=>V1 (bkT d 1) U8<|V1 (bkT d 1) U8<|V4 2 U<|V1 (PtrTo.blockT (h.m_.o) _ 1) U8<|V2 U6<|Wf h.B.m_ U10 om_ (fp m) fl_ λH r=>V1 r U8<|WC (λ_=>(fA _ b n (t.bas i) t _ _ e f g h.m_)) U9<|V2 U6<|Wv U6 (λ_=>PtrTo.blockT (Mem.get d mup) _ 1) U3<|V4 2 U<|Wv U6 (λ_=>PtrTo.blockT (h.m_.o) _ 1) U3<|V2 U6<|D.index U10 (λI=>⟨h.L.mono mup,by omega,km om_ h.fl⟩) fl_ U λJ s=>XE U U U U U U U U U U s fl_ U λK u=>Wv U6 u U3<|Wo (λ_=>(fD _ (t.line i).c (Su (aV p dc_) dc_))) U9<|V2 U6<|Wr U8<|C6 1 [3] q U<|V6 U2<|⟨by rw[oW],U⟩
theorem uU (q:Rat):decide (0<er q.num)=decide (0<q):=by
 have h:0<q.num ↔ 0<q:=by rw[Rat.lt_iff];simp
 rw[S8];unfold er;by_cases h1:q.num<0
 .rw[aK h1];exact⟨λh2=>absurd h2 dc_,λh2=>absurd (h.2 h2) om_⟩
 rw[aF h1];by_cases h2:q.num=0
 .rw[aK h2];exact⟨λh3=>absurd h3 dc_,λh3=>absurd (h.2 h3) om_⟩
 rw[aF h2];exact⟨λ_=>h.1 om_,λ_=>by decide⟩
theorem mC {a:List Value}(h:TabV C b n t wB wL wO wW a)(c:t.Ok N)(d:i<t.basic.length):Sl C 1 (a.getD i (.slice none 0 0)) ((t.line i).f.map aM)/\(t.line i).f.length=t.others.length:=by
 have e:=c.ll;have g:=h.fl;refine⟨?_,c.fl _ (Lp.line_mem c d)⟩;refine h.F i _ _ (show t.lines[i]?=some (t.line i) from ?_) (show a[i]?=some _ from ?_)
 .unfold Lp.Tab.line;rw[ak,ah om_];rfl
 rw[ak,ah om_];rfl
theorem LI (C:Mem)(a j b n i r N:Nat)(t:Lp.Tab)(p q s k:Value)(c:List Value)(h:TabV C b n t p q s k c)(d:t.Ok N)(e:C a=some (.cells ⟨[p_ b]⟩ 221 (0,0)))(u:C j=some (.cells ⟨[i_ r]⟩ 3 (0,0)))
  (l:r<t.basic.length) (v:i<t.others.length) (w:QB 50 ((t.line r).g i)) :
  Gives cx.P 208 [i_ i,p_ a,p_ j] C (.bool (decide (n<=t.oth i) && decide (0<(t.line r).g i))):=by
 obtain⟨G,H,rfl,I,J,_⟩:=id h.O;obtain⟨A2,c2,rfl,K,M,_⟩:=id h.L;obtain⟨f,Q⟩:=mC h d l;obtain⟨S,T,x,V,W,_⟩:=id f;have m:=km (ls:=t.lines) (ws:=c) (i:=r) (by rw[d.ll];exact l) h.fl;rw[x]at m f;have X:=mx_
 have Y:=d.ll;exact V7 func208 29 U3 λw0=>U0 1 [0,1,2] U<|Wn [0,1,2,3,4,5,6,7,8,9,10,11,12,13,14,15,16,17,18,19,20,21,22,23,24] [(8,1)] U kr_ λR Z y=>V1 (bkT e 1) U8<|V1 (bkT e 1) U8<|V4 2 U<|V1 (PtrTo.blockT (h.m_.o) _ 1) U8<|V2 U6<|Wf h.O.m_ U10 om_ (fp v) fl_ λaa z=>V1 z U8<|WC (λ_=>(fA _ b n (t.oth i) t _ _ _ k c h.m_)) U9<|V2 U6<|Wv U6 (λ_=>PtrTo.blockT (Mem.get e mup) _ 1) U3<|V4 2 U<|Wv U6 (λ_=>PtrTo.blockT (h.m_.o) _ 1) U3<|Wv U6 (λ_=>PtrTo.blockT (Mem.get u mup) _ 1) U3<|D.index U10 (λA=>⟨h.L.mono mup,by omega,m⟩) fl_ U λab B=>XE U U U U U U U U U U B fl_ U λac E=>Wv U6 E U3<|V2 U6<|D.index U10 (λA=>⟨f.mono mup,by omega,dR om_⟩) fl_ U λad F=>Wv U6 F U3<|Wo (λ_=>(fD _ ((t.line r).g i) (Su (aV w dc_) dc_))) U9<|V2 U6<|Wr U8<|C6 1 [4] y U<|V6 U2<|⟨by rw[<- uU],U⟩
theorem OW (C:Mem)(a b n i N:Nat)(t:Lp.Tab)(e f j k:Value)(d:List Value)(h:TabV C b n t e f j k d)(l:t.Ok N)(c:C a=some (.cells ⟨[p_ b]⟩ 221 (0,0)))(m:i<t.others.length) :
  Gives cx.P 209 [i_ i,p_ a] C (.bool (!decide (n<=t.oth i) && !decide (t.worth.g i=0))):=by
 obtain⟨s,u,rfl,v,w,_⟩:=id h.O;obtain⟨A2,c2,rfl,x,y,_⟩:=id h.W;have z:=mx_
 have A:=l.wl;refine V7 func209 25 U3 λw0=>U0 1 [0,1] U<|Wn [0,1,2,3,4,5,6,7,8,9,10,11,12,13,14,15,16,17,18,19,20,21] [(8,1)] U kr_ λR B p=>V1 (bkT c 1) U8<|V1 (bkT c 1) U8<|V4 2 U<|V1 (PtrTo.blockT (h.m_.o) _ 1) U8<|V2 U6<|Wf h.O.m_ U10 om_ (fp m) fl_ λE q=>V1 q U8<|WC (λ_=>(fA _ b n (t.oth i) t _ _ _ _ d h.m_)) U9<|V4 2 U<|Wv U6 (λ_=>PtrTo.blockT (Mem.get c mup) _ 1) U3<|V4 3 U<|Wv U6 (λ_=>PtrTo.blockT (h.m_.o) _ 1) U3<|V2 U6<|D.index U10 (λF=>⟨h.W.mono mup,by omega,dR om_⟩) fl_ U λG r=>Wv U6 r U3<|V2 U6<|Wr U8<|C6 1 [3] p U<|V6 U2<|⟨?_,U⟩;show Value.bool _=Value.bool _;congr 1;congr 1;show(!((⟨(qtx (t.worth.g i)).toArray⟩:ByteArray).data.toList == (⟨#[48]⟩:ByteArray).data.toList))=_;rw[eS]
theorem OV (C:Mem)(a b n i N:Nat)(t:Lp.Tab)(e f j k:Value)(d:List Value)(h:TabV C b n t e f j k d)(l:t.Ok N)(c:C a=some (.cells ⟨[p_ b]⟩ 221 (0,0)))(m:i<t.others.length)(p:QB 50 (t.worth.g i)) :
  Gives cx.P 210 [i_ i,p_ a] C (.bool (decide (n<=t.oth i) && decide (t.worth.g i<0))):=by
 obtain⟨u,v,rfl,w,x,_⟩:=id h.O;obtain⟨A2,c2,rfl,y,z,_⟩:=id h.W;have A:=mx_
 have B:=l.wl;exact V7 func210 25 U3 λw0=>U0 1 [0,1] U<|Wn [0,1,2,3,4,5,6,7,8,9,10,11,12,13,14,15,16,17,18,19,20,21] [(8,1)] U kr_ λR E q=>V1 (bkT c 1) U8<|V1 (bkT c 1) U8<|V4 2 U<|V1 (PtrTo.blockT (h.m_.o) _ 1) U8<|V2 U6<|Wf h.O.m_ U10 om_ (fp m) fl_ λF r=>V1 r U8<|WC (λ_=>(fA _ b n (t.oth i) t _ _ _ _ d h.m_)) U9<|V2 U6<|Wv U6 (λ_=>PtrTo.blockT (Mem.get c mup) _ 1) U3<|V4 3 U<|Wv U6 (λ_=>PtrTo.blockT (h.m_.o) _ 1) U3<|V2 U6<|D.index U10 (λG=>⟨h.W.mono mup,by omega,dR om_⟩) fl_ U λH s=>Wv U6 s U3<|Wo (λ_=>(fD _ (t.worth.g i) (Su (aV p dc_) dc_))) U9<|V2 U6<|Wr U8<|C6 1 [3] q U<|V6 U2<|⟨by rw[oW],U⟩
theorem uM (n:Nat):List.replicate n (ae [48])=((List.replicate n (0:Rat)).map aM).flatten:=by
 rw[US,show aM 0=[ae [48]] by unfold aM;rw[qtx0]];induction n with
|zero=>rfl
|succ n a=>rw[Tm,Tm,Tu,<- a];rfl
def ptF (t:Lp.Tab)(n i:Nat):List Rat:=(List.range n).map λv=>if v∈t.basic.take i then t.sol v else 0
theorem nI :(ptF t n i).length=n:=by simp[ptF]
theorem Hm (h:v<n):(ptF t n i)[v]?=some (if v∈t.basic.take i then t.sol v else 0):=by
 unfold ptF;rw[Sh,SU h];rfl
theorem KP (t:Lp.Tab)(n:Nat):ptF t n 0=List.replicate n 0:=by
 refine List.ext_getElem? λv=>?_;by_cases h:v<n
 .rw[Hm h,TC,aK h,List.take_zero,aF Tp]
 rw[Sq (by rw[nI];omega),Sq am]
theorem lT (h:i<t.basic.length):t.basic.take (i+1)=t.basic.take i++[t.bas i]:=by
 rw[SH];congr 1;unfold Lp.Tab.bas;rw[ak,ah h];rfl
theorem Oy (b:t.Ok N)(h:i<t.basic.length)(d:t.bas i<n):(ptF t n i).set (t.bas i) (t.line i).c=ptF t n (i+1):=by
 refine List.ext_getElem? λv=>?_;rw[List.getElem?_set,nI];by_cases a:v<n
 .rw[Hm a,Hm a,lT h];by_cases e:t.bas i=v
  .subst e;rw[aK rfl,aK a,aK al,Lp.sol_bas b h]
  rw[aF e];by_cases hm:v∈t.basic.take i
  .rw[aK hm,aK (by simp[hm])]
  rw[aF hm,aF (by simp[hm];exact λh2=>e h2.symm)]
 rw[aF om_,Sq (by rw[nI];omega),Sq (by rw[nI];omega)]
theorem KQ (h:i<t.basic.length)(a:n<=t.bas i):ptF t n i=ptF t n (i+1):=by
 refine List.map_congr_left λv hm=>?_;have b:=SE.1 hm;rw[lT h];by_cases hm:v∈t.basic.take i
 .rw[aK hm,aK (by simp[hm])]
 rw[aF hm,aF (by simp[hm];omega)]
theorem Oz (a:t.Ok N):ptF t n t.basic.length=(List.range n).map t.sol:=by
 refine List.map_congr_left λv _=>?_;rw[Ss];split
 .rfl
 next h=>exact(Lp.sol_oth a h).symm
theorem CZ (C:Mem)(b n N:Nat)(t:Lp.Tab)(w x p q:Value)(r:List Value)(h:TabV C b n t w x p q r)(f:t.Ok N)(y:n<=1000000) :
  Jog.Fn cx.P 141 [p_ b] C [] λu _ c=>∃g,u=s_ g n n/\c=[.arr u 32 1 n (((List.range n).map t.sol).map aM).flatten]:=by
 obtain⟨z,s,rfl,A,Q,_⟩:=id h.B;obtain⟨A2,c2,rfl,S,T,_⟩:=id h.L;have E:=h.B;have V:t.basic.length<=s:=by rwa [au]at A
 have W:=mx_
 have X:=f.ll;have F:=h.fl;refine V7 func141 38 U3 λw0=>U0 1 [0] U<|Wt [(4,3)] U λR a=>V4 3 U<|V1 (PtrTo.blockT (h.m_.o) _ 1) U8<|D.call (gX _ n y) U (.inr dc_) U6 (Sp _) fl_ (λY _ Z _ H=>?_);obtain⟨g,rfl,rfl⟩:=H;refine C6 1 [0,3] a U<|U1 3 U λR a=>V1 (PtrTo.blockT (h.m_.o) _ 1) U8<|C6 2 [0,3,14,15,16] a U<|Wk (L':=[.arr (s_ g n n) 32 1 n ((ptF t n 0).map aM).flatten]) (by rw[KP,<- uM];rfl)<|G.loop (λfr C' c I=>∃(i:Nat),(i<=t.basic.length)/\fr=[(0,[],p_ b),(3,[],s_ g n n),(14,[],.slice z (t.basic.map aW).length s),(15,[],i_ (t.basic.map aW).length),(16,[],i_ i)]/\c=[.arr (s_ g n n) 32 1 n ((ptF t n i).map aM).flatten]/\I=t.basic.length-i) (hn_ [0,3,14,15,16] U) ⟨0,Sm _,U,U,U⟩ (λfr aa ab m v J=>?_);obtain⟨i,hi,rfl,rfl,rfl⟩:=J;refine U0 1 [0,3,14,15,16,17] U<|G.cd (λk=>?_) λk=>?_
 .have d:i<t.basic.length:=by
   have:=RD k;rw[au]at this;omega
  refine U1 1 U λR a=>Wf E.m_ U10 om_ (show(t.basic.map aW)[i]?=some (aW (t.bas i)) from fp d) fl_ λac K=>V1 K U8<|C6 2 [0,3,4,5,14,15,16] a U<|U1 2 U λR a=>Wb (fA _ b n (t.bas i) t _ _ p q r h.m_) U7<|C6 1 [0,3,4,5,14,15,16,24] a U<|G.cd (λl=>?_) λl=>?_
  .have e:t.bas i<n:=by
    have ad:¬ n<=t.bas i:=by simpa using l
    omega
   refine U1 5 U λR a=>V1 (PtrTo.blockT (h.m_.o) _ 1) U8<|V2 U6<|Wf h.L.m_ U10 om_ (km om_ F) fl_ λae M=>W5 M U10 fl_ λaf O=>V1 O U8<|Ww (t.bas i*1) U10 w_ U2<|WA (j:=0) U11 (by show t.bas i*1+1<=_;rw[bM bE,nI];omega)<|V5 [0,3,14,15,16] a U<|V3 λR a=>V8 _ U U6<|C6 1 [0,3,14,15,16] a U<|Wk (L':=[.arr (s_ g n n) 32 1 n ((ptF t n (i+1)).map aM).flatten]) (by rw[<- Oy f d e,<- bI bE _ (by rw[nI];exact e)];rfl)<|We (m':=t.basic.length-(i+1)) om_ v (hn_ [0,3,14,15,16] U) ⟨i+1,om_,U,U,U⟩
  have e:n<=t.bas i:=by simpa using l
  rw[KQ d e];refine V3 λR a=>V8 _ U U6<|C6 1 [0,3,14,15,16] a U<|We (m':=t.basic.length-(i+1)) om_ v (hn_ [0,3,14,15,16] U) ⟨i+1,om_,U,U,U⟩
 have d:i=t.basic.length:=by
  have:=Si k;rw[au]at this;omega
 refine U0 2 [2] U<|Wd (WD U U ?_);exact⟨g,U,by rw[d,Oz f]⟩
def duF (p:Lp.Sys)(t:Lp.Tab)(l:Lp.Line)(i:Nat):List Rat:=(List.range p.m).map λr=>if p.n+r∈t.others.take i then Lp.dualV p t l r else 0
theorem nV :(duF p t l i).length=p.m:=by simp[duF]
theorem IR {r:Nat}(h:r<p.m):(duF p t l i)[r]?=some (if p.n+r∈t.others.take i then Lp.dualV p t l r else 0):=by
 unfold duF;rw[Sh,SU h];rfl
theorem LQ (p:Lp.Sys)(t:Lp.Tab)(l:Lp.Line):duF p t l 0=List.replicate p.m 0:=by
 refine List.ext_getElem? λv=>?_;by_cases h:v<p.m
 .rw[IR h,TC,aK h,List.take_zero,aF Tp]
 rw[Sq (by rw[nV];omega),Sq am]
theorem Ck (h:i<t.others.length):t.others.take (i+1)=t.others.take i++[t.oth i]:=by
 rw[SH];congr 1;unfold Lp.Tab.oth;rw[ak,ah h];rfl
theorem Pi (b:Lp.TabOf p t)(h:i<t.others.length)(c:p.n<=t.oth i):(duF p t l i).set (t.oth i-p.n) (l.g i)=duF p t l (i+1):=by
 refine List.ext_getElem? λv=>?_;rw[List.getElem?_set,nV];by_cases a:v<p.m
 .rw[IR a,IR a,Ck h];by_cases e:t.oth i-p.n=v
  .subst e;rw[aK rfl,aK a,aK (by rw[show p.n+(t.oth i-p.n)=t.oth i by omega];simp),Lp.dualV_at b h c]
  rw[aF e];by_cases hm:p.n+v∈t.others.take i
  .rw[aK hm,aK (by simp[hm])]
  rw[aF hm,aF (by simp[hm];omega)]
 rw[Sq (by rw[nV];omega),Sq (by rw[nV];omega)];have:=b.ok.lt _ (Sx.2 (.inr (Lp.oth_mem h)));split
 .exact aF om_
 rfl
theorem LR (h:i<t.others.length)(a:t.oth i<p.n):duF p t l i=duF p t l (i+1):=by
 refine List.map_congr_left λv _=>?_;rw[Ck h];by_cases hm:p.n+v∈t.others.take i
 .rw[aK hm,aK (by simp[hm])]
 rw[aF hm,aF (by simp[hm];omega)]
theorem Pj :duF p t l t.others.length=(List.range p.m).map (Lp.dualV p t l):=by
 refine List.map_congr_left λv _=>?_;rw[Ss];split
 .rfl
 next h=>exact(Lp.dualV_none h).symm
theorem IQ (C:Mem)(p:Lp.Sys)(b:Nat)(t:Lp.Tab)(l:Lp.Line)(E F H s w:Value)(v:List Value)(h:TabV C b p.n t E F H s v)(x:Lp.TabOf p t)(I:p.m<=1000000)(y:Sl C 1 w (l.f.map aM))(Y:l.f.length=t.others.length) :
  Jog.Fn cx.P 143 [p_ b,.agg ⟨[ae (qtx l.c),w]⟩,i_ p.m] C [] λu _ e=>∃g,u=s_ g p.m p.m/\e=[.arr u 32 1 p.m (((List.range p.m).map (Lp.dualV p t l)).map aM).flatten]:=by
 obtain⟨J,z,rfl,K,Z,_⟩:=id h.O;obtain⟨A3,c3,rfl,aa,ab,_⟩:=id y;have L:=h.O;have ac:t.others.length<=z:=by rwa [au]at K
 have ad:=mx_
 refine V7 func143 40 U3 λw0=>V3 λR a=>Wi U6 λM=>C6 1 [0,2,4] a U<|G.freeze 0 U λ_ _ N=>Wt [(1,3)] U λR a=>V2 U6<|D.call (gX _ p.m I) U (.inr dc_) U6 (Sp _) fl_ (λaf _ ag _ Q=>?_);obtain⟨g,rfl,rfl⟩:=Q;refine C6 1 [0,4,7] a U<|U1 3 U λR a=>V1 (PtrTo.blockT (h.m_.o) _ 1) U8<|C6 2 [0,4,7,15,16,17] a U<|Wk (L':=[.arr (s_ g p.m p.m) 32 1 p.m ((duF p t l 0).map aM).flatten]) (by rw[LQ,<- uM];rfl)<|G.loop (λfr C' e S=>∃(i:Nat),(i<=t.others.length)/\fr=[(0,[],p_ b),(4,[],p_ M),(7,[],s_ g p.m p.m),(15,[],.slice J (t.others.map aW).length z),(16,[],i_ (t.others.map aW).length),(17,[],i_ i)]/\e=[.arr (s_ g p.m p.m) 32 1 p.m ((duF p t l i).map aM).flatten]/\S=t.others.length-i) (hn_ [0,4,7,15,16,17] U) ⟨0,Sm _,U,U,U⟩ (λfr ah ai m A T=>?_);obtain⟨i,hi,rfl,rfl,rfl⟩:=T;refine U0 1 [0,4,7,15,16,17,18] U<|G.cd (λk=>?_) λk=>?_
 .have d:i<t.others.length:=by
   have:=RD k;rw[au]at this;omega
  have aj:=x.ok.lt _ (Sx.2 (.inr (Lp.oth_mem d)));refine U1 1 U λR a=>Wf L.m_ U10 om_ (show(t.others.map aW)[i]?=some (aW (t.oth i)) from fp d) fl_ λak V=>V1 V U8<|C6 2 [0,4,7,8,9,15,16,17] a U<|U1 2 U λR a=>Wb (fA _ b p.n (t.oth i) t _ _ _ s v h.m_) U7<|V5 [0,4,7,8,9,15,16,17,24] a U<|G.cd (λq=>?_) λq=>?_
  .have r:p.n<=t.oth i:=by simpa using q
   have B:((t.oth i:Int)-(p.n:Int)).toNat=t.oth i-p.n:=by omega
   have W:=Pi (l:=l) x d r;refine Wn [0,1,2,3,4,5,6,7,8,9,10,11,12,13] [] U kr_ λR hB a=>V4 5 U<|V1 (PtrTo.blockT (h.m_.o) _ 1) U8<|V8 _ U U6<|V2 U6<|V1 (bkT N 1) U8<|V2 U6<|Wf y.m_ U10 om_ (dR om_) fl_ λal X=>V1 X U8<|Ww (((t.oth i:Int)-(p.n:Int)).toNat*1) U10 w_ U2<|WA (j:=0) U11 (by show((t.oth i:Int)-(p.n:Int)).toNat*1+1<=_;rw[B,bM bE,nV];omega)<|V5 [0,4,7,15,16,17] a U<|V3 λR a=>V8 _ U U6<|C6 1 [0,4,7,15,16,17] a U<|Wk (L':=[.arr (s_ g p.m p.m) 32 1 p.m ((duF p t l (i+1)).map aM).flatten]) (by rw[B,<- W,<- bI bE _ (by rw[nV];omega)];rfl)<|We (m':=t.others.length-(i+1)) om_ A (hn_ [0,4,7,15,16,17] U) ⟨i+1,om_,U,U,U⟩
  have r:t.oth i<p.n:=by
   have am:¬ p.n<=t.oth i:=by simpa using q
   omega
  rw[LR d r];refine V3 λR a=>V8 _ U U6<|C6 1 [0,4,7,15,16,17] a U<|We (m':=t.others.length-(i+1)) om_ A (hn_ [0,4,7,15,16,17] U) ⟨i+1,om_,U,U,U⟩
 have d:i=t.others.length:=by
  have:=Si k;rw[au]at this;omega
 refine U0 2 [6] U<|Wd (WD U U ?_);exact⟨g,U,by rw[d,Pj]⟩
def ngF (p:Lp.Sys)(t:Lp.Tab)(l:Lp.Line)(i:Nat):List Rat:=(List.range p.m).map λr=>if r<i then -Lp.dualV p t l r else Lp.dualV p t l r
theorem iy :(ngF p t l i).length=p.m:=by simp[ngF]
theorem Dm {r:Nat}(h:r<p.m):(ngF p t l i)[r]?=some (if r<i then -Lp.dualV p t l r else Lp.dualV p t l r):=by
 unfold ngF;rw[Sh,SU h];rfl
theorem K6 (p:Lp.Sys)(t:Lp.Tab)(l:Lp.Line):(List.range p.m).map (Lp.dualV p t l)=ngF p t l 0:=List.map_congr_left λr _=>by rw[aF (Nat.not_lt_zero _)]
theorem OR (h:i<p.m):(ngF p t l i).set i (-Lp.dualV p t l i)=ngF p t l (i+1):=by
 refine List.ext_getElem? λv=>?_;rw[List.getElem?_set,iy];by_cases a:v<p.m
 .rw[Dm a,Dm a];by_cases e:i=v
  .subst e;rw[aK rfl,aK a,aK om_]
  rw[aF e];by_cases hm:v<i
  .rw[aK hm,aK om_]
  rw[aF hm,aF om_]
 rw[aF om_,Sq (by rw[iy];omega),Sq (by rw[iy];omega)]
theorem OS (h:t.bas i-p.n<p.m):(ngF p t (t.line i) p.m).set (t.bas i-p.n) 1=(List.range p.m).map (Lp.refV p t i):=by
 refine List.ext_getElem? λv=>?_;rw[List.getElem?_set,iy,Sh];by_cases a:v<p.m
 .rw[Dm a,SU a,aK a];unfold Lp.refV;by_cases e:t.bas i-p.n=v
  .subst e;rw[aK rfl,aK h,TU,aK rfl]
  rw[aF e,TU,aF (λb=>e b.symm)]
 rw[aF om_,Sq (by rw[iy];omega),Sq am];rfl
theorem qtx1:qtx 1=[49]:=by decide +kernel
theorem enc1:aM 1=[Value.string ⟨#[49]⟩]:=by
 show [ae (qtx 1)]=_;rw[qtx1];rfl
theorem KE (C:Mem)(p:Lp.Sys)(b i:Nat)(t:Lp.Tab)(A E s v:Value)(e:List Value)(h:TabV C b p.n t A E s v e)(w:Lp.TabOf p t)(F:p.m<=1000000)(f:i<t.basic.length)(X:p.n<=t.bas i)(H:∀r,QB 50 (Lp.dualV p t (t.line i) r)) :
  Pur cx.P 139 [p_ b,i_ i,i_ p.m] C λu D=>∃g,u=.agg ⟨[s_ g p.m p.m]⟩/\Sl D 1 (s_ g p.m p.m) (((List.range p.m).map (Lp.refV p t i)).map aM):=by
 have ok:=w.ok;obtain⟨Y,Z,rfl,aa,ab,_⟩:=id h.B;obtain⟨A2,c2,rfl,ac,ad,_⟩:=id h.L;obtain⟨k,I⟩:=mC h ok f;obtain⟨A3,c3,J,ae,af,_⟩:=id k;have ah:=ok.ll;have x:=km (ls:=t.lines) (ws:=e) (i:=i) om_ h.fl;rw[J]at x k;have ai:=mx_
 have aj:=ok.lt _ (Sx.2 (.inl (Lp.bas_mem f)));have K:t.bas i-p.n<p.m:=by omega
 have z:((t.bas i:Int)-(p.n:Int)).toNat=t.bas i-p.n:=by omega
 refine V7 func139 49 U3 λw0=>V3 λR a=>Wg U5 λc=>V5 [0,1,2,6] a U<|Wt [(9,3)] U λR a=>V4 4 U<|V1 (PtrTo.blockT (h.m_.o) _ 1) U8<|V2 U6<|Wf h.L.m_ U10 om_ x fl_ λak M=>V1 M U8<|V2 U6<|D.call (IQ _ p b t (t.line i) _ _ s v _ e h.m_ w F k.m_ I) U (.inr dc_) U6 (Sp _) fl_ (λam _ an _ N=>?_);obtain⟨g,rfl,rfl⟩:=N;refine C6 1 [0,1,6,7] a U<|U0 3 [0,1,6,7,20,21,22] U<|Wk (L':=[.arr (s_ g p.m p.m) 32 1 p.m ((ngF p t (t.line i) 0).map aM).flatten,.obj c (.cells ⟨[.slice none 0 0]⟩ 68 (0,0))]) (by rw[<- K6];rfl)<|G.loop (λfr C' l O=>∃(j:Nat),(j<=p.m)/\fr=[(0,[],p_ b),(1,[],i_ i),(6,[],p_ c),(7,[],s_ g p.m p.m),(20,[],s_ g p.m p.m),(21,[],i_ p.m),(22,[],i_ j)]/\l=[.arr (s_ g p.m p.m) 32 1 p.m ((ngF p t (t.line i) j).map aM).flatten,.obj c (.cells ⟨[.slice none 0 0]⟩ 68 (0,0))]/\O=p.m-j) (hn_ [0,1,6,7,20,21,22] U) ⟨0,Sm _,U,U,U⟩ (λfr ao ap m Q S=>?_);obtain⟨j,hj,rfl,rfl,rfl⟩:=S;refine U0 1 [0,1,6,7,20,21,22,23] U<|G.cd (λq=>?_) λq=>?_
 .have d:j<p.m:=by
   have:=RD q;omega
  have T:(ngF p t (t.line i) j)[j]?=some (Lp.dualV p t (t.line i) j):=by rw[Dm d,aF (Nat.lt_irrefl _)]
  refine U1 1 U λR a=>Ww (j*1) U10 w_ U2<|WJ ag U6 (λ_=>(by rw[dx bE T];rfl)) U2<|C6 2 [0,1,6,7,8,9,20,21,22] a U<|U1 3 U λR a=>Wc (fq _ _ (Su (aV (H j) dc_) dc_)) U7 fl_<|Ww (j*1) U10 w_ U2<|WA (j:=0) U11 (by show j*1+1<=_;rw[bM bE,iy];omega)<|V5 [0,1,6,7,20,21,22] a U<|V3 λR a=>V8 _ U U6<|C6 1 [0,1,6,7,20,21,22] a U<|Wk (L':=[.arr (s_ g p.m p.m) 32 1 p.m ((ngF p t (t.line i) (j+1)).map aM).flatten,.obj c (.cells ⟨[.slice none 0 0]⟩ 68 (0,0))]) (by rw[<- OR d,<- bI bE _ (by rw[iy];omega)];rfl)<|We (m':=p.m-(j+1)) om_ Q (hn_ [0,1,6,7,20,21,22] U) ⟨j+1,om_,U,U,U⟩
 have d:j=p.m:=by
  have:=Si q;omega
 subst d;refine Wn [0,1,2,3,4,5,6,7,8,9,10,11,12,13,14] [] U kr_ λR hB a=>V4 4 U<|V1 (PtrTo.blockT (h.m_.o) _ 1) U8<|V2 U6<|Wf h.B.m_ U10 om_ (show(t.basic.map aW)[i]?=some (aW (t.bas i)) from fp f) fl_ λaq V=>V1 V U8<|V4 3 U<|V1 (PtrTo.blockT (h.m_.o) _ 1) U8<|V8 _ U U6<|Ww (((t.bas i:Int)-(p.n:Int)).toNat*1) U10 w_ U2<|WA (j:=0) U11 (by show((t.bas i:Int)-(p.n:Int)).toNat*1+1<=_;rw[z,bM bE,iy];omega)<|V5 [6,7] a U<|U1 1 U λR a=>Wm [s_ g p.m p.m] U8<|Wa (j:=1) U12<|V5 [6] a U<|G.freezeArr 1 (((List.range p.m).map (Lp.refV p t i)).map aM) ⟨rfl,(by rw[z,<- OS K,<- bI bE 1 (by rw[iy];omega),enc1])⟩ (by intro r hr;obtain⟨y,_,rfl⟩:=Sn.1 hr;rfl) al λCg hg W=>Wd (WO ag U4 ?_);exact⟨U,g,U,W⟩
def cW (t:Lp.Tab)(wF:Nat->Value):List (Rat × Value):=(List.range t.basic.length).map λi=>((t.line i).c,wF i)
theorem fN :(cW t wF).length=t.basic.length:=by simp[cW]
theorem oV (h:i<t.basic.length):(cW t wF)[i]?=some ((t.line i).c,wF i):=by
 unfold cW;rw[Sh,SU h];rfl
def MN (t:Lp.Tab)(wF:Nat->Value)(i:Nat):Lent:=.arr (wF i) t.others.length 1 32 ((t.line i).f.map aM)
def fo (b n:Nat)(t:Lp.Tab)(wB wL wO wW:Value)(wF:Nat->Value):List Lent :=
 .obj b [.int .i64 n,wB,wL,wO,ae (qtx t.worth.c),wW] 231::.arr wB t.basic.length 1 3 (t.basic.map aW)::.arr wL t.basic.length 2 228 ((cW t wF).map bC)
  :: .arr wO t.others.length 1 3 (t.others.map aW)::.arr wW t.others.length 1 32 (t.worth.f.map aM)::(List.range t.basic.length).map (MN t wF)
theorem iC (a:t.Ok N)(h:i<t.basic.length):(t.line i).f.length=t.others.length:=a.fl _ (Lp.line_mem a h)
theorem bK {l:List Rat}:∀r∈l.map aM,r.length=1:=λr hr=>by
 obtain⟨x,_,rfl⟩:=Sn.1 hr;rfl
theorem vJ {l:List Nat}:∀r∈l.map aW,r.length=1:=λr hr=>by
 obtain⟨x,_,rfl⟩:=Sn.1 hr;rfl
theorem gE (c:t.Ok N):∀x∈fo b n t wB wL wO wW wF,x.wf:=by
 intro x a;unfold fo at a;simp only[Sw,Sn,SE]at a;rcases a with rfl|rfl|rfl|rfl|rfl|⟨i,d,rfl⟩
 .trivial
 .exact⟨by simp,vJ⟩
 .exact⟨by simp[fN],λr hr=>by obtain⟨y,_,rfl⟩:=Sn.1 hr;rfl⟩
 .exact⟨by simp,vJ⟩
 .exact⟨by simp[c.wl],bK⟩
 exact⟨by simp[iC c d],bK⟩
theorem F7 {b:Type}{f:Lp.Line->Value->b}(a:t.Ok N):List.zipWith f t.lines ((List.range t.basic.length).map wF)=(List.range t.basic.length).map λi=>f (t.line i) (wF i):=by
 refine List.ext_getElem? λi=>?_;rw[List.getElem?_zipWith,Sh,Sh];by_cases h:i<t.basic.length
 .have h2:t.lines[i]?=some (t.line i):=by
   unfold Lp.Tab.line;rw[ak,ah (by rw[a.ll];exact h)];rfl
  rw[h2,SU h];rfl
 rw[Sq (show(List.range t.basic.length).length<=i by simp;omega),Sq (show t.lines.length<=i by rw[a.ll];omega)];rfl
theorem ff (c:t.Ok N)(h:∀x∈fo b n t wB wL wO wW wF,x.seen C):TabV C b n t wB wL wO wW ((List.range t.basic.length).map wF):=by
 have h1:=h _ (Sj ..);have h2:=h _ (Sv _ (Sj ..));have h3:=h _ (Sv _ (Sv _ (Sj ..)));have h4:=h _ (Sv _ (Sv _ (Sv _ (Sj ..))));have h5:=h _ (Sv _ (Sv _ (Sv _ (Sv _ (Sj ..)))));have j:∀i,i<t.basic.length->Sl C 1 (wF i) ((t.line i).f.map aM):=λi a =>
  h (MN t wF i) (Sv _ (Sv _ (Sv _ (Sv _ (Sv _ (Sn.2 ⟨i,SE.2 a,rfl⟩))))))
 refine⟨h1,h2,h4,h5, ?_,by simp[c.ll],λi l w e g=>?_⟩
 .rw[F7 c];have d:Sl C 2 wL ((cW t wF).map bC):=h3;unfold cW at d;rw[Th]at d;exact d
 have a:i<t.lines.length:=(aT.1 e).1;rw[c.ll]at a;rw[Sh,SU a]at g;cases g
 have:t.line i=l:=by unfold Lp.Tab.line;rw[ak,e];rfl
 rw[<- this];exact j i a
theorem KN (C:Mem)(p:Tabs C)(e m f i n s:Nat)(w g:Value)(d:List (Rat × Value))(a b:List Rat)(c h:Rat)(q:d.length=m)(r:d[i]?=some (c,w))(t:a.length=n)(k:b.length=n)(v:s<n)(y:QB 50 c)(z:∀x∈a,QB 50 x)(A:QB 50 h)(B:∀x∈b,QB 50 x) :
  Jog.Fn cx.P 262 [.pointer (some ⟨e,i*2,none⟩),i_ s,.agg ⟨[ae (qtx h),g]⟩] C [.arr g 32 1 n (b.map aM).flatten,.arr (s_ e m f) 228 2 m (d.map bC).flatten,.arr w 32 1 n (a.map aM).flatten]
   λu _ j=>u=.tuple #[]/\j=[.arr g 32 1 n (b.map aM).flatten,.arr (s_ e m f) 228 2 m ((d.set i (c+a.getD s 0*h,w)).map bC).flatten,.arr w 32 1 n ((kZ a b s (a.getD s 0) n).map aM).flatten]:=by
 have l:Jog.Enters cx.P 262=true:=by kernel_rfl
 refine Fn.perm (L2:=[.arr w 32 1 n (a.map aM).flatten,.arr g 32 1 n (b.map aM).flatten,.arr (s_ e m f) 228 2 m (d.map bC).flatten]) (Tq (l₁:=[_,_]) (l₂:=[_]))<|Fn.form l om_ λE F G=>?_;subst G;refine Fn.perm (Tq (l₁:=[_]) (l₂:=[_,_]))<|(Xs (post:=λu j=>u=.tuple #[]/\j=[.arr (s_ e m f) 228 2 m ((d.set i (c+a.getD s 0*h,_)).map bC).flatten,.arr _ 32 1 n ((kZ a b s (a.getD s 0) n).map aM).flatten]) l bK (by simp[k]) λo H I=>Ow o (p.mono H) e m f i E F n s g d a b c h q r t k v I y z A B).mono ?_;rintro u o j _ ⟨D,rfl,h1,rfl⟩;exact⟨h1,U⟩
theorem KL (C:Mem)(p:Tabs C)(d n s:Nat)(e f g h w i:Value)(a b:List Rat)(c j:Rat)(q:a.length=n)(l:b.length=n)(r:s<n)(t:QB 50 c)(v:∀x∈a,QB 50 x)(y:QB 50 j)(z:∀x∈b,QB 50 x) :
  Jog.Fn cx.P 262 [.pointer (some ⟨d,4,none⟩),i_ s,.agg ⟨[ae (qtx j),i]⟩] C [.arr i 32 1 n (b.map aM).flatten,.obj d (.cells ⟨[e,f,g,h,ae (qtx c),w]⟩ 231 (0,0)),.arr w 32 1 n (a.map aM).flatten]
   λu _ k=>u=.tuple #[]/\k=[.arr i 32 1 n (b.map aM).flatten,.obj d (.cells ⟨[e,f,g,h,ae (qtx (c+a.getD s 0*j)),w]⟩ 231 (0,0)),.arr w 32 1 n ((kZ a b s (a.getD s 0) n).map aM).flatten]:=by
 have m:Jog.Enters cx.P 262=true:=by kernel_rfl
 refine Fn.perm (L2:=[.arr w 32 1 n (a.map aM).flatten,.arr i 32 1 n (b.map aM).flatten,.obj d (.cells ⟨[e,f,g,h,ae (qtx c),w]⟩ 231 (0,0))]) (Tq (l₁:=[_,_]) (l₂:=[_]))<|Fn.form m om_ λB D E=>?_;subst E;refine Fn.perm (Tq (l₁:=[_]) (l₂:=[_,_]))<|(Xs (post:=λu k=>u=.tuple #[]/\k=[.obj d (.cells ⟨[e,f,g,h,ae (qtx (c+a.getD s 0*j)),_]⟩ 231 (0,0)),.arr _ 32 1 n ((kZ a b s (a.getD s 0) n).map aM).flatten]) m bK (by simp[l]) λo F G=>Ov o (p.mono F) d B D n s e f g h i a b c j q l r G t v y z).mono ?_;rintro u o k _ ⟨A,rfl,h1,rfl⟩;exact⟨h1,U⟩
theorem oA {F:Nat}(h:Lp.LeaveR F t s n o):o=-1∨∃r:Nat,o=r/\r<n/\F<=t.bas r/\(t.line r).g s<0:=by
 cases h with
|none _=>exact .inl rfl
|some r h1 h2 h3 _=>exact .inr ⟨r,rfl,h1,h2,h3⟩
theorem Hv (a b:Rat):decide (nZ a b > 0)=decide (b<a):=by
 unfold nZ;rw[S8];split
 .next h=>exact⟨λh2=>absurd h2 dc_,λh2=>by grind⟩
 split
 .next h=>exact⟨λ_=>h,λ_=>by decide⟩
 next h=>exact⟨λh2=>absurd h2 dc_,λh2=>absurd h2 h⟩
theorem Hw (a b:Rat):(nZ a b == 0)=decide (b=a):=by
 unfold nZ;split
 .next h=>rw[SM (by grind)];rfl
 split
 .next h=>rw[SM (by grind)];rfl
 next h=>rw[SB (by grind)];rfl
theorem Li (C:Mem)(S:Tabs C)(b n s N:Nat)(t:Lp.Tab)(wB wL T V:Value)(k:List Value)(h:TabV C b n t wB wL T V k)(W:t.Ok N)(hs:s<t.others.length)(X:∀i,i<t.basic.length->QB 20 (t.line i).c/\QB 20 ((t.line i).g s)) :
  Pur cx.P 211 [p_ b,i_ s] C λu _=>∃o:Int,u=i_ o/\Lp.LeaveR n t s t.basic.length o:=by
 obtain⟨A1,c1,rfl,aw,ax,_⟩:=id h.B;obtain⟨A2,c2,rfl,ay,az,_⟩:=id h.L;have E:=h.B;have aA:=mx_
 have aB:=W.ll;have ac:=h.fl;have aC:(List.zipWith (λ(l:Lp.Line) w=>[ae (qtx l.c),w]) t.lines k).length=t.basic.length:=by simp;omega
 refine V7 func211 85 U3 λw0=>U0 1 [0,1] U<|U0 1 [0,1,5] U<|U0 1 [0,1,5,6] U<|U1 3 U λR a=>V1 (PtrTo.blockT (h.m_.o) _ 1) U8<|C6 2 [0,1,5,6,15,16,17] a U<|G.loop (λfr C' L' μ=>∃(i:Nat)(o:Int)(v:Str),(i<=t.basic.length/\Lp.LeaveR n t s i o/\∀r:Nat,o=r->v=qtx ((t.line r).c / -(t.line r).g s))/\fr=[(0,[],p_ b),(1,[],i_ s),(5,[],i_ o),(6,[],ae v),(15,[],.slice A2 (List.zipWith (λ(l:Lp.Line) w=>[ae (qtx l.c),w]) t.lines k).length c2),(16,[],i_ (List.zipWith (λ(l:Lp.Line) w=>[ae (qtx l.c),w]) t.lines k).length),(17,[],i_ i)]/\L'=[]/\μ=t.basic.length-i) (hn_ [0,1,5,6,15,16,17] U) ⟨0, -1,[],⟨Sm _,.none λj hj=>absurd hj (Nat.not_lt_zero _),λr hr=>by omega⟩,U,U,U⟩ (λfr aD aE m _ hI=>?_);obtain⟨i,o,v,⟨hi,f,F⟩,rfl,rfl,rfl⟩:=hI;refine U0 1 [0,1,5,6,15,16,17,18] U<|G.cd (λH=>?_) λH=>?_
 .have p:i<t.basic.length:=by
   have:=RD H;omega
  obtain⟨z,aF⟩:=mC h W p;obtain⟨A3,c3,ad,aG,aH,_⟩:=id z;obtain⟨Y,I⟩:=X i p;have Z:=km (ls:=t.lines) (ws:=k) (i:=i) om_ ac;rw[ad]at Z z;have aa:(qtx ((t.line i).g s)).length<=1000000:=Su (aV I dc_) dc_;refine U1 1 U λR a=>Wf h.L.m_ U10 om_ Z fl_ λaI af=>V1 af U8<|Wg U5 λb8=>V2 U6<|Wa (j:=0) U12<|V5 [0,1,5,6,7,8,15,16,17] a U<|G.freeze 0 U λ_ _ J=>U1 4 U λR a=>V1 (PtrTo.blockT (h.m_.o) _ 1) U8<|V2 U6<|Wf E.m_ U10 om_ (fp p) fl_ λaJ ag=>V1 ag U8<|Wb (fA _ b n (t.bas i) t _ _ T V k h.m_) U7<|V4 3 U<|Wv U6 (λ_=>PtrTo.blockT (Mem.get J mup) _ 1) U3<|V2 U6<|D.index U10 (λhg=>⟨z.mono mup,by omega,dR om_⟩) fl_ U λaK ah=>Wv U6 ah U3<|WC (λ_=>(fD _ ((t.line i).g s) aa)) U9<|V2 U6<|Wy U8<|V5 [0,1,5,6,7,8,15,16,17,40] a U<|G.cd (λK=>?_) λK=>?_
  .have d:n<=t.bas i->0<=(t.line i).g s:=by
    intro h1;have d:(!decide (n<=t.bas i) || decide (er ((t.line i).g s).num ≥ 0))=true:=K;rw[Hn,SB h1]at d;simpa using d
   refine V3 λR a=>V8 _ U U6<|C6 1 [0,1,5,6,15,16,17] a U<|We (m':=t.basic.length-(i+1)) om_ mup (hn_ [0,1,5,6,15,16,17] U) ⟨i+1,o,v,⟨by omega,f.no d,F⟩,U,U,U⟩
  have d:n<=t.bas i/\(t.line i).g s<0:=by
   have d:(!decide (n<=t.bas i) || decide (er ((t.line i).g s).num ≥ 0))=false:=K;rw[Hn]at d;simp only[TY,Bool.not_eq_false',Sr,SS]at d;exact⟨d.1,by have:=d.2;grind⟩
  have ab:-(t.line i).g s≠0:=by have:=d.2;grind
  have ai:=jN Y (eO I) ab;refine Wn [0,1,2,3,4,5,6,7,8,9,10,11,12,13] [(7,1),(8,1)] U kr_ λR hB a=>V2 U6<|V1 (bkT J 1) U8<|V2 U6<|V1 (bkT J 1) U8<|V2 U6<|Wf z.m_ U10 om_ (dR om_) fl_ λaL aj=>V1 aj U8<|WC (λ_=>(fq _ ((t.line i).g s) aa)) U9<|Wo (λ_=>(iu _ S.m_ (t.line i).c (-(t.line i).g s) 20 dc_ dc_ Y (eO I) ab)) U9<|C6 5 [0,1,5,6,7,9,15,16,17] a U<|U0 1 [0,1,5,6,7,9,15,16,17] U<|U0 2 [0,1,5,6,7,9,15,16,17,54] U<|G.cd (λM=>?_) λM=>?_
  .have ak:0<=o:=by simpa using RD M
   obtain⟨r,O,aM,aN,aO⟩:=(oA f).resolve_left om_;obtain⟨al,am⟩:=X r om_;have an:-(t.line r).g s≠0:=by grind
   have ao:=jN al (eO am) an;have ap:=F r O;rw[O]at f;subst O;subst ap;obtain⟨x,A⟩:∃x,(t.line i).c / -(t.line i).g s=x:=⟨_,rfl⟩;obtain⟨y,hy⟩:∃y,(t.line r).c / -(t.line r).g s=y:=⟨_,rfl⟩;refine U1 2 U λR a=>Wc (fP _ S.m_ _ _ 40 dc_ dc_ ai ao) U7 fl_<|C6 1 [0,1,5,6,7,9,11,15,16,17] a U<|Wn [0,1,2,3,4,5,6,7,8,9,10,11,12,13,14,15,16,17,18,19,20,21,22] [] U kr_ λR hB a=>V4 9 U<|Wv U6 (λ_=>PtrTo.blockT (h.m_.o) _ 1) U3<|V2 U6<|D.index U10 (λhg=>⟨E.mono mup,by omega,fp p⟩) fl_ U λaP aq=>Wv U6 aq U3<|V4 3 U<|Wv U6 (λ_=>PtrTo.blockT (h.m_.o) _ 1) U3<|V2 U6<|D.index U10 (λhg=>⟨E.mono mup,by omega,by rw[Ue];exact fp om_⟩) fl_ U λaQ ar=>Wv U6 ar U3<|V2 U6<|Wr U8<|Wy U8<|V5 [0,1,5,6,7,9,15,16,17,80] a U<|G.cd (λQ=>?_) λQ=>?_
   .have e:y<x∨y=x/\t.bas r<t.bas i:=by
     have e:(decide (nZ ((t.line i).c / -(t.line i).g s) ((t.line r).c / -(t.line r).g s) > 0) || (nZ ((t.line i).c / -(t.line i).g s) ((t.line r).c / -(t.line r).g s) == 0 && decide ((t.bas i:Int) > (t.bas r:Int))))=true:=Q;rw[A,hy,Hv,Hw]at e;simp only[Uh,Sz,Sr]at e;rcases e with h1|⟨h1,h2⟩
     .exact .inl h1
     exact .inr ⟨h1,by omega⟩
    have q:=f.keep (by rw[A,hy];exact e.elim .inl (λh1=>.inr ⟨h1.1,by have:=h1.2;omega⟩));refine V3 λR a=>V8 _ U U6<|C6 1 [0,1,5,6,15,16,17] a U<|We (m':=t.basic.length-(i+1)) om_ mup (hn_ [0,1,5,6,15,16,17] U) ⟨i+1,(r:Int),qtx ((t.line r).c / -(t.line r).g s),⟨by omega,q,F⟩,U,U,U⟩
   have e:x<y∨x=y/\t.bas i<=t.bas r:=by
    have e:(decide (nZ ((t.line i).c / -(t.line i).g s) ((t.line r).c / -(t.line r).g s) > 0) || (nZ ((t.line i).c / -(t.line i).g s) ((t.line r).c / -(t.line r).g s) == 0 && decide ((t.bas i:Int) > (t.bas r:Int))))=false:=Q;rw[A,hy,Hv,Hw]at e;simp only[TY,VG,SS]at e;obtain⟨h1,h2⟩:=e;by_cases h3:x<y
    .exact .inl h3
    have h4:y=x:=by grind
    rcases h2 with h2|h2
    .exact absurd h4 h2
    exact .inr ⟨h4.symm,by omega⟩
   have q:=f.less d.1 d.2 (by rw[A,hy];exact e);refine U0 4 [0,1,5,6,15,16,17] U<|V3 λR a=>V8 _ U U6<|C6 1 [0,1,5,6,15,16,17] a U<|We (m':=t.basic.length-(i+1)) om_ mup (hn_ [0,1,5,6,15,16,17] U) ⟨i+1,(i:Int),qtx ((t.line i).c / -(t.line i).g s),⟨by omega,q,λr' au=>by rw[show r'=i by omega]⟩,U,U,U⟩
  have ak:¬ 0<=o:=by simpa using Si M
  have av:o=-1:=by
   rcases oA f with h1|⟨r,h1,_⟩
   .exact h1
   omega
  subst av;have q:=f.first d.1 d.2;refine U0 4 [0,1,5,6,15,16,17] U<|V3 λR a=>V8 _ U U6<|C6 1 [0,1,5,6,15,16,17] a U<|We (m':=t.basic.length-(i+1)) om_ mup (hn_ [0,1,5,6,15,16,17] U) ⟨i+1,(i:Int),qtx ((t.line i).c / -(t.line i).g s),⟨by omega,q,λr' au=>by rw[show r'=i by omega]⟩,U,U,U⟩
 have p:i=t.basic.length:=by
  have:=Si H;omega
 exact U0 2 [4] U<|V6 U2<|⟨U,o,U,by rw[<- p];exact f⟩
def ryF (t:Lp.Tab)(s n:Nat)(k:Rat)(i:Nat):List Rat:=(List.range n).map λv=>if v∈t.basic.take i then k*t.dir s v else if v=t.oth s then k else 0
theorem kX :(ryF t s n k i).length=n:=by simp[ryF]
theorem CF (h:v<n):(ryF t s n k i)[v]?=some (if v∈t.basic.take i then k*t.dir s v else if v=t.oth s then k else 0):=by
 unfold ryF;rw[Sh,SU h];rfl
theorem Kw (h:n<=t.oth s):List.replicate n 0=ryF t s n k 0:=by
 refine List.ext_getElem? λv=>?_;by_cases a:v<n
 .rw[CF a,TC,aK a,List.take_zero,aF Tp,aF om_]
 rw[Sq am,Sq (by rw[kX];omega)]
theorem N1 (h:t.oth s<n):(List.replicate n 0).set (t.oth s) k=ryF t s n k 0:=by
 refine List.ext_getElem? λv=>?_;rw[List.getElem?_set];by_cases a:v<n
 .rw[CF a,TC,aK a,List.take_zero,aF Tp];by_cases e:t.oth s=v
  .rw[aK e,aK (by simpa using h),aK e.symm]
  rw[aF e,aF (λb=>e b.symm)]
 rw[aF om_,Sq am,Sq (by rw[kX];omega)]
theorem N0 (b:Lp.TabOf p t)(c:s<t.others.length)(h:i<t.basic.length)(d:t.bas i<n):(ryF t s n k i).set (t.bas i) (k*(t.line i).g s)=ryF t s n k (i+1):=by
 refine List.ext_getElem? λv=>?_;rw[List.getElem?_set,kX];by_cases a:v<n
 .rw[CF a,CF a,lT h];by_cases e:t.bas i=v
  .subst e;rw[aK rfl,aK a,aK al,Lp.dir_bas b c h]
  rw[aF e];by_cases hm:v∈t.basic.take i
  .rw[aK hm,aK (by simp[hm])]
  rw[aF hm,aF (show ¬ v∈t.basic.take i++[t.bas i] by simp[hm];exact λh2=>e h2.symm)]
 rw[aF om_,Sq (by rw[kX];omega),Sq (by rw[kX];omega)]
theorem Kx (h:i<t.basic.length)(a:n<=t.bas i):ryF t s n k i=ryF t s n k (i+1):=by
 refine List.map_congr_left λv hm=>?_;have b:=SE.1 hm;rw[lT h];by_cases hm:v∈t.basic.take i
 .rw[aK hm,aK (by simp[hm])]
 rw[aF hm,aF (show ¬ v∈t.basic.take i++[t.bas i] by simp[hm];omega)]
theorem N2 (a:Lp.TabOf p t):ryF t s n k t.basic.length=(List.range n).map λv=>k*t.dir s v:=by
 refine List.map_congr_left λv _=>?_;rw[Ss];split
 .rfl
 next h =>
 rw[Lp.dir_oth a h];split <;> grind
def lJ (t:Lp.Tab)(s:Nat):Rat:=if 0<t.worth.g s then -1 else 1
theorem QG:qtx (-1)=[45,49]:=by decide +kernel
theorem QF (C:Mem)(Q:Tabs C)(p:Lp.Sys)(b s:Nat)(t:Lp.Tab)(S T V X:Value)(r:List Value)(h:TabV C b p.n t S T V X r)(x:Lp.TabOf p t)(I:s<t.others.length)(Y:p.n<=1000000)(Z:∀i,i<t.basic.length->QB 20 ((t.line i).g s))(aa:QB 20 (t.worth.g s)) :
  Jog.Fn cx.P 142 [p_ b,i_ s] C [] λu _ c=>∃g,u=s_ g p.n p.n/\c=[.arr u 32 1 p.n (((List.range p.n).map λv=>lJ t s*t.dir s v).map aM).flatten]:=by
 have ok:=x.ok;obtain⟨A1,J,rfl,ab,ap,_⟩:=id h.B;obtain⟨A2,c2,rfl,aq,ar,_⟩:=id h.L;obtain⟨A3,c3,rfl,av,aw,_⟩:=id h.O;obtain⟨A4,c4,rfl,ax,ay,_⟩:=id h.W;have ac:=h.B;have az:t.basic.length<=J:=by rwa [au]at ab
 have aA:=mx_
 have aB:=ok.ll;have ad:=h.fl;have aC:=ok.wl;have af:QB 20 (lJ t s):=by unfold lJ;split <;> exact⟨by decide,by decide⟩
 refine V7 func142 72 U3 λw0=>U0 1 [0,1] U<|U0 1 [0,1,5] U<|U1 4 U λR a=>V1 (PtrTo.blockT (h.m_.o) _ 1) U8<|V2 U6<|Wf h.W.m_ U10 om_ (dR om_) fl_ λaD ag=>V1 ag U8<|Wc (fD _ (t.worth.g s) (Su (aV aa dc_) dc_)) U7 fl_<|C6 1 [0,1,5,19] a U<|G.cut (λfr K c f=>(True)/\fr=[(0,[],p_ b),(1,[],i_ s),(5,[],ae (qtx (lJ t s)))]/\c=[]) ?_ (λfr _ aE f _ l=>?_)
 .refine G.cd (λy=>?_) λy=>?_
  .have z:lJ t s=-1:=by
    have d:0<t.worth.g s:=by
     have d:decide (0<er (t.worth.g s).num)=true:=y;rw[uU]at d;exact RD d
    unfold lJ;rw[aK d]
   refine U0 1 [0,1,5] U<|Wj 0 l_ (hn_ [0,1,5] U) ⟨trivial,by rw[z,QG];rfl,U⟩
  have z:lJ t s=1:=by
   have d:¬ 0<t.worth.g s:=by
    have d:decide (0<er (t.worth.g s).num)=false:=y;rw[uU]at d;exact Si d
   unfold lJ;rw[aF d]
  refine Wj 0 l_ (hn_ [0,1,5] U) ⟨trivial,by rw[z,qtx1];rfl,U⟩
 obtain⟨ah,rfl,rfl⟩:=l;refine Wt [(4,3)] U λR a=>V4 3 U<|V1 (PtrTo.blockT (h.m_.o) _ 1) U8<|D.call (gX _ p.n Y) U (.inr dc_) U6 (Sp _) fl_ λaG _ aH _ ai=>C6 1 [0,1,5,6] a U ?_;obtain⟨g,rfl,rfl⟩:=ai;refine Wk (L':=[.arr (s_ g p.n p.n) 32 1 p.n ((List.replicate p.n (0:Rat)).map aM).flatten]) (by rw[<- uM];rfl)<|U1 3 U λR a=>V1 (PtrTo.blockT (h.m_.o) _ 1) U8<|V2 U6<|Wf h.O.m_ U10 om_ (show(t.others.map aW)[s]?=some (aW (t.oth s)) from fp I) fl_ λaI aj=>V1 aj U8<|C6 1 [0,1,5,6,7] a U<|U1 2 U λR a=>Wb (fA _ b p.n (t.oth s) t _ _ _ _ r h.m_) U7<|C6 1 [0,1,5,6,7,35] a U<|G.cut (λfr K c f=>(True)/\fr=[(0,[],p_ b),(1,[],i_ s),(5,[],ae (qtx (lJ t s))),(6,[],s_ g p.n p.n)]/\c=[.arr (s_ g p.n p.n) 32 1 p.n ((ryF t s p.n (lJ t s) 0).map aM).flatten]) ?_ (λfr _ aJ f _ l=>?_)
 .refine G.cd (λA=>?_) λA=>?_
  .have q:t.oth s<p.n:=by
    have q:¬ p.n<=t.oth s:=by simpa using A
    omega
   refine U1 3 U λR a=>Ww (t.oth s*1) U10 w_ U2<|WA (j:=0) U11 (by show t.oth s*1+1<=_;rw[bM bE,SG];omega)<|V5 [0,1,5,6] a U<|Wk (L':=[.arr (s_ g p.n p.n) 32 1 p.n ((ryF t s p.n (lJ t s) 0).map aM).flatten]) (by rw[<- N1 q,<- bI bE _ (by rw[SG];exact q)];rfl)<|Wj 0 l_ (hn_ [0,1,5,6] U) ⟨trivial,U,U⟩
  have q:p.n<=t.oth s:=by simpa using A
  rw[Kw (k:=lJ t s) q];refine Wj 0 l_ (hn_ [0,1,5,6] U) ⟨trivial,U,U⟩
 obtain⟨ah,rfl,rfl⟩:=l;refine U1 3 U λR a=>V1 (PtrTo.blockT (h.m_.o) _ 1) U8<|C6 2 [0,1,5,6,43,44,45] a U<|G.loop (λfr K c f=>∃(i:Nat),(i<=t.basic.length)/\fr=[(0,[],p_ b),(1,[],i_ s),(5,[],ae (qtx (lJ t s))),(6,[],s_ g p.n p.n),(43,[],.slice A1 (t.basic.map aW).length J),(44,[],i_ (t.basic.map aW).length),(45,[],i_ i)]/\c=[.arr (s_ g p.n p.n) 32 1 p.n ((ryF t s p.n (lJ t s) i).map aM).flatten]/\f=t.basic.length-i) (hn_ [0,1,5,6,43,44,45] U) ⟨0,Sm _,U,U,U⟩ (λfr aL aN m M l=>?_);obtain⟨i,hi,rfl,rfl,rfl⟩:=l;refine U0 1 [0,1,5,6,43,44,45,46] U<|G.cd (λE=>?_) λE=>?_
 .have e:i<t.basic.length:=by
   have:=RD E;rw[au]at this;omega
  obtain⟨F,aO⟩:=mC h ok e;obtain⟨A5,c5,ak,aP,aQ,_⟩:=id F;have N:=km (ls:=t.lines) (ws:=r) (i:=i) om_ ad;rw[ak]at N F;refine U1 1 U λR a=>Wf ac.m_ U10 om_ (show(t.basic.map aW)[i]?=some (aW (t.bas i)) from fp e) fl_ λaR al=>V1 al U8<|C6 2 [0,1,5,6,8,9,43,44,45] a U<|U1 2 U λR a=>Wb (fA _ b p.n (t.bas i) t _ _ _ _ r h.m_) U7<|C6 1 [0,1,5,6,8,9,43,44,45,53] a U<|G.cd (λH=>?_) λH=>?_
  .have w:t.bas i<p.n:=by
    have aS:¬ p.n<=t.bas i:=by simpa using H
    omega
   refine U1 6 U λR a=>V1 (PtrTo.blockT (h.m_.o) _ 1) U8<|V2 U6<|Wf h.L.m_ U10 om_ N fl_ λaT am=>W5 am U10 fl_ λaU an=>V1 an U8<|V2 U6<|Wf F.m_ U10 om_ (dR om_) fl_ λaX ao=>V1 ao U8<|Wc (cX _ Q.m_ (lJ t s) ((t.line i).g s) 20 dc_ dc_ af (Z i e)) U7 fl_<|Ww (t.bas i*1) U10 w_ U2<|WA (j:=0) U11 (by show t.bas i*1+1<=_;rw[bM bE,kX];omega)<|V5 [0,1,5,6,43,44,45] a U<|V3 λR a=>V8 _ U U6<|C6 1 [0,1,5,6,43,44,45] a U<|Wk (L':=[.arr (s_ g p.n p.n) 32 1 p.n ((ryF t s p.n (lJ t s) (i+1)).map aM).flatten]) (by rw[<- N0 x I e w,<- bI bE _ (by rw[kX];exact w)];rfl)<|We (m':=t.basic.length-(i+1)) om_ M (hn_ [0,1,5,6,43,44,45] U) ⟨i+1,om_,U,U,U⟩
  have w:p.n<=t.bas i:=by simpa using H
  rw[Kx e w];refine V3 λR a=>V8 _ U U6<|C6 1 [0,1,5,6,43,44,45] a U<|We (m':=t.basic.length-(i+1)) om_ M (hn_ [0,1,5,6,43,44,45] U) ⟨i+1,om_,U,U,U⟩
 have e:i=t.basic.length:=by
  have:=Si E;rw[au]at this;omega
 refine U0 2 [4] U<|Wd (WD U U ?_);exact⟨g,U,by rw[e,N2 x]⟩
end Go.Proofs.YtfjcldheldflbaaGreatDoor
