import Derived.Test.YtfjcldheldflbaaGreatDoorG11
set_option maxHeartbeats 4000000
namespace Go.Proofs.YtfjcldheldflbaaGreatDoor
open Go.Proofs.Tryz
open Go Go.Jog
set_option maxRecDepth 100000
variable {C:Mem}{N b:Nat}{bf fs:List Rat}{i j:Nat}{k:Rat}{l:Lp.Line}{ls:List (Rat × Value)}{n:Nat}{o:Int}{p:Lp.Sys}{q s:Nat}{t:Lp.Tab}{v:Nat}{wB:Value}{wF:Nat->Value}{wL wO wW:Value}
open Classical in
theorem Hw (q:Rat):decide (eA q.num ≥ 0)=decide (0<=q):=by
 have h:=vk q;have h2:decide (0<=q)=!decide (q<0):=by
  rw[<- decide_not,Tx];grind
 rw[h2,<- h,<- decide_not,Tx];omega
theorem SA:aP 0=[Value.string ⟨#[48]⟩]:=by
 show [ag (qtx 0)]=_;rw[qtx_zero];rfl
def zF (fs:List Rat)(s q:Nat):Rat:=if q=s then 0 else fs.getD q 0
def lf (fs bf:List Rat)(s:Nat)(k:Rat)(j:Nat):List Rat:=(List.range fs.length).map λq=>zF fs s q+(if q<j then k*bf.getD q 0 else 0)
theorem ix :(lf fs bf s k j).length=fs.length:=by simp[lf]
theorem ya :fs.set s 0=lf fs bf s k 0:=by
 refine List.ext_getElem? λq=>?_;unfold lf;rw[List.getElem?_set,SI];by_cases a:q<fs.length
 .rw[Tl a];simp only[Uk,Nat.not_lt_zero,Ui];unfold zF;split
  .next e=>rw[aL om_,aL e.symm];rw[Rat.add_zero]
  next e=>rw[aF (λb=>e b.symm),al,aj a];simp only[T6];congr 1;grind
 rw[SR om_,SR ap];split
 .split
  .omega
  rfl
 rfl
theorem uV (h:q<fs.length):(lf fs bf s k j)[q]?=some (zF fs s q+(if q<j then k*bf.getD q 0 else 0)):=by
 unfold lf;rw[SI,Tl h];rfl
theorem CZ (h:j<fs.length):(lf fs bf s k j).set j (zF fs s j+k*bf.getD j 0)=lf fs bf s k (j+1):=by
 refine List.ext_getElem? λq=>?_;rw[List.getElem?_set,ix];by_cases a:q<fs.length
 .rw[uV a,uV a];by_cases e:j=q
  .subst e;rw[aL rfl,aL a,aL om_]
  rw[aF e];by_cases h1:q<j
  .rw[aL h1,aL om_]
  rw[aF h1,aF om_]
 rw[SR (by rw[ix];omega),SR (by rw[ix];omega)];split
 .exact absurd om_ a
 rfl
theorem yd (a:bf.getD j 0=0):lf fs bf s k j=lf fs bf s k (j+1):=by
 refine List.map_congr_left λq _=>?_;by_cases e:q=j
 .subst e;rw[aF om_,aL om_,a];grind
 by_cases h1:q<j
 .rw[aL h1,aL om_]
 rw[aF h1,aF om_]
theorem yc :lf fs bf s 0 j=lf fs bf s 0 0:=by
 refine List.map_congr_left λq _=>?_;split <;> split <;> grind
theorem Ht {c bc:Rat}(_b:s<fs.length):Lp.putL ⟨c,fs⟩ s ⟨bc,bf⟩=⟨c+fs.getD s 0*bc,lf fs bf s (fs.getD s 0) fs.length⟩:=by
 unfold Lp.putL;congr 1;refine List.map_congr_left λq a=>?_;rw[aL (S7.1 a)];rfl
theorem Ql (a:∀x∈fs,QB 50 x)(b:q<fs.length):QB 50 (zF fs s q):=by
 unfold zF;split
 .exact⟨by decide,by decide⟩
 rw[al,aj b];exact a _ (TC _)
def bG (p:Rat × Value):List Value:=[ag (qtx p.1),p.2]
theorem ii:∀p,(bG p).length=2:=λ_=>rfl
theorem pm {p:Rat × Value}(h:ls[i]?=some p):(ls.map bG).flatten.drop (i*2)=ag (qtx p.1)::p.2::(ls.map bG).flatten.drop (i*2+2):=by
 let⟨h1,h2⟩:=R0.1 h;have e:=(cj ii ls i).2;have a:=(cj ii ls (i+1)).2;rw[Ug]at a;rw[e,a,Tg h1,h2];rfl
theorem KC {p:Rat × Value}(h:ls[i]?=some p):ls.set i p=ls:=by
 refine List.ext_getElem? λj=>?_;rw[List.getElem?_set];split
 .next e=>subst e;rw[aL (R0.1 h).1,h]
 rfl
theorem Fg {p:Rat × Value}(h:ls[i]?=some p):((ls.map bG).flatten.drop (i*2)).take 1=[ag (qtx p.1)]:=by rw[pm h];rfl
theorem kp {p:Rat × Value}(h:ls[i]?=some p):((ls.map bG).flatten.drop (i*2+1)).take 1=[p.2]:=by rw[<- List.drop_drop,pm h];rfl
theorem AK {p:Rat × Value}(h:ls[i]?=some p)(c:Rat):aC (ls.map bG).flatten [ag (qtx c)] (i*2)=((ls.set i (c,p.2)).map bG).flatten:=by
 rw[<- bE ii (c,p.2) (R0.1 h).1];unfold aC;have:(ls.map bG).flatten.drop (i*2+1)=p.2::(ls.map bG).flatten.drop (i*2+2):=by rw[<- List.drop_drop,pm h];rfl
 show _++[_]++List.drop (i*2+1) _=_++[_,_]++List.drop (i*2+2) _;rw[this];simp
theorem OL (C:Mem)(t:Tabs C)(g e f n s:Nat)(i l o p z:Value)(b d:List Rat)(c h:Rat)(ae:b.length=n)(ai:d.length=n)(hs:s<n)(q:Sl C 1 z (d.map aP))(Q:QB 50 c)(A:∀x∈b,QB 50 x)(B:QB 50 h)(S:∀x∈d,QB 50 x) :
  Jog.Fn cx.P 262 [.pointer (some ⟨g,4,none⟩),i_ s,.agg ⟨[ag (qtx h),z]⟩] C [.obj g (.cells ⟨[i,l,o,p,ag (qtx c),s_ e n f]⟩ 231 (0,0)),.arr (s_ e n f) 32 1 n (b.map aP).flatten]
   λu _ r=>u=.tuple #[]/\r=[.obj g (.cells ⟨[i,l,o,p,ag (qtx (c+b.getD s 0*h)),s_ e n f]⟩ 231 (0,0)),.arr (s_ e n f) 32 1 n ((lf b d s (b.getD s 0) n).map aP).flatten]:=by
 obtain⟨T,V,rfl,W,ak,_⟩:=id q;simp only[ar]at W q⊢;have D:s<b.length:=by omega
 have am:=mx_
 let⟨k,E⟩:∃k,b.getD s 0=k:=⟨_,rfl⟩;have F:b[s]?=some k:=by rw[<- E,al,aj D];rfl
 have v:QB 50 k:=A k (aK F);rw[E];refine Wy func262 64 U3 λw0=>?_;refine WK (L':=[.obj g (.cells ⟨[i,l,o,p,ag (qtx c),s_ e n f]⟩ 231 (0,0)),.arr (s_ e n f) 32 1 n (b.map aP).flatten]) U ?_;refine Wu λR a=>?_;refine WH U6 (λb5=>?_);refine Ww [0,1,5] a U ?_;clear a R;refine G.freeze 0 U (λ_ _ H=>?_);refine U1 3 U λR a=>?_;refine WA ah U9 ?_;refine Wt U6 ?_;refine WV (s*1) U10 w_ U2 ?_;refine Xa af U6 (λ_=>(by rw[da bH F];rfl)) U2 ?_;refine C6 1 [0,1,5,6] a U ?_;clear a R;refine U1 3 U λR a=>?_;refine WA ah U9 ?_;refine Wt U6 ?_;refine WV (s*1) U10 w_ U2 ?_;refine WZ (j:=1) U11 (by show s*1+1<=_;rw[bK bH];omega) ?_;refine Ww [0,5,6] a U ?_;clear a R;refine G.perm (L':=[.obj g (.cells ⟨[i,l,o,p,ag (qtx c),s_ e n f]⟩ 231 (0,0)),.arr (s_ e n f) 32 1 n ((lf b d s k 0).map aP).flatten]) (by rw[<- ya,<- bE bH 0 D,SA];exact List.Perm.swap _ _ _) ?_;refine U0 2 [0,5,6,23] U ?_;refine G.cd (λI=>?_) λI=>?_
 .have X:qtx k=[48]:=by simpa using I
  have Y:k=0:=gx (X.trans (by decide +kernel:([48]:List UInt8)=qtx 0));subst Y;have Z:c+0*h=c:=by grind
  refine WK (L':=[.obj g (.cells ⟨[i,l,o,p,ag (qtx (c+0*h)),s_ e n f]⟩ 231 (0,0)),.arr (s_ e n f) 32 1 n ((lf b d s 0 n).map aP).flatten]) (by rw[Z,yc (j:=n)]) ?_;refine WE (Yu U  ?_);exact⟨U,U⟩
 refine WM [0,1,2,3,4,5,6,7,8,9,10,11,12] [(8,1),(9,1)] U kr_ (λR q a=>?_);refine Wv 4 U ?_;refine WA ah U9 ?_;refine Wv 2 U ?_;refine Ws (bkT H 1) U8 ?_;refine WN (λ_=>(cX _ t.m_ k h 50 dc_ dc_ v B)) U9 ?_;refine WN (λ_=>(fS _ t.m_ c (k*h) 100 dc_ dc_ (Q.le dc_) ((fU v B).le dc_))) U9 ?_;refine Wv 2 U ?_;refine WB (j:=0) U12 ?_;refine Ww [0,5,6] a U ?_;clear a q R;refine U1 1 U λR a=>?_;refine Ws (bkT H 1) U8 ?_;refine C6 2 [0,6,37,38,39] a U ?_;clear a R;refine G.loop (λfr C' r μ=>∃(j:Nat),(j<=n)/\fr=[(0,[],.pointer (some ⟨g,4,none⟩)),(6,[],ag (qtx k)),(37,[],.slice T d.length V),(38,[],i_ d.length),(39,[],i_ j)]/\r=[.obj g (.cells ⟨[i,l,o,p,ag (qtx (c+k*h)),s_ e n f]⟩ 231 (0,0)),.arr (s_ e n f) 32 1 n ((lf b d s k j).map aP).flatten]/\μ=n-j) (hn_ [0,6,37,38,39] U) ⟨0,SM _,U,U,U⟩ (λfr an ao m J hI=>?_);obtain⟨j,hj,rfl,rfl,rfl⟩:=hI;refine U0 1 [0,6,37,38,39,40] U ?_;refine G.cd (λw=>?_) λw=>?_
 .have K:j<n:=by
   have:=aT w;omega
  let⟨x,y⟩:∃x,d[j]?=some x:=⟨d[j]'om_,aj om_⟩;have L:QB 50 x:=S x (aK y);have M:d.getD j 0=x:=by rw[al,y];rfl
  have aa:(lf b d s k j)[j]?=some (zF b s j):=by
   rw[uV om_,aF (Nat.lt_irrefl _)];congr 1;grind
  have qz:=Ql (s:=s) A (show j<b.length by omega);have N:=CZ (bf:=d) (s:=s) (k:=k) (show j<b.length by omega);rw[M]at N;refine U1 1 U λR a=>?_;refine WG q.m_ U10 om_ (dL y) fl_ (λap ab=>?_);refine Ws ab U8 ?_;refine C6 2 [0,6,7,8,37,38,39] a U ?_;clear a R;refine U0 2 [0,6,7,8,37,38,39,45] U ?_;refine G.cd (λO=>?_) λO=>?_
  .refine WM [0,1,2,3,4,5,6,7,8,9,10,11,12,13,14,15,16,17] [(14,1),(15,1)] U kr_ (λR q a=>?_);refine Wv 3 U ?_;refine WA ah U9 ?_;refine Wv 4 U ?_;refine WA ah U9 ?_;refine Wt U6 ?_;refine WV (j*1) U10 w_ U2 ?_;refine Xa af U6 (λ_=>(by rw[da bH aa];rfl)) U2 ?_;refine Wv 2 U ?_;refine WN (λ_=>(cX _ t.m_ k x 50 dc_ dc_ v L)) U9 ?_;refine WN (λ_=>(fS _ t.m_ (zF b s j) (k*x) 100 dc_ dc_ (qz.le dc_) ((fU v L).le dc_))) U9 ?_;refine WV (j*1) U10 w_ U2 ?_;refine WZ (j:=1) U11 (by show j*1+1<=_;rw[bK bH,ix];omega) ?_;refine Ww [0,6,37,38,39] a U ?_;clear a q R;refine Wu λR a=>?_;refine Wz _ U U6 ?_;refine C6 1 [0,6,37,38,39] a U ?_;clear a R;refine G.perm (L':=[.obj g (.cells ⟨[i,l,o,p,ag (qtx (c+k*h)),s_ e n f]⟩ 231 (0,0)),.arr (s_ e n f) 32 1 n ((lf b d s k (j+1)).map aP).flatten]) (by rw[<- N,<- bE bH _ (by rw[ix];omega)];exact List.Perm.swap _ _ _) ?_;refine WF (m':=n-(j+1)) om_ J (hn_ [0,6,37,38,39] U) ⟨j+1,om_,U,U,U⟩
  have ac:x=0:=by
   have ad:qtx x=[48]:=by simpa using O
   exact gx (ad.trans (by decide +kernel:([48]:List UInt8)=qtx 0))
  rw[yd (j:=j) (by rw[M];exact ac)];refine Wu λR a=>?_;refine Wz _ U U6 ?_;refine C6 1 [0,6,37,38,39] a U ?_;clear a R;refine WF (m':=n-(j+1)) om_ J (hn_ [0,6,37,38,39] U) ⟨j+1,om_,U,U,U⟩
 have K:j=n:=by
  have:=SJ w;omega
 rw[K];refine XD U ?_;exact⟨U,U⟩
theorem OM (C:Mem)(t:Tabs C)(l m o i e f n s:Nat)(z:Value)(h:List (Rat × Value))(b d:List Rat)(c g:Rat)(ai:h.length=m)(q:h[i]?=some (c,s_ e n f))(ak:b.length=n)(am:d.length=n)(hs:s<n)(r:Sl C 1 z (d.map aP))(S:QB 50 c)(A:∀x∈b,QB 50 x)(B:QB 50 g)(T:∀x∈d,QB 50 x) :
  Jog.Fn cx.P 262 [.pointer (some ⟨l,i*2,none⟩),i_ s,.agg ⟨[ag (qtx g),z]⟩] C [.arr (s_ l m o) 228 2 m (h.map bG).flatten,.arr (s_ e n f) 32 1 n (b.map aP).flatten]
   λu _ p=>u=.tuple #[]/\p=[.arr (s_ l m o) 228 2 m ((h.set i (c+b.getD s 0*g,s_ e n f)).map bG).flatten,.arr (s_ e n f) 32 1 n ((lf b d s (b.getD s 0) n).map aP).flatten]:=by
 obtain⟨V,W,rfl,X,an,_⟩:=id r;simp only[ar]at X r⊢;have D:s<b.length:=by omega
 have ao:=mx_
 let⟨k,E⟩:∃k,b.getD s 0=k:=⟨_,rfl⟩;have F:b[s]?=some k:=by rw[<- E,al,aj D];rfl
 have v:QB 50 k:=A k (aK F);rw[E];refine Wy func262 64 U3 λw0=>?_;refine WK (L':=[.arr (s_ l m o) 228 2 m (h.map bG).flatten,.arr (s_ e n f) 32 1 n (b.map aP).flatten]) U ?_;refine Wu λR a=>?_;refine WH U6 (λb5=>?_);refine Ww [0,1,5] a U ?_;clear a R;refine G.freeze 0 U (λ_ _ H=>?_);refine U1 3 U λR a=>?_;refine Xa ah U6 (λ_=>(by rw[kp q];rfl)) U2 ?_;refine Wt U6 ?_;refine WV (s*1) U10 w_ U2 ?_;refine Xa af U6 (λ_=>(by rw[da bH F];rfl)) U2 ?_;refine C6 1 [0,1,5,6] a U ?_;clear a R;refine U1 3 U λR a=>?_;refine Xa ah U6 (λ_=>(by rw[kp q];rfl)) U2 ?_;refine Wt U6 ?_;refine WV (s*1) U10 w_ U2 ?_;refine WZ (j:=1) U11 (by show s*1+1<=_;rw[bK bH];omega) ?_;refine Ww [0,5,6] a U ?_;clear a R;refine G.perm (L':=[.arr (s_ l m o) 228 2 m (h.map bG).flatten,.arr (s_ e n f) 32 1 n ((lf b d s k 0).map aP).flatten]) (by rw[<- ya,<- bE bH 0 D,SA];exact List.Perm.swap _ _ _) ?_;refine U0 2 [0,5,6,23] U ?_;refine G.cd (λI=>?_) λI=>?_
 .have Y:qtx k=[48]:=by simpa using I
  have Z:k=0:=gx (Y.trans (by decide +kernel:([48]:List UInt8)=qtx 0));subst Z;have aa:c+0*g=c:=by grind
  refine WK (L':=[.arr (s_ l m o) 228 2 m ((h.set i (c+0*g,s_ e n f)).map bG).flatten,.arr (s_ e n f) 32 1 n ((lf b d s 0 n).map aP).flatten]) (by rw[aa,yc (j:=n),KC q]) ?_;refine WE (Yu U  ?_);exact⟨U,U⟩
 refine WM [0,1,2,3,4,5,6,7,8,9,10,11,12] [(8,1),(9,1)] U kr_ (λR r a=>?_);refine Wv 4 U ?_;refine Xa ah U6 (λ_=>(by rw[Fg q];rfl)) U2 ?_;refine Wv 2 U ?_;refine Ws (bkT H 1) U8 ?_;refine WN (λ_=>(cX _ t.m_ k g 50 dc_ dc_ v B)) U9 ?_;refine WN (λ_=>(fS _ t.m_ c (k*g) 100 dc_ dc_ (S.le dc_) ((fU v B).le dc_))) U9 ?_;refine Wv 2 U ?_;refine WZ (j:=0) U11 (by show i*2+1<=_;rw[bK ii];have:=(R0.1 q).1;omega) ?_;refine Ww [0,5,6] a U ?_;clear a r R;refine WK (L':=[.arr (s_ l m o) 228 2 m ((h.set i (c+k*g,s_ e n f)).map bG).flatten,.arr (s_ e n f) 32 1 n ((lf b d s k 0).map aP).flatten]) (by rw[<- AK q];rfl) ?_;have J:(h.set i (c+k*g,s_ e n f))[i]?=some (c+k*g,s_ e n f):=Vq (R0.1 q).1;refine U1 1 U λR a=>?_;refine Ws (bkT H 1) U8 ?_;refine C6 2 [0,6,37,38,39] a U ?_;clear a R;refine G.loop (λfr C' p μ=>∃(j:Nat),(j<=n)/\fr=[(0,[],.pointer (some ⟨l,i*2,none⟩)),(6,[],ag (qtx k)),(37,[],.slice V d.length W),(38,[],i_ d.length),(39,[],i_ j)]/\p=[.arr (s_ l m o) 228 2 m ((h.set i (c+k*g,s_ e n f)).map bG).flatten,.arr (s_ e n f) 32 1 n ((lf b d s k j).map aP).flatten]/\μ=n-j) (hn_ [0,6,37,38,39] U) ⟨0,SM _,U,U,U⟩ (λfr ap aq m K hI=>?_);obtain⟨j,hj,rfl,rfl,rfl⟩:=hI;refine U0 1 [0,6,37,38,39,40] U ?_;refine G.cd (λw=>?_) λw=>?_
 .have L:j<n:=by
   have:=aT w;omega
  let⟨x,y⟩:∃x,d[j]?=some x:=⟨d[j]'om_,aj om_⟩;have M:QB 50 x:=T x (aK y);have N:d.getD j 0=x:=by rw[al,y];rfl
  have ab:(lf b d s k j)[j]?=some (zF b s j):=by
   rw[uV om_,aF (Nat.lt_irrefl _)];congr 1;grind
  have qz:=Ql (s:=s) A (show j<b.length by omega);have O:=CZ (bf:=d) (s:=s) (k:=k) (show j<b.length by omega);rw[N]at O;refine U1 1 U λR a=>?_;refine WG r.m_ U10 om_ (dL y) fl_ (λau ac=>?_);refine Ws ac U8 ?_;refine C6 2 [0,6,7,8,37,38,39] a U ?_;clear a R;refine U0 2 [0,6,7,8,37,38,39,45] U ?_;refine G.cd (λQ=>?_) λQ=>?_
  .refine WM [0,1,2,3,4,5,6,7,8,9,10,11,12,13,14,15,16,17] [(14,1),(15,1)] U kr_ (λR r a=>?_);refine Wv 3 U ?_;refine Xa ah U6 (λ_=>(by rw[kp J];rfl)) U2 ?_;refine Wv 4 U ?_;refine Xa ah U6 (λ_=>(by rw[kp J];rfl)) U2 ?_;refine Wt U6 ?_;refine WV (j*1) U10 w_ U2 ?_;refine Xa af U6 (λ_=>(by rw[da bH ab];rfl)) U2 ?_;refine Wv 2 U ?_;refine WN (λ_=>(cX _ t.m_ k x 50 dc_ dc_ v M)) U9 ?_;refine WN (λ_=>(fS _ t.m_ (zF b s j) (k*x) 100 dc_ dc_ (qz.le dc_) ((fU v M).le dc_))) U9 ?_;refine WV (j*1) U10 w_ U2 ?_;refine WZ (j:=1) U11 (by show j*1+1<=_;rw[bK bH,ix];omega) ?_;refine Ww [0,6,37,38,39] a U ?_;clear a r R;refine Wu λR a=>?_;refine Wz _ U U6 ?_;refine C6 1 [0,6,37,38,39] a U ?_;clear a R;refine G.perm (L':=[.arr (s_ l m o) 228 2 m ((h.set i (c+k*g,s_ e n f)).map bG).flatten,.arr (s_ e n f) 32 1 n ((lf b d s k (j+1)).map aP).flatten]) (by rw[<- O,<- bE bH _ (by rw[ix];omega)];exact List.Perm.swap _ _ _) ?_;refine WF (m':=n-(j+1)) om_ K (hn_ [0,6,37,38,39] U) ⟨j+1,om_,U,U,U⟩
  have ad:x=0:=by
   have ae:qtx x=[48]:=by simpa using Q
   exact gx (ae.trans (by decide +kernel:([48]:List UInt8)=qtx 0))
  rw[yd (j:=j) (by rw[N];exact ad)];refine Wu λR a=>?_;refine Wz _ U U6 ?_;refine C6 1 [0,6,37,38,39] a U ?_;clear a R;refine WF (m':=n-(j+1)) om_ K (hn_ [0,6,37,38,39] U) ⟨j+1,om_,U,U,U⟩
 have L:j=n:=by
  have:=SJ w;omega
 rw[L];refine XD U ?_;exact⟨U,U⟩
def lH (a b:List Rat)(n:Nat):Rat:=Lp.sumN (λk=>a.getD k 0*b.getD k 0) n
theorem Bf {a b:List Rat}(c:∀x∈a,QB 23 x)(d:∀x∈b,QB 23 x):∀i,QB (48*(i+1)) (lH a b i)
|0=>(show QB 20 (0:Rat) from⟨by decide,by decide⟩).le om_
|i+1=>(AA (Bf c d i) (fU (tO (j:=i) c) (tO (j:=i) d))).le om_
theorem yQ {a b:List Rat}{x y:Rat}(c:a[i]?=some x)(d:b[i]?=some y):lH a b (i+1)=lH a b i+x*y:=by
 unfold lH;simp only[Lp.sumN];rw[al,c,al,d];rfl
theorem Ry (C:Mem)(l:Tabs C)(n o:Value)(a b:List Rat)(d:Sl C 1 n (a.map aP))(e:Sl C 1 o (b.map aP))(O:b.length=a.length)(Q:a.length<=150)(p:∀x∈a,QB 23 x)(q:∀x∈b,QB 23 x) :
  Gives cx.P 219 [n,o] C (ag (qtx (lH a b a.length))):=by
 obtain⟨w,z,rfl,A,S,_⟩:=id d;obtain⟨A2,c2,rfl,B,T,_⟩:=id e;have V:=mx_
 simp only[ar]at d e A B⊢;refine Wy func219 37 U3 λw0=>U0 1 [0,1] U<|U0 1 [0,1,5] U<|U0 3 [0,1,5,8,9] U ?_;have E:Value.string ⟨#[48]⟩=ag (qtx (lH a b 0)):=by
  show _=ag (qtx 0);rw[qtx_zero];rfl
 rw[E];refine G.loop (λfr W F H=>∃(i:Nat),(i<=a.length)/\fr=[(0,[],.slice w a.length z),(1,[],.slice A2 b.length c2),(5,[],ag (qtx (lH a b i))),(8,[],i_ a.length),(9,[],i_ i)]/\F=[]/\H=a.length-i) (hn_ [0,1,5,8,9] U) ⟨0,SM _,U,U,U⟩ (λfr X Y m r I=>?_);obtain⟨i,Z,rfl,rfl,rfl⟩:=I;refine U0 1 [0,1,5,8,9,10] U<|G.cd (λg=>?_) λg=>?_
 .have s:i<a.length:=by
   have:=aT g;omega
  let⟨x,f⟩:∃x,a[i]?=some x:=⟨a[i]'om_,aj om_⟩;let⟨y,hy⟩:∃y,b[i]?=some y:=⟨b[i]'om_,aj om_⟩;have t:QB 23 x:=p x (aK f);have u:QB 23 y:=q y (aK hy);have J:=Bf p q i;have v:=yQ f hy;refine U0 2 [0,1,5,6,8,9] U<|U1 2 U λR c=>WG d.m_ U10 om_ (dL f) fl_ λaa K=>Ws K U8<|Wv 4 U<|D.index U10 (λhg=>⟨e.mono mup,by omega,dL hy⟩) fl_ U λab L=>WU U6 L U3<|Wt U6<|WR U8<|Ww [0,1,5,6,8,9,23] c U<|G.cd (λj=>?_) λj=>?_
  .refine WM [0,1,2,3,4,5,6,7,8,9,10,11] [(9,1),(10,1)] U kr_ λR hB c=>Wv 3 U<|WG d.m_ U10 om_ (dL f) fl_ λac M=>Ws M U8<|Wv 2 U<|WG e.m_ U10 om_ (dL hy) fl_ λad N=>Ws N U8<|WN (λ_=>(cX _ l.m_ x y 23 dc_ dc_ t u)) U9<|WN (λ_=>(fS _ l.m_ (lH a b i) (x*y) (48*(i+1)) om_ om_ J ((fU t u).le om_))) U9<|C6 1 [0,1,5,8,9] c U<|Wu λR c=>Wz _ U U6<|C6 1 [0,1,5,8,9] c U ?_;rw[<- v];refine WF (m':=a.length-(i+1)) om_ r (hn_ [0,1,5,8,9] U) ⟨i+1,om_,U,U,U⟩
  have h0:x*y=0:=by
   simp only[V7]at j;rcases j with h|h
   .have k:qtx x=qtx (lH a b 0):=by simpa using h
    rw[gx k,show lH a b 0=0 from rfl];grind
   have k:qtx y=qtx (lH a b 0):=by simpa using h
   rw[gx k,show lH a b 0=0 from rfl];grind
  have h1:lH a b i=lH a b (i+1):=by rw[v,h0];grind
  rw[h1];refine Wu λR c=>Wz _ U U6<|C6 1 [0,1,5,8,9] c U<|WF (m':=a.length-(i+1)) om_ r (hn_ [0,1,5,8,9] U) ⟨i+1,om_,U,U,U⟩
 have s:i=a.length:=by
  have:=SJ g;omega
 exact U0 2 [4] U<|Wx U2<|⟨by rw[s],U⟩
theorem fJ {n:Int}{l:List Str}:ep n l=0 ↔ (l.length:Int)=n/\l.all aS=true:=by
 unfold ep;by_cases h:(l.length:Int)=n
 .rw[aL h];rcases eP (l.all aS) with⟨h1,h2⟩|⟨h1,h2⟩
  .rw[h1];exact⟨λ_=>⟨h,h2⟩,λ_=>rfl⟩
  rw[h1,h2];exact⟨λh=>(by cases h),λh=>(by cases h.2)⟩
 rw[aF h];exact⟨λh=>(by cases h),λh2=>absurd h2.1 h⟩
theorem Hc {n:Int}{r:List Str × Str}:Hd n r=0 ↔ ep n r.1=0/\aS r.2=true:=by
 unfold Hd;by_cases h:ep n r.1=0
 .rw[aF (λa=>a h)];rcases eP (aS r.2) with⟨h1,h2⟩|⟨h1,h2⟩
  .rw[h1];exact⟨λ_=>⟨h,h2⟩,λ_=>rfl⟩
  rw[h1,h2];exact⟨λh=>(by cases h),λh=>(by cases h.2)⟩
 rw[aL h];exact⟨λh2=>absurd h2 h,λh2=>absurd h2.1 h⟩
def zI (rs:List (List Rat × Rat))(ps:List Rat)(n:Nat):Nat->List Int
|0=>[]
|i+1=>if (rs.getD i ([],0)).2<lH (rs.getD i ([],0)).1 ps n then zI rs ps n i++[(i:Int)] else zI rs ps n i
theorem B8 (a:List (List Rat × Rat))(b:List Rat)(n:Nat):∀i,(zI a b n i).length<=i
|0=>SH _
|i+1=>by
  have:=B8 a b n i;unfold zI;split
  .rw[SP,SN];omega
  omega
theorem zL (C:Mem)(k:Tabs C)(n:Nat)(N O Q:Value)(a:List (List Rat × Rat))(e:List Str)(o b:List Rat)(S:RowsT C N (a.map dw))(T:Sl C 1 O ((o.map qtx).map kL))(ag:JM (a.map dw))(f:RowsQ n a)(hz:D9 n (a.map dw) (o.map qtx)=0)
  (hn:n<=60) (qc:∀x∈o,QB 23 x) (V:Sl C 1 Q (e.map kL)) (ai:∀s∈e,s.length<=999998) (ak:e.all aS=true->e=b.map qtx/\∀x∈b,QB 23 x) :
  Pur cx.P 154 [.agg ⟨[i_ n,N,O]⟩,Q] C λu _D=>∃A m c,u=.tuple #[.slice A m c,i_ (ep n e)]/\(ep n e=0->m=(zI a b n a.length).length):=by
 have W:=S;have X:=T;have v:=V;let⟨vs,Y,am,y⟩:=S;obtain⟨A0,c0,rfl,an,ax,_⟩:=id y;obtain⟨A1,c1,rfl,az,aA,_⟩:=id T;obtain⟨A2,c2,rfl,aB,aC,_⟩:=id V;have aD:=mx_
 have aE:=f.m;simp only[jS Y,ar]at y an W X v Y⊢;refine Wy func154 45 U3 λw0=>Wu λR d=>WH U6 λb2=>C6 2 [1,2] d U<|G.freeze 0 U λ_ _ z=>Wu λR d=>Ws (bkT z 3) U8<|WC (ml _ k.m_ (n:Nat) _ _ (a.map dw) (o.map qtx) W.m_ X.m_ ag (λs hs=>by
  obtain⟨q,f,rfl⟩:=SL.1 hs;exact SV (aV (qc q f) dc_) dc_)) U7 fl_ ?_
 refine C6 1 [1,2,6] d U<|U0 2 [1,2,6,14] U<|G.cd (λZ=>?_) λZ=>?_
 .simp[hz]at Z
 refine U1 2 U λR d=>Ws (bkT z 1) U8<|WD (pj _ k.m_ _ (n:Nat) e v.m_ ai) U7<|C6 1 [1,2,7] d U<|U0 2 [1,2,7,21] U<|G.cd (λB=>?_) λB=>?_
 .have p:ep (n:Nat) e≠0:=by simpa using B
  refine U0 3 [4,5] U<|WE (zD U3 ?_);exact⟨U,none,0,0,U,λh=>absurd h p⟩
 have p:ep (n:Nat) e=0:=by simpa using B
 let⟨ao,ap⟩:=fJ.1 p;let⟨aa,qp⟩:=ak ap;have aG:b.length=n:=by
  rw[aa,ar]at ao;omega
 refine U0 1 [1,2,8] U<|U1 1 U λR d=>Ws (bkT z 1) U8<|C6 2 [1,8,24,25,26] d U<|G.nilArr 3 1<|G.loop (λfr C' L' μ=>∃(i:Nat)(E:Value),(i<=a.length)/\fr=[(1,[],.slice A2 e.length c2),(8,[],E),(24,[],.slice A0 a.length c0),(25,[],i_ a.length),(26,[],i_ i)]/\L'=[.arr E 3 1 (zI a b n i).length ((zI a b n i).map oc).flatten]/\μ=a.length-i) (hn_ [1,8,24,25,26] U) ⟨0,.slice none 0 0,SM _,U,U,U⟩ (λfr aH aI m _ hI=>?_);obtain⟨i,E,hi,rfl,rfl,rfl⟩:=hI;refine U0 1 [1,8,24,25,26,27] U<|G.cd (λF=>?_) λF=>?_
 .have H:i<a.length:=by
   have:=aT F;omega
  let⟨r,I⟩:∃r,a[i]?=some r:=⟨a[i],aj H⟩;have ab:(a.map dw)[i]?=some (dw r):=by rw[SI,I];rfl
  let⟨w,t⟩:∃w,vs[i]?=some w:=⟨vs[i]'om_,aj _⟩;have ac:=aK I;have ad:=am i w (dw r) t ab;obtain⟨aJ,aM,rfl,_,_,_⟩:=id ad;have J:=f.l r ac;have K:=f.q r ac;have ae:a.getD i ([],0)=r:=by rw[al,I];rfl
  have aq:=Bf K.1 qp n;have aN:=B8 a b n i;refine U1 1 U λR d=>WG y.m_ U10 om_ (pL t ab) fl_ λaO au=>Ws au U8<|WI U5 λaP=>Wt U6<|WB (j:=0) U12<|Ww [1,8,9,10,24,25,26] d U<|G.freeze 0 U λ_ _ af=>WM [0,1,2,3,4,5,6,7] [(3,1),(6,1)] U kr_ λR hB d=>Wt U6<|Ws (bkT af 1) U8<|Wt U6<|WN (λ_=>(Ry _ k.m_ _ _ r.1 b (by rw[fy];exact ad.mono mup) (by rw[fy,<- aa];exact v.mono mup) om_ om_ K.1 qp)) U9<|Wt U6<|Ws (bkT af 1) U8<|WN (λ_=>(fR _ k.m_ (lH r.1 b r.1.length) r.2 (48*(n+1)) om_ om_ (by rw[J];exact aq) (K.2.le om_))) U9<|C6 1 [1,8,9,24,25,26,38] d U<|G.cd (λg=>?_) λg=>?_
  .have L:r.2<lH r.1 b n:=by
    rw[J]at g;have h:=aT g;unfold oo at h;split at h
    .omega
    split at h
    .next h2=>exact h2
    omega
   have M:zI a b n (i+1)=zI a b n i++[(i:Int)]:=by
    show(if _ then _ else _)=_;rw[ae,aL L]
   refine U1 2 U λR d=>WP [oc i] U12 λaQ _ _ av=>D.append (j:=0) U11 av U ay (by simp only[SN];omega) fl_ λaw=>C6 1 [1,8,24,25,26] d U<|Wu λR d=>Wz _ U U6<|C6 1 [1,8,24,25,26] d U<|WK (L':=[.arr aw 3 1 (zI a b n (i+1)).length ((zI a b n (i+1)).map oc).flatten]) (by rw[M];simp)<|WF (m':=a.length-(i+1)) om_ mup (hn_ [1,8,24,25,26] U) ⟨i+1,_,om_,U,U,U⟩
  have L:¬ r.2<lH r.1 b n:=by
   rw[J]at g;have h:=SJ g;intro h2;have h3:oo (lH r.1 b n) r.2=1:=by
    unfold oo;rw[aF (by grind),aL h2]
   rw[h3]at h;exact h dc_
  have M:zI a b n (i+1)=zI a b n i:=by
   show(if _ then _ else _)=_;rw[ae,aF L]
  rw[<- M];refine Wu λR d=>Wz _ U U6<|C6 1 [1,8,24,25,26] d U<|WF (m':=a.length-(i+1)) om_ mup (hn_ [1,8,24,25,26] U) ⟨i+1,_,om_,U,U,U⟩
 have H:i=a.length:=by
  have:=SJ F;omega
 refine U0 3 [4,5] U<|Ys ah λAw cw t _ _ _=>WE (zD U3 ?_);exact⟨U,Aw,_,cw,by rw[t,p],λ_=>by rw[H]⟩
def R2 (n:Nat)(rs:List (List Rat × Rat))(ds cs:List Rat):Prop:=∀j,j<n->wH rs ds j rs.length+cs.getD j 0=0
open Classical in
noncomputable def wn (n:Nat)(rs:List (List Rat × Rat))(d:List Str)(ds cs:List Rat):Int :=
 if xk rs.length d ds≠0 then xk rs.length d ds else if ¬ R2 n rs ds cs then 23 else if aS (qtx (-BE rs ds rs.length)) then 0 else 4
noncomputable def Ge (n:Nat)(rs:List (List Rat × Rat))(d:List Str)(ds cs:List Rat):Str:=if wn n rs d ds cs=0 then qtx (-BE rs ds rs.length) else []
theorem OK {k:Nat}{q:Rat}(h:QB k q):QB k (-q):=⟨by rw[V2];have:=h.1;omega,h.2⟩
theorem Eg (C:Mem)(l:Tabs C)(n:Nat)(E F H:Value)(a:List (List Rat × Rat))(d:List Str)(c b:List Rat)(I:RowsT C E (a.map dw))(J:Sl C 1 F ((c.map qtx).map kL))(Y:JM (a.map dw))(i:RowsQ n a)(Z:D9 n (a.map dw) (c.map qtx)=0)
  (aq:c.length=n) (hn:n<=60) (K:∀x∈c,QB 23 x) (L:Sl C 1 H (d.map kL)) (aa:∀s∈d,s.length<=999998) (M:d.all aS=true->d=b.map qtx/\∀x∈b,QB 23 x) :
  Gives cx.P 45 [.agg ⟨[i_ n,E,F]⟩,.agg ⟨[H]⟩] C (.tuple #[ag (Ge n a d b c),i_ (wn n a d b c)]):=by
 have r:=I;have t:=J;have N:=L;let⟨vs,O,au,Q⟩:=I;obtain⟨A0,c0,rfl,ab,av,_⟩:=id Q;obtain⟨A1,c1,rfl,aw,ax,_⟩:=id J;obtain⟨A2,c2,rfl,ay,az,_⟩:=id L;have aA:=mx_
 have aB:=i.m;simp only[jS O,ar]at Q ab r t N O⊢;refine Wy func45 48 U3 λw0=>Wu λR e=>WH U6 λb2=>WH U6 λb3=>C6 2 [2,3] e U<|G.freeze 1 U λ_ _ u=>G.freeze 0 U λ_ _ ac=>Wu λR e=>Ws (bkT u 3) U8<|WC (ml _ l.m_ (n:Nat) _ _ (a.map dw) (c.map qtx) r.m_ t.m_ Y (λs hs=>by
  obtain⟨q,i,rfl⟩:=SL.1 hs;exact SV (aV (K q i) dc_) dc_)) U7 fl_ ?_
 refine C6 1 [2,3,6] e U<|U0 2 [2,3,6,15] U<|G.cd (λS=>?_) λS=>?_
 .simp[Z]at S
 refine Wu λR e=>Ws (bkT u 3) U8<|Ws (bkT ac 1) U8<|WT (K0 _ l.m_ n _ _ _ a d b r.m_ i om_ N.m_ aa M) U7 fl_ (λaC _ _ ad=>?_);obtain⟨fv,bt,rfl,ae⟩:=ad;refine C6 7 [2,7,8,9] e U<|U0 2 [2,7,8,9,25] U<|G.cd (λv=>?_) λv=>?_
 .have hs:xk a.length d b≠0:=by simpa using v
  have g:wn n a d b c=xk a.length d b:=aL hs;refine U0 3 [4,5] U<|WE (zD U3 ?_);exact⟨by unfold Ge;rw[g,aF hs];rfl,U⟩
 have k:xk a.length d b=0:=by simpa using v
 have w:¬ xk a.length d b≠0:=λh=>h k;let⟨z,af⟩:=ae k;subst af;have ah:d.all aS=true:=by
  unfold xk at k;split at k
  .rename_i h1;exact absurd k h1
  rename_i h1;have h2:ep (a.length:Nat) d=0:=by simpa using h1
  exact(fJ.1 h2).2
 have qd:=(M ah).2;have T:=BD i qd a.length;obtain⟨A3,c3,rfl,ai,_,_⟩:=id z;simp only[ar,eN]at z ai;refine U0 3 [2,8,27,28,29] U ?_;rw[ar,eN];refine G.loop (λfr C' L' μ=>∃(j:Nat),(j<=n/\∀f,f<j->wH a b f a.length+c.getD f 0=0)/\fr=[(2,[],p_ b2),(8,[],ag (qtx (BE a b a.length))),(27,[],.slice A3 n c3),(28,[],i_ n),(29,[],i_ j)]/\L'=[]/\μ=n-j) (hn_ [2,8,27,28,29] U) ⟨0,⟨SM _,λf h=>absurd h (Nat.not_lt_zero _)⟩,U,U,U⟩ (λfr aD aE m ak hI=>?_);obtain⟨j,⟨hj,V⟩,rfl,rfl,rfl⟩:=hI;refine U0 1 [2,8,27,28,29,30] U<|G.cd (λA=>?_) λA=>?_
 .have o:j<n:=by
   have:=aT A;omega
  have hx:(wG n a b a.length 0)[j]?=some (wH a b j a.length):=by rw[lk o,aF (Nat.not_lt_zero _)]
  let⟨y,hy⟩:∃y,c[j]?=some y:=⟨c[j]'om_,aj om_⟩;have W:c.getD j 0=y:=by rw[al,hy];rfl
  have qy:QB 23 y:=K y (aK hy);have qf:=Bd i qd j a.length;refine U1 1 U λR e=>WG z.m_ U10 om_ (dL hx) fl_ λaG am=>Ws am U8<|C6 2 [2,8,10,11,27,28,29] e U<|U1 2 U λR e=>Ws (bkT u 1) U8<|Wt U6<|WG (Sl.mono (by rw[fy];exact t) mup) U10 om_ (dL hy) fl_ λaH an=>Ws an U8<|WC (fS _ l.m_ (wH a b j a.length) y (48*(a.length+1)) om_ om_ qf (qy.le om_)) U7 fl_<|C6 1 [2,8,27,28,29,41] e U<|G.cd (λp=>?_) λp=>?_
  .have ao:¬ R2 n a b c:=λhb=>by
    have h0:=hb j o;rw[W]at h0;rw[h0,qtx_zero]at p;simp at p
   have g:wn n a d b c=23:=by unfold wn;rw[aF w,aL ao]
   refine U0 2 [4,5] U<|WE (zD U3 ?_);exact⟨by unfold Ge;rw[g];rfl,U⟩
  have h0:qtx (wH a b j a.length+y)=[48]:=by simpa using p
  have h1:=gx (h0.trans qtx_zero.symm);have ap:∀f,f<j+1->wH a b f a.length+c.getD f 0=0:=λf h2=>by
   rcases Nat.lt_or_eq_of_le (Nat.le_of_lt_succ h2) with h3|h3
   .exact V f h3
   rw[h3,W];exact h1
  refine Wu λR e=>Wz _ U U6<|C6 1 [2,8,27,28,29] e U<|WF (m':=n-(j+1)) om_ ak (hn_ [2,8,27,28,29] U) ⟨j+1,⟨by omega,ap⟩,U,U,U⟩
 have o:j=n:=by
  have:=SJ A;omega
 subst o;have X:R2 j a b c:=V;refine U1 1 U λR e=>WC (fu _ _ (SV (aV T om_) om_)) U7 fl_<|C6 1 [8] e U<|U1 1 U λR e=>WC (mi _ l.m_ _ (SV (aV (OK T) om_) om_)) U7 fl_<|Ww [8,46] e U<|G.cd (λB=>?_) λB=>?_
 .have D:aS (qtx (-BE a b a.length))=false:=by simpa using B
  have g:wn j a d b c=4:=by unfold wn;rw[aF w,aF (λh=>h X),D];rfl
  refine U0 2 [4,5] U<|WE (zD U3 ?_);exact⟨by unfold Ge;rw[g];rfl,U⟩
 have D:aS (qtx (-BE a b a.length))=true:=by simpa using B
 have g:wn j a d b c=0:=by unfold wn;rw[aF w,aF (λh=>h X),D];rfl
 refine U0 3 [4,5] U<|WE (zD U3 ?_);exact⟨by unfold Ge;rw[g,aL rfl],U⟩
theorem vj {l:List Nat}{x:Nat}(h:l[i]?=some x):(l.map aX)[i]?=some (aX x):=by rw[SI,h];rfl
theorem yy {l:List Nat}{q:Nat->Prop}(h:Lp.LeastR l q n o):o=-1∨∃i:Nat,o=i/\i<n:=by
 cases h with
|none _=>exact .inl rfl
|some i a _ _=>exact .inr ⟨i,rfl,a⟩
theorem pn (C:Mem)(v:Value)(l:List Nat)(g:Nat)(f:List Value)(q:Nat->Bool)(d:Sl C 1 v (l.map aX))(_O:Jog.Enters cx.P g=true)
  (E:∀i,i<l.length->∀D:Mem,C.le D->Gives cx.P g (i_ i::f) D (.bool (q i))) :
  Pur cx.P 206 [v,.func (.func g) #[] ⟨f⟩] C λu _=>∃o:Int,u=i_ o/\Lp.LeastR l (λi=>q i=true) l.length o:=by
 obtain⟨s,c0,rfl,F,Q,_⟩:=id d;have S:=mx_
 simp only[ar]at d F⊢;refine Wy func206 33 U3 λw0=>U0 1 [0,1] U<|U0 1 [0,1,5] U<|U0 3 [0,1,5,8,9,10] U<|G.loop (λfr T H I=>∃(i:Nat)(o:Int),(i<=l.length/\Lp.LeastR l (λi=>q i=true) i o)/\fr=[(0,[],.slice s l.length c0),(1,[],.func (.func g) #[] ⟨f⟩),(5,[],i_ o),(8,[],.slice s l.length c0),(9,[],i_ l.length),(10,[],i_ i)]/\H=[]/\I=l.length-i) (hn_ [0,1,5,8,9,10] U) ⟨0, -1,⟨SM _,.none λj J=>absurd J (Nat.not_lt_zero _)⟩,U,U,U⟩ (λfr V W m t K=>?_);obtain⟨i,o,⟨X,a⟩,rfl,rfl,rfl⟩:=K;refine U0 1 [0,1,5,8,9,10,11] U<|G.cd (λk=>?_) λk=>?_
 .have e:i<l.length:=by
   have:=aT k;omega
  let⟨x,w⟩:∃x,l[i]?=some x:=⟨l[i],aj e⟩;have y:l.getD i 0=x:=by rw[al,w];rfl
  have n:=yy a;have L:¬ o<0->(l.map aX)[o.toNat]?=some (aX (l.getD o.toNat 0)):=λh=>by
   rcases n with h1|⟨z,h1,h2⟩
   .omega
   rw[h1,UD];exact vj (by rw[al,aj om_];rfl)
  refine U1 1 U λR b=>WG d.m_ U10 om_ (vj w) fl_ λY M=>Ws M U8<|C6 2 [0,1,5,6,7,8,9,10] b U<|U1 2 U λR b=>WD (E i e _ mup) U7<|Wv 7 U<|D.index U10 (λA=>⟨d.mono mup,(by have h:decide (o<0)=false:=A.1;have:=SJ h;omega),L (by have h:decide (o<0)=false:=A.1;exact SJ h)⟩) fl_ U λZ N=>WU U6 N U3<|Wt U6<|WX U8<|WR U8<|Ww [0,1,5,6,8,9,10,29] b U<|G.cd (λp=>?_) λp=>?_
  .have c:q i=true/\(o<0∨x<l.getD o.toNat 0):=by
    simpa using p
   have r:Lp.LeastR l (λi=>q i=true) (i+1) i:=by
    rcases n with h1|⟨z,h1,h2⟩
    .rw[h1]at a;exact a.first c.1
    rw[h1]at a c;refine a.less c.1 ?_;rw[y];rcases c.2 with h3|h3
    .omega
    exact h3
   refine U0 2 [0,1,5,8,9,10] U<|Wu λR b=>Wz _ U U6<|C6 1 [0,1,5,8,9,10] b U<|WF (m':=l.length-(i+1)) om_ t (hn_ [0,1,5,8,9,10] U) ⟨i+1,_,⟨by omega,r⟩,U,U,U⟩
  have c:q i=true->¬ (o<0∨x<l.getD o.toNat 0):=by
   simpa using p
  have r:Lp.LeastR l (λi=>q i=true) (i+1) o:=by
   by_cases B:q i=true
   .have h3:=c B;rcases n with h1|⟨z,h1,h2⟩
    .exact absurd (.inl om_) h3
    rw[h1]at a h3⊢;refine a.keep ?_;rw[y];exact λh=>h3 (.inr h)
   exact a.no B
  refine Wu λR b=>Wz _ U U6<|C6 1 [0,1,5,8,9,10] b U<|WF (m':=l.length-(i+1)) om_ t (hn_ [0,1,5,8,9,10] U) ⟨i+1,_,⟨by omega,r⟩,U,U,U⟩
 have e:i=l.length:=by
  have:=SJ k;omega
 exact U0 2 [4] U<|Wx U2<|⟨U,o,U,by rw[<- e];exact a⟩
structure TabV (D:Mem)(b n:Nat)(t:Lp.Tab)(wB wL wO wW:Value)(wF:List Value):Prop where
 o:D b=some (.cells ⟨[.int .i64 n,wB,wL,wO,ag (qtx t.worth.c),wW]⟩ 231 (0,0))
 B:Sl D 1 wB (t.basic.map aX)
 O:Sl D 1 wO (t.others.map aX)
 W:Sl D 1 wW (t.worth.f.map aP)
 L:Sl D 2 wL (List.zipWith (λ(l:Lp.Line) w=>[ag (qtx l.c),w]) t.lines wF)
 fl:wF.length=t.lines.length
 F:∀(i:Nat)(l:Lp.Line)(w:Value),t.lines[i]?=some l->wF[i]?=some w->Sl D 1 w (l.f.map aP)
theorem TabV.mono {D E:Mem}{b n:Nat}{t:Lp.Tab}{c d e f:Value}{g:List Value}(h:TabV D b n t c d e f g)(a:D.le E):TabV E b n t c d e f g :=
 ⟨a _ _ h.o,h.B.mono a,h.O.mono a,h.W.mono a,h.L.mono a,h.fl,λi l w h1 h2=>(h.F i l w h1 h2).mono a⟩
theorem TabV.m_ {D E:Mem}{a:List Value}(h:TabV D b n t wB wL wO wW a)(c:D.le E:=by exact mup):TabV E b n t wB wL wO wW a:=TabV.mono h c
theorem fB (C:Mem)(b n v:Nat)(t:Lp.Tab)(a c d e:Value)(f:List Value)(h:TabV C b n t a c d e f) :
  Gives cx.P 203 [p_ b,i_ v] C (.bool (decide (n<=v))):=by
 refine Wy func203 11 U3 λw0=>U0 1 [0,1] U<|U1 4 U λR g=>Ws (PtrTo.blockT (h.m_.o) _ 1) U8<|C6 2 [4] g U<|Wx U2<|⟨?_,U⟩;congr 1;rw[Tx];omega
theorem ft {l:List Nat}(h:i<l.length):(l.map aX)[i]?=some (aX (l.getD i 0)):=vj (by rw[al,aj h];rfl)
theorem dT {l:List Rat}(h:i<l.length):(l.map aP)[i]?=some (aP (l.getD i 0)):=dL (by rw[al,aj h];rfl)
theorem ko {ls:List Lp.Line}{ws:List Value}(h:i<ls.length)(a:ws.length=ls.length):(List.zipWith (λ(l:Lp.Line) w=>[ag (qtx l.c),w]) ls ws)[i]?=some [ag (qtx (ls.getD i ⟨0,[]⟩).c),ws.getD i (.slice none 0 0)]:=by
 rw[List.getElem?_zipWith,aj h,aj (show i<ws.length by omega),al,al,aj h,aj (show i<ws.length by omega)];rfl
theorem LU (C:Mem)(a b n i N:Nat)(t:Lp.Tab)(j k e f:Value)(g:List Value)(h:TabV C b n t j k e f g)(l:t.Ok N)(d:C a=some (.cells ⟨[p_ b]⟩ 221 (0,0)))(m:i<t.basic.length)(p:QB 50 (t.line i).c) :
  Gives cx.P 207 [i_ i,p_ a] C (.bool (decide (n<=t.bas i) && decide ((t.line i).c<0))):=by
 obtain⟨v,w,rfl,x,y,_⟩:=id h.B;obtain⟨A2,c2,rfl,z,A,_⟩:=id h.L;have E:=mx_
 have F:=l.ll;exact Wy func207 25 U3 λw0=>U0 1 [0,1] U<|WM [0,1,2,3,4,5,6,7,8,9,10,11,12,13,14,15,16,17,18,19,20,21] [(8,1)] U kr_ λR G q=>Ws (bkT d 1) U8<|Ws (bkT d 1) U8<|Wv 2 U<|Ws (PtrTo.blockT (h.m_.o) _ 1) U8<|Wt U6<|WG h.B.m_ U10 om_ (ft m) fl_ λH r=>Ws r U8<|W5 (λ_=>(fB _ b n (t.bas i) t _ _ e f g h.m_)) U9<|Wt U6<|WU U6 (λ_=>PtrTo.blockT (Mem.get d mup) _ 1) U3<|Wv 2 U<|WU U6 (λ_=>PtrTo.blockT (h.m_.o) _ 1) U3<|Wt U6<|D.index U10 (λI=>⟨h.L.mono mup,by omega,ko om_ h.fl⟩) fl_ U λJ s=>X4 U U U U U U U U U U s fl_ U λK u=>WU U6 u U3<|WN (λ_=>(fE _ (t.line i).c (SV (aV p dc_) dc_))) U9<|Wt U6<|WR U8<|C6 1 [3] q U<|Wx U2<|⟨by rw[vk],U⟩
theorem uY (q:Rat):decide (0<eA q.num)=decide (0<q):=by
 have h:0<q.num ↔ 0<q:=by rw[Rat.lt_iff];simp
 rw[Tx];unfold eA;by_cases h1:q.num<0
 .rw[aL h1];exact⟨λh2=>absurd h2 dc_,λh2=>absurd (h.2 h2) om_⟩
 rw[aF h1];by_cases h2:q.num=0
 .rw[aL h2];exact⟨λh3=>absurd h3 dc_,λh3=>absurd (h.2 h3) om_⟩
 rw[aF h2];exact⟨λ_=>h.1 om_,λ_=>by decide⟩
theorem mH {a:List Value}(h:TabV C b n t wB wL wO wW a)(c:t.Ok N)(d:i<t.basic.length):Sl C 1 (a.getD i (.slice none 0 0)) ((t.line i).f.map aP)/\(t.line i).f.length=t.others.length:=by
 have e:=c.ll;have g:=h.fl;refine⟨?_,c.fl _ (Lp.line_mem c d)⟩;refine h.F i _ _ (show t.lines[i]?=some (t.line i) from ?_) (show a[i]?=some _ from ?_)
 .unfold Lp.Tab.line;rw[al,aj om_];rfl
 rw[al,aj om_];rfl
theorem LS (C:Mem)(a j b n i r N:Nat)(t:Lp.Tab)(p q s k:Value)(c:List Value)(h:TabV C b n t p q s k c)(d:t.Ok N)(e:C a=some (.cells ⟨[p_ b]⟩ 221 (0,0)))(u:C j=some (.cells ⟨[i_ r]⟩ 3 (0,0)))
  (l:r<t.basic.length) (v:i<t.others.length) (w:QB 50 ((t.line r).g i)) :
  Gives cx.P 208 [i_ i,p_ a,p_ j] C (.bool (decide (n<=t.oth i) && decide (0<(t.line r).g i))):=by
 obtain⟨G,H,rfl,I,J,_⟩:=id h.O;obtain⟨A2,c2,rfl,K,M,_⟩:=id h.L;let⟨f,Q⟩:=mH h d l;let⟨S,T,x,V,W,_⟩:=id f;have m:=ko (ls:=t.lines) (ws:=c) (i:=r) (by rw[d.ll];exact l) h.fl;rw[x]at m f;have X:=mx_
 have Y:=d.ll;exact Wy func208 29 U3 λw0=>U0 1 [0,1,2] U<|WM [0,1,2,3,4,5,6,7,8,9,10,11,12,13,14,15,16,17,18,19,20,21,22,23,24] [(8,1)] U kr_ λR Z y=>Ws (bkT e 1) U8<|Ws (bkT e 1) U8<|Wv 2 U<|Ws (PtrTo.blockT (h.m_.o) _ 1) U8<|Wt U6<|WG h.O.m_ U10 om_ (ft v) fl_ λaa z=>Ws z U8<|W5 (λ_=>(fB _ b n (t.oth i) t _ _ _ k c h.m_)) U9<|Wt U6<|WU U6 (λ_=>PtrTo.blockT (Mem.get e mup) _ 1) U3<|Wv 2 U<|WU U6 (λ_=>PtrTo.blockT (h.m_.o) _ 1) U3<|WU U6 (λ_=>PtrTo.blockT (Mem.get u mup) _ 1) U3<|D.index U10 (λA=>⟨h.L.mono mup,by omega,m⟩) fl_ U λab B=>X4 U U U U U U U U U U B fl_ U λac E=>WU U6 E U3<|Wt U6<|D.index U10 (λA=>⟨f.mono mup,by omega,dT om_⟩) fl_ U λad F=>WU U6 F U3<|WN (λ_=>(fE _ ((t.line r).g i) (SV (aV w dc_) dc_))) U9<|Wt U6<|WR U8<|C6 1 [4] y U<|Wx U2<|⟨by rw[<- uY],U⟩
theorem Pc (C:Mem)(a b n i N:Nat)(t:Lp.Tab)(e f j k:Value)(d:List Value)(h:TabV C b n t e f j k d)(l:t.Ok N)(c:C a=some (.cells ⟨[p_ b]⟩ 221 (0,0)))(m:i<t.others.length) :
  Gives cx.P 209 [i_ i,p_ a] C (.bool (!decide (n<=t.oth i) && !decide (t.worth.g i=0))):=by
 obtain⟨s,u,rfl,v,w,_⟩:=id h.O;obtain⟨A2,c2,rfl,x,y,_⟩:=id h.W;have z:=mx_
 have A:=l.wl;refine Wy func209 25 U3 λw0=>U0 1 [0,1] U<|WM [0,1,2,3,4,5,6,7,8,9,10,11,12,13,14,15,16,17,18,19,20,21] [(8,1)] U kr_ λR B p=>Ws (bkT c 1) U8<|Ws (bkT c 1) U8<|Wv 2 U<|Ws (PtrTo.blockT (h.m_.o) _ 1) U8<|Wt U6<|WG h.O.m_ U10 om_ (ft m) fl_ λE q=>Ws q U8<|W5 (λ_=>(fB _ b n (t.oth i) t _ _ _ _ d h.m_)) U9<|Wv 2 U<|WU U6 (λ_=>PtrTo.blockT (Mem.get c mup) _ 1) U3<|Wv 3 U<|WU U6 (λ_=>PtrTo.blockT (h.m_.o) _ 1) U3<|Wt U6<|D.index U10 (λF=>⟨h.W.mono mup,by omega,dT om_⟩) fl_ U λG r=>WU U6 r U3<|Wt U6<|WR U8<|C6 1 [3] p U<|Wx U2<|⟨?_,U⟩;show Value.bool _=Value.bool _;congr 1;congr 1;show(!((⟨(qtx (t.worth.g i)).toArray⟩:ByteArray).data.toList == (⟨#[48]⟩:ByteArray).data.toList))=_;rw[eV]
theorem Pb (C:Mem)(a b n i N:Nat)(t:Lp.Tab)(e f j k:Value)(d:List Value)(h:TabV C b n t e f j k d)(l:t.Ok N)(c:C a=some (.cells ⟨[p_ b]⟩ 221 (0,0)))(m:i<t.others.length)(p:QB 50 (t.worth.g i)) :
  Gives cx.P 210 [i_ i,p_ a] C (.bool (decide (n<=t.oth i) && decide (t.worth.g i<0))):=by
 obtain⟨u,v,rfl,w,x,_⟩:=id h.O;obtain⟨A2,c2,rfl,y,z,_⟩:=id h.W;have A:=mx_
 have B:=l.wl;exact Wy func210 25 U3 λw0=>U0 1 [0,1] U<|WM [0,1,2,3,4,5,6,7,8,9,10,11,12,13,14,15,16,17,18,19,20,21] [(8,1)] U kr_ λR E q=>Ws (bkT c 1) U8<|Ws (bkT c 1) U8<|Wv 2 U<|Ws (PtrTo.blockT (h.m_.o) _ 1) U8<|Wt U6<|WG h.O.m_ U10 om_ (ft m) fl_ λF r=>Ws r U8<|W5 (λ_=>(fB _ b n (t.oth i) t _ _ _ _ d h.m_)) U9<|Wt U6<|WU U6 (λ_=>PtrTo.blockT (Mem.get c mup) _ 1) U3<|Wv 3 U<|WU U6 (λ_=>PtrTo.blockT (h.m_.o) _ 1) U3<|Wt U6<|D.index U10 (λG=>⟨h.W.mono mup,by omega,dT om_⟩) fl_ U λH s=>WU U6 s U3<|WN (λ_=>(fE _ (t.worth.g i) (SV (aV p dc_) dc_))) U9<|Wt U6<|WR U8<|C6 1 [3] q U<|Wx U2<|⟨by rw[vk],U⟩
theorem uR (n:Nat):List.replicate n (ag [48])=((List.replicate n (0:Rat)).map aP).flatten:=by
 rw[Vr,show aP 0=[ag [48]] by unfold aP;rw[qtx_zero]];induction n with
|zero=>rfl
|succ n a=>rw[TN,TN,TV,<- a];rfl
def ptF (t:Lp.Tab)(n i:Nat):List Rat:=(List.range n).map λv=>if v∈t.basic.take i then t.sol v else 0
theorem nQ :(ptF t n i).length=n:=by simp[ptF]
theorem Hv (h:v<n):(ptF t n i)[v]?=some (if v∈t.basic.take i then t.sol v else 0):=by
 unfold ptF;rw[SI,Tl h];rfl
theorem KY (t:Lp.Tab)(n:Nat):ptF t n 0=List.replicate n 0:=by
 refine List.ext_getElem? λv=>?_;by_cases h:v<n
 .rw[Hv h,T4,aL h,List.take_zero,aF TQ]
 rw[SR (by rw[nQ];omega),SR ap]
theorem lV (h:i<t.basic.length):t.basic.take (i+1)=t.basic.take i++[t.bas i]:=by
 rw[S9];congr 1;unfold Lp.Tab.bas;rw[al,aj h];rfl
theorem OO (b:t.Ok N)(h:i<t.basic.length)(d:t.bas i<n):(ptF t n i).set (t.bas i) (t.line i).c=ptF t n (i+1):=by
 refine List.ext_getElem? λv=>?_;rw[List.getElem?_set,nQ];by_cases a:v<n
 .rw[Hv a,Hv a,lV h];by_cases e:t.bas i=v
  .subst e;rw[aL rfl,aL a,aL am,Lp.sol_bas b h]
  rw[aF e];by_cases hm:v∈t.basic.take i
  .rw[aL hm,aL (by simp[hm])]
  rw[aF hm,aF (by simp[hm];exact λh2=>e h2.symm)]
 rw[aF om_,SR (by rw[nQ];omega),SR (by rw[nQ];omega)]
theorem KZ (h:i<t.basic.length)(a:n<=t.bas i):ptF t n i=ptF t n (i+1):=by
 refine List.map_congr_left λv hm=>?_;have b:=S7.1 hm;rw[lV h];by_cases hm:v∈t.basic.take i
 .rw[aL hm,aL (by simp[hm])]
 rw[aF hm,aF (by simp[hm];omega)]
theorem OP (a:t.Ok N):ptF t n t.basic.length=(List.range n).map t.sol:=by
 refine List.map_congr_left λv _=>?_;rw[SU];split
 .rfl
 next h=>exact(Lp.sol_oth a h).symm
theorem Dg (C:Mem)(b n N:Nat)(t:Lp.Tab)(w x p q:Value)(r:List Value)(h:TabV C b n t w x p q r)(f:t.Ok N)(y:n<=1000000) :
  Jog.Fn cx.P 141 [p_ b] C [] λu _ c=>∃g,u=s_ g n n/\c=[.arr u 32 1 n (((List.range n).map t.sol).map aP).flatten]:=by
 obtain⟨z,s,rfl,A,Q,_⟩:=id h.B;obtain⟨A2,c2,rfl,S,T,_⟩:=id h.L;have E:=h.B;have V:t.basic.length<=s:=by rwa [ar]at A
 have W:=mx_
 have X:=f.ll;have F:=h.fl;refine Wy func141 38 U3 λw0=>U0 1 [0] U<|WQ [(4,3)] U λR a=>Wv 3 U<|Ws (PtrTo.blockT (h.m_.o) _ 1) U8<|D.call (gY _ n y) U (.inr dc_) U6 (SQ _) fl_ (λY _ Z _ H=>?_);obtain⟨g,rfl,rfl⟩:=H;refine C6 1 [0,3] a U<|U1 3 U λR a=>Ws (PtrTo.blockT (h.m_.o) _ 1) U8<|C6 2 [0,3,14,15,16] a U<|WK (L':=[.arr (s_ g n n) 32 1 n ((ptF t n 0).map aP).flatten]) (by rw[KY,<- uR];rfl)<|G.loop (λfr C' c I=>∃(i:Nat),(i<=t.basic.length)/\fr=[(0,[],p_ b),(3,[],s_ g n n),(14,[],.slice z (t.basic.map aX).length s),(15,[],i_ (t.basic.map aX).length),(16,[],i_ i)]/\c=[.arr (s_ g n n) 32 1 n ((ptF t n i).map aP).flatten]/\I=t.basic.length-i) (hn_ [0,3,14,15,16] U) ⟨0,SM _,U,U,U⟩ (λfr aa ab m v J=>?_);obtain⟨i,hi,rfl,rfl,rfl⟩:=J;refine U0 1 [0,3,14,15,16,17] U<|G.cd (λk=>?_) λk=>?_
 .have d:i<t.basic.length:=by
   have:=aT k;rw[ar]at this;omega
  refine U1 1 U λR a=>WG E.m_ U10 om_ (show(t.basic.map aX)[i]?=some (aX (t.bas i)) from ft d) fl_ λac K=>Ws K U8<|C6 2 [0,3,4,5,14,15,16] a U<|U1 2 U λR a=>WD (fB _ b n (t.bas i) t _ _ p q r h.m_) U7<|C6 1 [0,3,4,5,14,15,16,24] a U<|G.cd (λl=>?_) λl=>?_
  .have e:t.bas i<n:=by
    have ad:¬ n<=t.bas i:=by simpa using l
    omega
   refine U1 5 U λR a=>Ws (PtrTo.blockT (h.m_.o) _ 1) U8<|Wt U6<|WG h.L.m_ U10 om_ (ko om_ F) fl_ λae M=>Xv M U10 fl_ λaf O=>Ws O U8<|WV (t.bas i*1) U10 w_ U2<|WZ (j:=0) U11 (by show t.bas i*1+1<=_;rw[bK bH,nQ];omega)<|Ww [0,3,14,15,16] a U<|Wu λR a=>Wz _ U U6<|C6 1 [0,3,14,15,16] a U<|WK (L':=[.arr (s_ g n n) 32 1 n ((ptF t n (i+1)).map aP).flatten]) (by rw[<- OO f d e,<- bE bH _ (by rw[nQ];exact e)];rfl)<|WF (m':=t.basic.length-(i+1)) om_ v (hn_ [0,3,14,15,16] U) ⟨i+1,om_,U,U,U⟩
  have e:n<=t.bas i:=by simpa using l
  rw[KZ d e];refine Wu λR a=>Wz _ U U6<|C6 1 [0,3,14,15,16] a U<|WF (m':=t.basic.length-(i+1)) om_ v (hn_ [0,3,14,15,16] U) ⟨i+1,om_,U,U,U⟩
 have d:i=t.basic.length:=by
  have:=SJ k;rw[ar]at this;omega
 refine U0 2 [2] U<|WE (W6 U U ?_);exact⟨g,U,by rw[d,OP f]⟩
def duF (p:Lp.Sys)(t:Lp.Tab)(l:Lp.Line)(i:Nat):List Rat:=(List.range p.m).map λr=>if p.n+r∈t.others.take i then Lp.dualV p t l r else 0
theorem od :(duF p t l i).length=p.m:=by simp[duF]
theorem I3 {r:Nat}(h:r<p.m):(duF p t l i)[r]?=some (if p.n+r∈t.others.take i then Lp.dualV p t l r else 0):=by
 unfold duF;rw[SI,Tl h];rfl
theorem L4 (p:Lp.Sys)(t:Lp.Tab)(l:Lp.Line):duF p t l 0=List.replicate p.m 0:=by
 refine List.ext_getElem? λv=>?_;by_cases h:v<p.m
 .rw[I3 h,T4,aL h,List.take_zero,aF TQ]
 rw[SR (by rw[od];omega),SR ap]
theorem Cu (h:i<t.others.length):t.others.take (i+1)=t.others.take i++[t.oth i]:=by
 rw[S9];congr 1;unfold Lp.Tab.oth;rw[al,aj h];rfl
theorem Pz (b:Lp.TabOf p t)(h:i<t.others.length)(c:p.n<=t.oth i):(duF p t l i).set (t.oth i-p.n) (l.g i)=duF p t l (i+1):=by
 refine List.ext_getElem? λv=>?_;rw[List.getElem?_set,od];by_cases a:v<p.m
 .rw[I3 a,I3 a,Cu h];by_cases e:t.oth i-p.n=v
  .subst e;rw[aL rfl,aL a,aL (by rw[show p.n+(t.oth i-p.n)=t.oth i by omega];simp),Lp.dualV_at b h c]
  rw[aF e];by_cases hm:p.n+v∈t.others.take i
  .rw[aL hm,aL (by simp[hm])]
  rw[aF hm,aF (by simp[hm];omega)]
 rw[SR (by rw[od];omega),SR (by rw[od];omega)];have:=b.ok.lt _ (SZ.2 (.inr (Lp.oth_mem h)));split
 .exact aF om_
 rfl
theorem Ma (h:i<t.others.length)(a:t.oth i<p.n):duF p t l i=duF p t l (i+1):=by
 refine List.map_congr_left λv _=>?_;rw[Cu h];by_cases hm:p.n+v∈t.others.take i
 .rw[aL hm,aL (by simp[hm])]
 rw[aF hm,aF (by simp[hm];omega)]
theorem PB :duF p t l t.others.length=(List.range p.m).map (Lp.dualV p t l):=by
 refine List.map_congr_left λv _=>?_;rw[SU];split
 .rfl
 next h=>exact(Lp.dualV_none h).symm
theorem I1 (C:Mem)(p:Lp.Sys)(b:Nat)(t:Lp.Tab)(l:Lp.Line)(E F H s w:Value)(v:List Value)(h:TabV C b p.n t E F H s v)(x:Lp.TabOf p t)(I:p.m<=1000000)(y:Sl C 1 w (l.f.map aP))(Y:l.f.length=t.others.length) :
  Jog.Fn cx.P 143 [p_ b,.agg ⟨[ag (qtx l.c),w]⟩,i_ p.m] C [] λu _ e=>∃g,u=s_ g p.m p.m/\e=[.arr u 32 1 p.m (((List.range p.m).map (Lp.dualV p t l)).map aP).flatten]:=by
 obtain⟨J,z,rfl,K,Z,_⟩:=id h.O;obtain⟨A3,c3,rfl,aa,ab,_⟩:=id y;have L:=h.O;have ac:t.others.length<=z:=by rwa [ar]at K
 have ad:=mx_
 refine Wy func143 40 U3 λw0=>Wu λR a=>WH U6 λM=>C6 1 [0,2,4] a U<|G.freeze 0 U λ_ _ N=>WQ [(1,3)] U λR a=>Wt U6<|D.call (gY _ p.m I) U (.inr dc_) U6 (SQ _) fl_ (λae _ af _ Q=>?_);obtain⟨g,rfl,rfl⟩:=Q;refine C6 1 [0,4,7] a U<|U1 3 U λR a=>Ws (PtrTo.blockT (h.m_.o) _ 1) U8<|C6 2 [0,4,7,15,16,17] a U<|WK (L':=[.arr (s_ g p.m p.m) 32 1 p.m ((duF p t l 0).map aP).flatten]) (by rw[L4,<- uR];rfl)<|G.loop (λfr C' e S=>∃(i:Nat),(i<=t.others.length)/\fr=[(0,[],p_ b),(4,[],p_ M),(7,[],s_ g p.m p.m),(15,[],.slice J (t.others.map aX).length z),(16,[],i_ (t.others.map aX).length),(17,[],i_ i)]/\e=[.arr (s_ g p.m p.m) 32 1 p.m ((duF p t l i).map aP).flatten]/\S=t.others.length-i) (hn_ [0,4,7,15,16,17] U) ⟨0,SM _,U,U,U⟩ (λfr ah ai m A T=>?_);obtain⟨i,hi,rfl,rfl,rfl⟩:=T;refine U0 1 [0,4,7,15,16,17,18] U<|G.cd (λk=>?_) λk=>?_
 .have d:i<t.others.length:=by
   have:=aT k;rw[ar]at this;omega
  have aj:=x.ok.lt _ (SZ.2 (.inr (Lp.oth_mem d)));refine U1 1 U λR a=>WG L.m_ U10 om_ (show(t.others.map aX)[i]?=some (aX (t.oth i)) from ft d) fl_ λak V=>Ws V U8<|C6 2 [0,4,7,8,9,15,16,17] a U<|U1 2 U λR a=>WD (fB _ b p.n (t.oth i) t _ _ _ s v h.m_) U7<|Ww [0,4,7,8,9,15,16,17,24] a U<|G.cd (λq=>?_) λq=>?_
  .have r:p.n<=t.oth i:=by simpa using q
   have B:((t.oth i:Int)-(p.n:Int)).toNat=t.oth i-p.n:=by omega
   have W:=Pz (l:=l) x d r;refine WM [0,1,2,3,4,5,6,7,8,9,10,11,12,13] [] U kr_ λR hB a=>Wv 5 U<|Ws (PtrTo.blockT (h.m_.o) _ 1) U8<|Wz _ U U6<|Wt U6<|Ws (bkT N 1) U8<|Wt U6<|WG y.m_ U10 om_ (dT om_) fl_ λal X=>Ws X U8<|WV (((t.oth i:Int)-(p.n:Int)).toNat*1) U10 w_ U2<|WZ (j:=0) U11 (by show((t.oth i:Int)-(p.n:Int)).toNat*1+1<=_;rw[B,bK bH,od];omega)<|Ww [0,4,7,15,16,17] a U<|Wu λR a=>Wz _ U U6<|C6 1 [0,4,7,15,16,17] a U<|WK (L':=[.arr (s_ g p.m p.m) 32 1 p.m ((duF p t l (i+1)).map aP).flatten]) (by rw[B,<- W,<- bE bH _ (by rw[od];omega)];rfl)<|WF (m':=t.others.length-(i+1)) om_ A (hn_ [0,4,7,15,16,17] U) ⟨i+1,om_,U,U,U⟩
  have r:t.oth i<p.n:=by
   have am:¬ p.n<=t.oth i:=by simpa using q
   omega
  rw[Ma d r];refine Wu λR a=>Wz _ U U6<|C6 1 [0,4,7,15,16,17] a U<|WF (m':=t.others.length-(i+1)) om_ A (hn_ [0,4,7,15,16,17] U) ⟨i+1,om_,U,U,U⟩
 have d:i=t.others.length:=by
  have:=SJ k;rw[ar]at this;omega
 refine U0 2 [6] U<|WE (W6 U U ?_);exact⟨g,U,by rw[d,PB]⟩
def ngF (p:Lp.Sys)(t:Lp.Tab)(l:Lp.Line)(i:Nat):List Rat:=(List.range p.m).map λr=>if r<i then -Lp.dualV p t l r else Lp.dualV p t l r
theorem iB :(ngF p t l i).length=p.m:=by simp[ngF]
theorem Dv {r:Nat}(h:r<p.m):(ngF p t l i)[r]?=some (if r<i then -Lp.dualV p t l r else Lp.dualV p t l r):=by
 unfold ngF;rw[SI,Tl h];rfl
theorem Lg (p:Lp.Sys)(t:Lp.Tab)(l:Lp.Line):(List.range p.m).map (Lp.dualV p t l)=ngF p t l 0:=List.map_congr_left λr _=>by rw[aF (Nat.not_lt_zero _)]
theorem O8 (h:i<p.m):(ngF p t l i).set i (-Lp.dualV p t l i)=ngF p t l (i+1):=by
 refine List.ext_getElem? λv=>?_;rw[List.getElem?_set,iB];by_cases a:v<p.m
 .rw[Dv a,Dv a];by_cases e:i=v
  .subst e;rw[aL rfl,aL a,aL om_]
  rw[aF e];by_cases hm:v<i
  .rw[aL hm,aL om_]
  rw[aF hm,aF om_]
 rw[aF om_,SR (by rw[iB];omega),SR (by rw[iB];omega)]
theorem O9 (h:t.bas i-p.n<p.m):(ngF p t (t.line i) p.m).set (t.bas i-p.n) 1=(List.range p.m).map (Lp.refV p t i):=by
 refine List.ext_getElem? λv=>?_;rw[List.getElem?_set,iB,SI];by_cases a:v<p.m
 .rw[Dv a,Tl a,aL a];unfold Lp.refV;by_cases e:t.bas i-p.n=v
  .subst e;rw[aL rfl,aL h,Uk,aL rfl]
  rw[aF e,Uk,aF (λb=>e b.symm)]
 rw[aF om_,SR (by rw[iB];omega),SR ap];rfl
theorem enc1:aP 1=[Value.string ⟨#[49]⟩]:=by
 show [ag (qtx 1)]=_;rw[fT];rfl
theorem KO (C:Mem)(p:Lp.Sys)(b i:Nat)(t:Lp.Tab)(A E s v:Value)(e:List Value)(h:TabV C b p.n t A E s v e)(w:Lp.TabOf p t)(F:p.m<=1000000)(f:i<t.basic.length)(X:p.n<=t.bas i)(H:∀r,QB 50 (Lp.dualV p t (t.line i) r)) :
  Pur cx.P 139 [p_ b,i_ i,i_ p.m] C λu D=>∃g,u=.agg ⟨[s_ g p.m p.m]⟩/\Sl D 1 (s_ g p.m p.m) (((List.range p.m).map (Lp.refV p t i)).map aP):=by
 have ok:=w.ok;obtain⟨Y,Z,rfl,aa,ab,_⟩:=id h.B;obtain⟨A2,c2,rfl,ac,ad,_⟩:=id h.L;let⟨k,I⟩:=mH h ok f;let⟨A3,c3,J,ae,af,_⟩:=id k;have ag:=ok.ll;have x:=ko (ls:=t.lines) (ws:=e) (i:=i) om_ h.fl;rw[J]at x k;have ai:=mx_
 have aj:=ok.lt _ (SZ.2 (.inl (Lp.bas_mem f)));have K:t.bas i-p.n<p.m:=by omega
 have z:((t.bas i:Int)-(p.n:Int)).toNat=t.bas i-p.n:=by omega
 refine Wy func139 49 U3 λw0=>Wu λR a=>WI U5 λc=>Ww [0,1,2,6] a U<|WQ [(9,3)] U λR a=>Wv 4 U<|Ws (PtrTo.blockT (h.m_.o) _ 1) U8<|Wt U6<|WG h.L.m_ U10 om_ x fl_ λak M=>Ws M U8<|Wt U6<|D.call (I1 _ p b t (t.line i) _ _ s v _ e h.m_ w F k.m_ I) U (.inr dc_) U6 (SQ _) fl_ (λal _ an _ N=>?_);obtain⟨g,rfl,rfl⟩:=N;refine C6 1 [0,1,6,7] a U<|U0 3 [0,1,6,7,20,21,22] U<|WK (L':=[.arr (s_ g p.m p.m) 32 1 p.m ((ngF p t (t.line i) 0).map aP).flatten,.obj c (.cells ⟨[.slice none 0 0]⟩ 68 (0,0))]) (by rw[<- Lg];rfl)<|G.loop (λfr C' l O=>∃(j:Nat),(j<=p.m)/\fr=[(0,[],p_ b),(1,[],i_ i),(6,[],p_ c),(7,[],s_ g p.m p.m),(20,[],s_ g p.m p.m),(21,[],i_ p.m),(22,[],i_ j)]/\l=[.arr (s_ g p.m p.m) 32 1 p.m ((ngF p t (t.line i) j).map aP).flatten,.obj c (.cells ⟨[.slice none 0 0]⟩ 68 (0,0))]/\O=p.m-j) (hn_ [0,1,6,7,20,21,22] U) ⟨0,SM _,U,U,U⟩ (λfr ao ap m Q S=>?_);obtain⟨j,hj,rfl,rfl,rfl⟩:=S;refine U0 1 [0,1,6,7,20,21,22,23] U<|G.cd (λq=>?_) λq=>?_
 .have d:j<p.m:=by
   have:=aT q;omega
  have T:(ngF p t (t.line i) j)[j]?=some (Lp.dualV p t (t.line i) j):=by rw[Dv d,aF (Nat.lt_irrefl _)]
  refine U1 1 U λR a=>WV (j*1) U10 w_ U2<|Xa ah U6 (λ_=>(by rw[da bH T];rfl)) U2<|C6 2 [0,1,6,7,8,9,20,21,22] a U<|U1 3 U λR a=>WC (fu _ _ (SV (aV (H j) dc_) dc_)) U7 fl_<|WV (j*1) U10 w_ U2<|WZ (j:=0) U11 (by show j*1+1<=_;rw[bK bH,iB];omega)<|Ww [0,1,6,7,20,21,22] a U<|Wu λR a=>Wz _ U U6<|C6 1 [0,1,6,7,20,21,22] a U<|WK (L':=[.arr (s_ g p.m p.m) 32 1 p.m ((ngF p t (t.line i) (j+1)).map aP).flatten,.obj c (.cells ⟨[.slice none 0 0]⟩ 68 (0,0))]) (by rw[<- O8 d,<- bE bH _ (by rw[iB];omega)];rfl)<|WF (m':=p.m-(j+1)) om_ Q (hn_ [0,1,6,7,20,21,22] U) ⟨j+1,om_,U,U,U⟩
 have d:j=p.m:=by
  have:=SJ q;omega
 subst d;refine WM [0,1,2,3,4,5,6,7,8,9,10,11,12,13,14] [] U kr_ λR hB a=>Wv 4 U<|Ws (PtrTo.blockT (h.m_.o) _ 1) U8<|Wt U6<|WG h.B.m_ U10 om_ (show(t.basic.map aX)[i]?=some (aX (t.bas i)) from ft f) fl_ λaq V=>Ws V U8<|Wv 3 U<|Ws (PtrTo.blockT (h.m_.o) _ 1) U8<|Wz _ U U6<|WV (((t.bas i:Int)-(p.n:Int)).toNat*1) U10 w_ U2<|WZ (j:=0) U11 (by show((t.bas i:Int)-(p.n:Int)).toNat*1+1<=_;rw[z,bK bH,iB];omega)<|Ww [6,7] a U<|U1 1 U λR a=>WL [s_ g p.m p.m] U8<|WB (j:=1) U12<|Ww [6] a U<|G.freezeArr 1 (((List.range p.m).map (Lp.refV p t i)).map aP) rfl (by rw[z,<- O9 K,<- bE bH 1 (by rw[iB];omega),enc1]) (by intro r hr;obtain⟨y,_,rfl⟩:=SL.1 hr;rfl) am λCg hg W=>WE (Xi ah U4 ?_);exact⟨U,g,U,W⟩
def cW (t:Lp.Tab)(wF:Nat->Value):List (Rat × Value):=(List.range t.basic.length).map λi=>((t.line i).c,wF i)
theorem fP :(cW t wF).length=t.basic.length:=by simp[cW]
theorem pg (h:i<t.basic.length):(cW t wF)[i]?=some ((t.line i).c,wF i):=by
 unfold cW;rw[SI,Tl h];rfl
def MZ (t:Lp.Tab)(wF:Nat->Value)(i:Nat):Lent:=.arr (wF i) t.others.length 1 32 ((t.line i).f.map aP)
def fq (b n:Nat)(t:Lp.Tab)(wB wL wO wW:Value)(wF:Nat->Value):List Lent :=
 .obj b [.int .i64 n,wB,wL,wO,ag (qtx t.worth.c),wW] 231::.arr wB t.basic.length 1 3 (t.basic.map aX)::.arr wL t.basic.length 2 228 ((cW t wF).map bG)
  :: .arr wO t.others.length 1 3 (t.others.map aX)::.arr wW t.others.length 1 32 (t.worth.f.map aP)::(List.range t.basic.length).map (MZ t wF)
theorem iE (a:t.Ok N)(h:i<t.basic.length):(t.line i).f.length=t.others.length:=a.fl _ (Lp.line_mem a h)
theorem bN {l:List Rat}:∀r∈l.map aP,r.length=1:=λr hr=>by
 obtain⟨x,_,rfl⟩:=SL.1 hr;rfl
theorem vO {l:List Nat}:∀r∈l.map aX,r.length=1:=λr hr=>by
 obtain⟨x,_,rfl⟩:=SL.1 hr;rfl
theorem gE (c:t.Ok N):∀x∈fq b n t wB wL wO wW wF,x.wf:=by
 intro x a;unfold fq at a;simp only[SY,SL,S7]at a;rcases a with rfl|rfl|rfl|rfl|rfl|⟨i,d,rfl⟩
 .trivial
 .exact⟨by simp,vO⟩
 .exact⟨by simp[fP],λr hr=>by obtain⟨y,_,rfl⟩:=SL.1 hr;rfl⟩
 .exact⟨by simp,vO⟩
 .exact⟨by simp[c.wl],bN⟩
 exact⟨by simp[iE c d],bN⟩
theorem Gg {b:Type}{f:Lp.Line->Value->b}(a:t.Ok N):List.zipWith f t.lines ((List.range t.basic.length).map wF)=(List.range t.basic.length).map λi=>f (t.line i) (wF i):=by
 refine List.ext_getElem? λi=>?_;rw[List.getElem?_zipWith,SI,SI];by_cases h:i<t.basic.length
 .have h2:t.lines[i]?=some (t.line i):=by
   unfold Lp.Tab.line;rw[al,aj (by rw[a.ll];exact h)];rfl
  rw[h2,Tl h];rfl
 rw[SR (show(List.range t.basic.length).length<=i by simp;omega),SR (show t.lines.length<=i by rw[a.ll];omega)];rfl
theorem fk (c:t.Ok N)(h:∀x∈fq b n t wB wL wO wW wF,x.seen C):TabV C b n t wB wL wO wW ((List.range t.basic.length).map wF):=by
 have h1:=h _ (SK ..);have h2:=h _ (SX _ (SK ..));have h3:=h _ (SX _ (SX _ (SK ..)));have h4:=h _ (SX _ (SX _ (SX _ (SK ..))));have h5:=h _ (SX _ (SX _ (SX _ (SX _ (SK ..)))));have j:∀i,i<t.basic.length->Sl C 1 (wF i) ((t.line i).f.map aP):=λi a =>
  h (MZ t wF i) (SX _ (SX _ (SX _ (SX _ (SX _ (SL.2 ⟨i,S7.2 a,rfl⟩))))))
 refine⟨h1,h2,h4,h5, ?_,by simp[c.ll],λi l w e g=>?_⟩
 .rw[Gg c];have d:Sl C 2 wL ((cW t wF).map bG):=h3;unfold cW at d;rw[TH]at d;exact d
 have a:i<t.lines.length:=(R0.1 e).1;rw[c.ll]at a;rw[SI,Tl a]at g;cases g
 have:t.line i=l:=by unfold Lp.Tab.line;rw[al,e];rfl
 rw[<- this];exact j i a
theorem KW (C:Mem)(p:Tabs C)(e m f i n s:Nat)(w g:Value)(d:List (Rat × Value))(a b:List Rat)(c h:Rat)(q:d.length=m)(r:d[i]?=some (c,w))(t:a.length=n)(k:b.length=n)(v:s<n)(y:QB 50 c)(z:∀x∈a,QB 50 x)(A:QB 50 h)(B:∀x∈b,QB 50 x) :
  Jog.Fn cx.P 262 [.pointer (some ⟨e,i*2,none⟩),i_ s,.agg ⟨[ag (qtx h),g]⟩] C [.arr g 32 1 n (b.map aP).flatten,.arr (s_ e m f) 228 2 m (d.map bG).flatten,.arr w 32 1 n (a.map aP).flatten]
   λu _ j=>u=.tuple #[]/\j=[.arr g 32 1 n (b.map aP).flatten,.arr (s_ e m f) 228 2 m ((d.set i (c+a.getD s 0*h,w)).map bG).flatten,.arr w 32 1 n ((lf a b s (a.getD s 0) n).map aP).flatten]:=by
 have l:Jog.Enters cx.P 262=true:=by kernel_rfl
 refine Fn.perm (L2:=[.arr w 32 1 n (a.map aP).flatten,.arr g 32 1 n (b.map aP).flatten,.arr (s_ e m f) 228 2 m (d.map bG).flatten]) (TR (l₁:=[_,_]) (l₂:=[_]))<|Fn.form l om_ λE F G=>?_;subst G;refine Fn.perm (TR (l₁:=[_]) (l₂:=[_,_]))<|(XS (post:=λu j=>u=.tuple #[]/\j=[.arr (s_ e m f) 228 2 m ((d.set i (c+a.getD s 0*h,_)).map bG).flatten,.arr _ 32 1 n ((lf a b s (a.getD s 0) n).map aP).flatten]) l bN (by simp[k]) λo H I=>OM o (p.mono H) e m f i E F n s g d a b c h q r t k v I y z A B).mono ?_;rintro u o j _ ⟨D,rfl,h1,rfl⟩;exact⟨h1,U⟩
theorem KU (C:Mem)(p:Tabs C)(d n s:Nat)(e f g h w i:Value)(a b:List Rat)(c j:Rat)(q:a.length=n)(l:b.length=n)(r:s<n)(t:QB 50 c)(v:∀x∈a,QB 50 x)(y:QB 50 j)(z:∀x∈b,QB 50 x) :
  Jog.Fn cx.P 262 [.pointer (some ⟨d,4,none⟩),i_ s,.agg ⟨[ag (qtx j),i]⟩] C [.arr i 32 1 n (b.map aP).flatten,.obj d (.cells ⟨[e,f,g,h,ag (qtx c),w]⟩ 231 (0,0)),.arr w 32 1 n (a.map aP).flatten]
   λu _ k=>u=.tuple #[]/\k=[.arr i 32 1 n (b.map aP).flatten,.obj d (.cells ⟨[e,f,g,h,ag (qtx (c+a.getD s 0*j)),w]⟩ 231 (0,0)),.arr w 32 1 n ((lf a b s (a.getD s 0) n).map aP).flatten]:=by
 have m:Jog.Enters cx.P 262=true:=by kernel_rfl
 refine Fn.perm (L2:=[.arr w 32 1 n (a.map aP).flatten,.arr i 32 1 n (b.map aP).flatten,.obj d (.cells ⟨[e,f,g,h,ag (qtx c),w]⟩ 231 (0,0))]) (TR (l₁:=[_,_]) (l₂:=[_]))<|Fn.form m om_ λB D E=>?_;subst E;refine Fn.perm (TR (l₁:=[_]) (l₂:=[_,_]))<|(XS (post:=λu k=>u=.tuple #[]/\k=[.obj d (.cells ⟨[e,f,g,h,ag (qtx (c+a.getD s 0*j)),_]⟩ 231 (0,0)),.arr _ 32 1 n ((lf a b s (a.getD s 0) n).map aP).flatten]) m bN (by simp[l]) λo F G=>OL o (p.mono F) d B D n s e f g h i a b c j q l r G t v y z).mono ?_;rintro u o k _ ⟨A,rfl,h1,rfl⟩;exact⟨h1,U⟩
theorem oJ {F:Nat}(h:Lp.LeaveR F t s n o):o=-1∨∃r:Nat,o=r/\r<n/\F<=t.bas r/\(t.line r).g s<0:=by
 cases h with
|none _=>exact .inl rfl
|some r h1 h2 h3 _=>exact .inr ⟨r,rfl,h1,h2,h3⟩
theorem Lv (C:Mem)(S:Tabs C)(b n s N:Nat)(t:Lp.Tab)(wB wL T V:Value)(k:List Value)(h:TabV C b n t wB wL T V k)(W:t.Ok N)(hs:s<t.others.length)(X:∀i,i<t.basic.length->QB 20 (t.line i).c/\QB 20 ((t.line i).g s)) :
  Pur cx.P 211 [p_ b,i_ s] C λu _=>∃o:Int,u=i_ o/\Lp.LeaveR n t s t.basic.length o:=by
 obtain⟨A1,c1,rfl,aw,ax,_⟩:=id h.B;obtain⟨A2,c2,rfl,ay,az,_⟩:=id h.L;have E:=h.B;have aA:=mx_
 have aB:=W.ll;have ac:=h.fl;have aC:(List.zipWith (λ(l:Lp.Line) w=>[ag (qtx l.c),w]) t.lines k).length=t.basic.length:=by simp;omega
 refine Wy func211 85 U3 λw0=>U0 1 [0,1] U<|U0 1 [0,1,5] U<|U0 1 [0,1,5,6] U<|U1 3 U λR a=>Ws (PtrTo.blockT (h.m_.o) _ 1) U8<|C6 2 [0,1,5,6,15,16,17] a U<|G.loop (λfr C' L' μ=>∃(i:Nat)(o:Int)(v:Str),(i<=t.basic.length/\Lp.LeaveR n t s i o/\∀r:Nat,o=r->v=qtx ((t.line r).c / -(t.line r).g s))/\fr=[(0,[],p_ b),(1,[],i_ s),(5,[],i_ o),(6,[],ag v),(15,[],.slice A2 (List.zipWith (λ(l:Lp.Line) w=>[ag (qtx l.c),w]) t.lines k).length c2),(16,[],i_ (List.zipWith (λ(l:Lp.Line) w=>[ag (qtx l.c),w]) t.lines k).length),(17,[],i_ i)]/\L'=[]/\μ=t.basic.length-i) (hn_ [0,1,5,6,15,16,17] U) ⟨0, -1,[],⟨SM _,.none λj hj=>absurd hj (Nat.not_lt_zero _),λr hr=>by omega⟩,U,U,U⟩ (λfr aD aE m _ hI=>?_);obtain⟨i,o,v,⟨hi,f,F⟩,rfl,rfl,rfl⟩:=hI;refine U0 1 [0,1,5,6,15,16,17,18] U<|G.cd (λH=>?_) λH=>?_
 .have p:i<t.basic.length:=by
   have:=aT H;omega
  let⟨z,aF⟩:=mH h W p;let⟨A3,c3,ad,aG,aH,_⟩:=id z;let⟨Y,I⟩:=X i p;have Z:=ko (ls:=t.lines) (ws:=k) (i:=i) om_ ac;rw[ad]at Z z;have aa:(qtx ((t.line i).g s)).length<=1000000:=SV (aV I dc_) dc_;refine U1 1 U λR a=>WG h.L.m_ U10 om_ Z fl_ λaI ae=>Ws ae U8<|WI U5 λb8=>Wt U6<|WB (j:=0) U12<|Ww [0,1,5,6,7,8,15,16,17] a U<|G.freeze 0 U λ_ _ J=>U1 4 U λR a=>Ws (PtrTo.blockT (h.m_.o) _ 1) U8<|Wt U6<|WG E.m_ U10 om_ (ft p) fl_ λaJ af=>Ws af U8<|WD (fB _ b n (t.bas i) t _ _ T V k h.m_) U7<|Wv 3 U<|WU U6 (λ_=>PtrTo.blockT (Mem.get J mup) _ 1) U3<|Wt U6<|D.index U10 (λhg=>⟨z.mono mup,by omega,dT om_⟩) fl_ U λaK ah=>WU U6 ah U3<|W5 (λ_=>(fE _ ((t.line i).g s) aa)) U9<|Wt U6<|WX U8<|Ww [0,1,5,6,7,8,15,16,17,40] a U<|G.cd (λK=>?_) λK=>?_
  .have d:n<=t.bas i->0<=(t.line i).g s:=by
    intro h1;have d:(!decide (n<=t.bas i) || decide (eA ((t.line i).g s).num ≥ 0))=true:=K;rw[Hw,S4 h1]at d;simpa using d
   refine Wu λR a=>Wz _ U U6<|C6 1 [0,1,5,6,15,16,17] a U<|WF (m':=t.basic.length-(i+1)) om_ mup (hn_ [0,1,5,6,15,16,17] U) ⟨i+1,o,v,⟨by omega,f.no d,F⟩,U,U,U⟩
  have d:n<=t.bas i/\(t.line i).g s<0:=by
   have d:(!decide (n<=t.bas i) || decide (eA ((t.line i).g s).num ≥ 0))=false:=K;rw[Hw]at d;simp only[Up,Bool.not_eq_false',SS,Tk]at d;exact⟨d.1,by have:=d.2;grind⟩
  have ab:-(t.line i).g s≠0:=by have:=d.2;grind
  have ai:=jP Y (eQ I) ab;refine WM [0,1,2,3,4,5,6,7,8,9,10,11,12,13] [(7,1),(8,1)] U kr_ λR hB a=>Wt U6<|Ws (bkT J 1) U8<|Wt U6<|Ws (bkT J 1) U8<|Wt U6<|WG z.m_ U10 om_ (dT om_) fl_ λaL aj=>Ws aj U8<|W5 (λ_=>(fu _ ((t.line i).g s) aa)) U9<|WN (λ_=>(iv _ S.m_ (t.line i).c (-(t.line i).g s) 20 dc_ dc_ Y (eQ I) ab)) U9<|C6 5 [0,1,5,6,7,9,15,16,17] a U<|U0 1 [0,1,5,6,7,9,15,16,17] U<|U0 2 [0,1,5,6,7,9,15,16,17,54] U<|G.cd (λM=>?_) λM=>?_
  .have ak:0<=o:=by simpa using aT M
   let⟨r,O,aM,aN,aO⟩:=(oJ f).resolve_left om_;let⟨al,am⟩:=X r om_;have an:-(t.line r).g s≠0:=by grind
   have ao:=jP al (eQ am) an;have ap:=F r O;rw[O]at f;subst O;subst ap;let⟨x,A⟩:∃x,(t.line i).c / -(t.line i).g s=x:=⟨_,rfl⟩;let⟨y,hy⟩:∃y,(t.line r).c / -(t.line r).g s=y:=⟨_,rfl⟩;refine U1 2 U λR a=>WC (fR _ S.m_ _ _ 40 dc_ dc_ ai ao) U7 fl_<|C6 1 [0,1,5,6,7,9,11,15,16,17] a U<|WM [0,1,2,3,4,5,6,7,8,9,10,11,12,13,14,15,16,17,18,19,20,21,22] [] U kr_ λR hB a=>Wv 9 U<|WU U6 (λ_=>PtrTo.blockT (h.m_.o) _ 1) U3<|Wt U6<|D.index U10 (λhg=>⟨E.mono mup,by omega,ft p⟩) fl_ U λaP aq=>WU U6 aq U3<|Wv 3 U<|WU U6 (λ_=>PtrTo.blockT (h.m_.o) _ 1) U3<|Wt U6<|D.index U10 (λhg=>⟨E.mono mup,by omega,by rw[UD];exact ft om_⟩) fl_ U λaQ ar=>WU U6 ar U3<|Wt U6<|WR U8<|WX U8<|Ww [0,1,5,6,7,9,15,16,17,80] a U<|G.cd (λQ=>?_) λQ=>?_
   .have e:y<x∨y=x/\t.bas r<t.bas i:=by
     have e:(decide (oo ((t.line i).c / -(t.line i).g s) ((t.line r).c / -(t.line r).g s) > 0) || (oo ((t.line i).c / -(t.line i).g s) ((t.line r).c / -(t.line r).g s) == 0 && decide ((t.bas i:Int) > (t.bas r:Int))))=true:=Q;rw[A,hy,Bu,PO]at e;simp only[UG,S1,SS]at e;rcases e with h1|⟨h1,h2⟩
     .exact .inl h1
     exact .inr ⟨h1,by omega⟩
    have q:=f.keep (by rw[A,hy];exact e.elim .inl (λh1=>.inr ⟨h1.1,by have:=h1.2;omega⟩));refine Wu λR a=>Wz _ U U6<|C6 1 [0,1,5,6,15,16,17] a U<|WF (m':=t.basic.length-(i+1)) om_ mup (hn_ [0,1,5,6,15,16,17] U) ⟨i+1,(r:Int),qtx ((t.line r).c / -(t.line r).g s),⟨by omega,q,F⟩,U,U,U⟩
   have e:x<y∨x=y/\t.bas i<=t.bas r:=by
    have e:(decide (oo ((t.line i).c / -(t.line i).g s) ((t.line r).c / -(t.line r).g s) > 0) || (oo ((t.line i).c / -(t.line i).g s) ((t.line r).c / -(t.line r).g s) == 0 && decide ((t.bas i:Int) > (t.bas r:Int))))=false:=Q;rw[A,hy,Bu,PO]at e;simp only[Up,V7,Tk]at e;let⟨h1,h2⟩:=e;by_cases h3:x<y
    .exact .inl h3
    have h4:y=x:=by grind
    rcases h2 with h2|h2
    .exact absurd h4 h2
    exact .inr ⟨h4.symm,by omega⟩
   have q:=f.less d.1 d.2 (by rw[A,hy];exact e);refine U0 4 [0,1,5,6,15,16,17] U<|Wu λR a=>Wz _ U U6<|C6 1 [0,1,5,6,15,16,17] a U<|WF (m':=t.basic.length-(i+1)) om_ mup (hn_ [0,1,5,6,15,16,17] U) ⟨i+1,(i:Int),qtx ((t.line i).c / -(t.line i).g s),⟨by omega,q,λr' au=>by rw[show r'=i by omega]⟩,U,U,U⟩
  have ak:¬ 0<=o:=by simpa using SJ M
  have av:o=-1:=by
   rcases oJ f with h1|⟨r,h1,_⟩
   .exact h1
   omega
  subst av;have q:=f.first d.1 d.2;refine U0 4 [0,1,5,6,15,16,17] U<|Wu λR a=>Wz _ U U6<|C6 1 [0,1,5,6,15,16,17] a U<|WF (m':=t.basic.length-(i+1)) om_ mup (hn_ [0,1,5,6,15,16,17] U) ⟨i+1,(i:Int),qtx ((t.line i).c / -(t.line i).g s),⟨by omega,q,λr' au=>by rw[show r'=i by omega]⟩,U,U,U⟩
 have p:i=t.basic.length:=by
  have:=SJ H;omega
 exact U0 2 [4] U<|Wx U2<|⟨U,o,U,by rw[<- p];exact f⟩
def ryF (t:Lp.Tab)(s n:Nat)(k:Rat)(i:Nat):List Rat:=(List.range n).map λv=>if v∈t.basic.take i then k*t.dir s v else if v=t.oth s then k else 0
theorem kZ :(ryF t s n k i).length=n:=by simp[ryF]
theorem CM (h:v<n):(ryF t s n k i)[v]?=some (if v∈t.basic.take i then k*t.dir s v else if v=t.oth s then k else 0):=by
 unfold ryF;rw[SI,Tl h];rfl
theorem KF (h:n<=t.oth s):List.replicate n 0=ryF t s n k 0:=by
 refine List.ext_getElem? λv=>?_;by_cases a:v<n
 .rw[CM a,T4,aL a,List.take_zero,aF TQ,aF om_]
 rw[SR ap,SR (by rw[kZ];omega)]
theorem Og (h:t.oth s<n):(List.replicate n 0).set (t.oth s) k=ryF t s n k 0:=by
 refine List.ext_getElem? λv=>?_;rw[List.getElem?_set];by_cases a:v<n
 .rw[CM a,T4,aL a,List.take_zero,aF TQ];by_cases e:t.oth s=v
  .rw[aL e,aL (by simpa using h),aL e.symm]
  rw[aF e,aF (λb=>e b.symm)]
 rw[aF om_,SR ap,SR (by rw[kZ];omega)]
theorem Of (b:Lp.TabOf p t)(c:s<t.others.length)(h:i<t.basic.length)(d:t.bas i<n):(ryF t s n k i).set (t.bas i) (k*(t.line i).g s)=ryF t s n k (i+1):=by
 refine List.ext_getElem? λv=>?_;rw[List.getElem?_set,kZ];by_cases a:v<n
 .rw[CM a,CM a,lV h];by_cases e:t.bas i=v
  .subst e;rw[aL rfl,aL a,aL am,Lp.dir_bas b c h]
  rw[aF e];by_cases hm:v∈t.basic.take i
  .rw[aL hm,aL (by simp[hm])]
  rw[aF hm,aF (show ¬ v∈t.basic.take i++[t.bas i] by simp[hm];exact λh2=>e h2.symm)]
 rw[aF om_,SR (by rw[kZ];omega),SR (by rw[kZ];omega)]
theorem KG (h:i<t.basic.length)(a:n<=t.bas i):ryF t s n k i=ryF t s n k (i+1):=by
 refine List.map_congr_left λv hm=>?_;have b:=S7.1 hm;rw[lV h];by_cases hm:v∈t.basic.take i
 .rw[aL hm,aL (by simp[hm])]
 rw[aF hm,aF (show ¬ v∈t.basic.take i++[t.bas i] by simp[hm];omega)]
theorem Oh (a:Lp.TabOf p t):ryF t s n k t.basic.length=(List.range n).map λv=>k*t.dir s v:=by
 refine List.map_congr_left λv _=>?_;rw[SU];split
 .rfl
 next h =>
 rw[Lp.dir_oth a h];split <;> grind
def lL (t:Lp.Tab)(s:Nat):Rat:=if 0<t.worth.g s then -1 else 1
theorem Q2 (C:Mem)(Q:Tabs C)(p:Lp.Sys)(b s:Nat)(t:Lp.Tab)(S T V X:Value)(r:List Value)(h:TabV C b p.n t S T V X r)(x:Lp.TabOf p t)(I:s<t.others.length)(Y:p.n<=1000000)(Z:∀i,i<t.basic.length->QB 20 ((t.line i).g s))(aa:QB 20 (t.worth.g s)) :
  Jog.Fn cx.P 142 [p_ b,i_ s] C [] λu _ c=>∃g,u=s_ g p.n p.n/\c=[.arr u 32 1 p.n (((List.range p.n).map λv=>lL t s*t.dir s v).map aP).flatten]:=by
 have ok:=x.ok;obtain⟨A1,J,rfl,ab,ap,_⟩:=id h.B;obtain⟨A2,c2,rfl,aq,au,_⟩:=id h.L;obtain⟨A3,c3,rfl,av,aw,_⟩:=id h.O;obtain⟨A4,c4,rfl,ax,ay,_⟩:=id h.W;have ac:=h.B;have az:t.basic.length<=J:=by rwa [ar]at ab
 have aA:=mx_
 have aB:=ok.ll;have ad:=h.fl;have aC:=ok.wl;have ae:QB 20 (lL t s):=by unfold lL;split <;> exact⟨by decide,by decide⟩
 refine Wy func142 72 U3 λw0=>U0 1 [0,1] U<|U0 1 [0,1,5] U<|U1 4 U λR a=>Ws (PtrTo.blockT (h.m_.o) _ 1) U8<|Wt U6<|WG h.W.m_ U10 om_ (dT om_) fl_ λaD af=>Ws af U8<|WC (fE _ (t.worth.g s) (SV (aV aa dc_) dc_)) U7 fl_<|C6 1 [0,1,5,19] a U<|G.cut (λfr K c f=>(True)/\fr=[(0,[],p_ b),(1,[],i_ s),(5,[],ag (qtx (lL t s)))]/\c=[]) ?_ (λfr _ aE f _ l=>?_)
 .refine G.cd (λy=>?_) λy=>?_
  .have z:lL t s=-1:=by
    have d:0<t.worth.g s:=by
     have d:decide (0<eA (t.worth.g s).num)=true:=y;rw[uY]at d;exact aT d
    unfold lL;rw[aL d]
   refine U0 1 [0,1,5] U<|WJ 0 l_ (hn_ [0,1,5] U) ⟨trivial,by rw[z,fe];rfl,U⟩
  have z:lL t s=1:=by
   have d:¬ 0<t.worth.g s:=by
    have d:decide (0<eA (t.worth.g s).num)=false:=y;rw[uY]at d;exact SJ d
   unfold lL;rw[aF d]
  refine WJ 0 l_ (hn_ [0,1,5] U) ⟨trivial,by rw[z,fT];rfl,U⟩
 obtain⟨ah,rfl,rfl⟩:=l;refine WQ [(4,3)] U λR a=>Wv 3 U<|Ws (PtrTo.blockT (h.m_.o) _ 1) U8<|D.call (gY _ p.n Y) U (.inr dc_) U6 (SQ _) fl_ λaG _ aH _ ai=>C6 1 [0,1,5,6] a U ?_;obtain⟨g,rfl,rfl⟩:=ai;refine WK (L':=[.arr (s_ g p.n p.n) 32 1 p.n ((List.replicate p.n (0:Rat)).map aP).flatten]) (by rw[<- uR];rfl)<|U1 3 U λR a=>Ws (PtrTo.blockT (h.m_.o) _ 1) U8<|Wt U6<|WG h.O.m_ U10 om_ (show(t.others.map aX)[s]?=some (aX (t.oth s)) from ft I) fl_ λaI aj=>Ws aj U8<|C6 1 [0,1,5,6,7] a U<|U1 2 U λR a=>WD (fB _ b p.n (t.oth s) t _ _ _ _ r h.m_) U7<|C6 1 [0,1,5,6,7,35] a U<|G.cut (λfr K c f=>(True)/\fr=[(0,[],p_ b),(1,[],i_ s),(5,[],ag (qtx (lL t s))),(6,[],s_ g p.n p.n)]/\c=[.arr (s_ g p.n p.n) 32 1 p.n ((ryF t s p.n (lL t s) 0).map aP).flatten]) ?_ (λfr _ aJ f _ l=>?_)
 .refine G.cd (λA=>?_) λA=>?_
  .have q:t.oth s<p.n:=by
    have q:¬ p.n<=t.oth s:=by simpa using A
    omega
   refine U1 3 U λR a=>WV (t.oth s*1) U10 w_ U2<|WZ (j:=0) U11 (by show t.oth s*1+1<=_;rw[bK bH,Tf];omega)<|Ww [0,1,5,6] a U<|WK (L':=[.arr (s_ g p.n p.n) 32 1 p.n ((ryF t s p.n (lL t s) 0).map aP).flatten]) (by rw[<- Og q,<- bE bH _ (by rw[Tf];exact q)];rfl)<|WJ 0 l_ (hn_ [0,1,5,6] U) ⟨trivial,U,U⟩
  have q:p.n<=t.oth s:=by simpa using A
  rw[KF (k:=lL t s) q];refine WJ 0 l_ (hn_ [0,1,5,6] U) ⟨trivial,U,U⟩
 obtain⟨ah,rfl,rfl⟩:=l;refine U1 3 U λR a=>Ws (PtrTo.blockT (h.m_.o) _ 1) U8<|C6 2 [0,1,5,6,43,44,45] a U<|G.loop (λfr K c f=>∃(i:Nat),(i<=t.basic.length)/\fr=[(0,[],p_ b),(1,[],i_ s),(5,[],ag (qtx (lL t s))),(6,[],s_ g p.n p.n),(43,[],.slice A1 (t.basic.map aX).length J),(44,[],i_ (t.basic.map aX).length),(45,[],i_ i)]/\c=[.arr (s_ g p.n p.n) 32 1 p.n ((ryF t s p.n (lL t s) i).map aP).flatten]/\f=t.basic.length-i) (hn_ [0,1,5,6,43,44,45] U) ⟨0,SM _,U,U,U⟩ (λfr aK aM m M l=>?_);obtain⟨i,hi,rfl,rfl,rfl⟩:=l;refine U0 1 [0,1,5,6,43,44,45,46] U<|G.cd (λE=>?_) λE=>?_
 .have e:i<t.basic.length:=by
   have:=aT E;rw[ar]at this;omega
  let⟨F,aN⟩:=mH h ok e;let⟨A5,c5,ak,aO,aQ,_⟩:=id F;have N:=ko (ls:=t.lines) (ws:=r) (i:=i) om_ ad;rw[ak]at N F;refine U1 1 U λR a=>WG ac.m_ U10 om_ (show(t.basic.map aX)[i]?=some (aX (t.bas i)) from ft e) fl_ λaR al=>Ws al U8<|C6 2 [0,1,5,6,8,9,43,44,45] a U<|U1 2 U λR a=>WD (fB _ b p.n (t.bas i) t _ _ _ _ r h.m_) U7<|C6 1 [0,1,5,6,8,9,43,44,45,53] a U<|G.cd (λH=>?_) λH=>?_
  .have w:t.bas i<p.n:=by
    have aS:¬ p.n<=t.bas i:=by simpa using H
    omega
   refine U1 6 U λR a=>Ws (PtrTo.blockT (h.m_.o) _ 1) U8<|Wt U6<|WG h.L.m_ U10 om_ N fl_ λaU am=>Xv am U10 fl_ λaW an=>Ws an U8<|Wt U6<|WG F.m_ U10 om_ (dT om_) fl_ λaY ao=>Ws ao U8<|WC (cX _ Q.m_ (lL t s) ((t.line i).g s) 20 dc_ dc_ ae (Z i e)) U7 fl_<|WV (t.bas i*1) U10 w_ U2<|WZ (j:=0) U11 (by show t.bas i*1+1<=_;rw[bK bH,kZ];omega)<|Ww [0,1,5,6,43,44,45] a U<|Wu λR a=>Wz _ U U6<|C6 1 [0,1,5,6,43,44,45] a U<|WK (L':=[.arr (s_ g p.n p.n) 32 1 p.n ((ryF t s p.n (lL t s) (i+1)).map aP).flatten]) (by rw[<- Of x I e w,<- bE bH _ (by rw[kZ];exact w)];rfl)<|WF (m':=t.basic.length-(i+1)) om_ M (hn_ [0,1,5,6,43,44,45] U) ⟨i+1,om_,U,U,U⟩
  have w:p.n<=t.bas i:=by simpa using H
  rw[KG e w];refine Wu λR a=>Wz _ U U6<|C6 1 [0,1,5,6,43,44,45] a U<|WF (m':=t.basic.length-(i+1)) om_ M (hn_ [0,1,5,6,43,44,45] U) ⟨i+1,om_,U,U,U⟩
 have e:i=t.basic.length:=by
  have:=SJ E;rw[ar]at this;omega
 refine U0 2 [4] U<|WE (W6 U U ?_);exact⟨g,U,by rw[e,Oh x]⟩
end Go.Proofs.YtfjcldheldflbaaGreatDoor
