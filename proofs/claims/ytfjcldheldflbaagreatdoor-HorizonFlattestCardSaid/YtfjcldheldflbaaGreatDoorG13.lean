import Derived.Test.YtfjcldheldflbaaGreatDoorG12
set_option maxHeartbeats 4000000
namespace Go.Proofs.YtfjcldheldflbaaGreatDoor
open Go.Proofs.Tryz
open Go Go.Jog
set_option maxRecDepth 100000
variable {F N b:Nat}{cc:Nat->Rat}{i j k:Nat}{l:Lp.Line}{m n:Nat}{o:Int}{ob:List Rat}{p:Lp.Sys}{q:Nat->Prop}{r:Nat}{rows:List RowQ}{rs:List (List Rat × Rat)}{s:Nat}{t:Lp.Tab}{u:Value}{vs:List Nat}{w wB:Value}{wF:Nat->Value}{wL wO wW wy:Value}
theorem xY {y:Lp.Line}(a:s<l.f.length):kZ l.f y.f s (l.f.getD s 0) l.f.length=(Lp.putL l s y).f/\l.c+l.f.getD s 0*y.c=(Lp.putL l s y).c:=by
 have h:=Hk (c:=l.c) (bc:=y.c) (bf:=y.f) a;exact⟨(congrArg Lp.Line.f h).symm,(congrArg Lp.Line.c h).symm⟩
theorem KM (C:Mem)(k:Tabs C)(b m e i n s:Nat)(w d:Value)(a:List (Rat × Value))(l y:Lp.Line)(o:a.length=m)(p:a[i]?=some (l.c,w))(g:l.f.length=n)(q:y.f.length=n)(r:s<n)(h:QB 50 l.c/\∀x∈l.f,QB 50 x)(j:QB 50 y.c/\∀x∈y.f,QB 50 x) :
  Jog.Fn cx.P 262 [.pointer (some ⟨b,i*2,none⟩),i_ s,.agg ⟨[ae (qtx y.c),d]⟩] C [.arr d 32 1 n (y.f.map aM).flatten,.arr (s_ b m e) 228 2 m (a.map bC).flatten,.arr w 32 1 n (l.f.map aM).flatten]
   λu _ t=>u=.tuple #[]/\t=[.arr d 32 1 n (y.f.map aM).flatten,.arr (s_ b m e) 228 2 m ((a.set i ((Lp.putL l s y).c,w)).map bC).flatten,.arr w 32 1 n ((Lp.putL l s y).f.map aM).flatten]:=by
 obtain⟨h1,h2⟩:=xY (l:=l) (y:=y) (s:=s) om_;rw[<- h1,<- h2,g];exact KN C k b m e i n s w d a l.f y.f l.c y.c o p g q r h.1 h.2 j.1 j.2
theorem KK (C:Mem)(m:Tabs C)(a n s:Nat)(d e g h w b:Value)(l y:Lp.Line)(i:l.f.length=n)(o:y.f.length=n)(p:s<n)(j:QB 50 l.c/\∀x∈l.f,QB 50 x)(k:QB 50 y.c/\∀x∈y.f,QB 50 x) :
  Jog.Fn cx.P 262 [.pointer (some ⟨a,4,none⟩),i_ s,.agg ⟨[ae (qtx y.c),b]⟩] C [.arr b 32 1 n (y.f.map aM).flatten,.obj a (.cells ⟨[d,e,g,h,ae (qtx l.c),w]⟩ 231 (0,0)),.arr w 32 1 n (l.f.map aM).flatten]
   λu _ q=>u=.tuple #[]/\q=[.arr b 32 1 n (y.f.map aM).flatten,.obj a (.cells ⟨[d,e,g,h,ae (qtx (Lp.putL l s y).c),w]⟩ 231 (0,0)),.arr w 32 1 n ((Lp.putL l s y).f.map aM).flatten]:=by
 obtain⟨h1,h2⟩:=xY (l:=l) (y:=y) (s:=s) om_;rw[<- h1,<- h2,i];exact KL C m a n s d e g h w b l.f y.f l.c y.c i o p j.1 j.2 k.1 k.2
def byF (l:Lp.Line)(s j:Nat):List Rat:=(List.range l.f.length).map λq=>if q<j then (Lp.byL l s).g q else 0
theorem lG :(byF l s j).length=l.f.length:=by simp[byF]
theorem D6 {q:Nat}(h:q<l.f.length):(byF l s j)[q]?=some (if q<j then (Lp.byL l s).g q else 0):=by
 unfold byF;rw[Sh,SU h];rfl
theorem Mh :List.replicate l.f.length 0=byF l s 0:=by
 refine List.ext_getElem? λv=>?_;by_cases a:v<l.f.length
 .rw[D6 a,TC,aK a,aF (Nat.not_lt_zero _)]
 rw[Sq am,Sq (by rw[lG];omega)]
theorem PB (h:j<l.f.length):(byF l s j).set j (-(if j=s then -1 else l.g j) / l.g s)=byF l s (j+1):=by
 refine List.ext_getElem? λq=>?_;rw[List.getElem?_set,lG];by_cases a:q<l.f.length
 .rw[D6 a,D6 a];by_cases e:j=q
  .subst e;rw[aK rfl,aK a,aK (Nat.lt_succ_self j),Lp.byL_g a];congr 1;split <;> grind
  rw[aF e];by_cases h1:q<j
  .rw[aK h1,aK om_]
  rw[aF h1,aF om_]
 rw[aF om_,Sq (by rw[lG];omega),Sq (by rw[lG];omega)]
theorem wh :(Lp.byL l s).f.length=l.f.length:=by simp[Lp.byL]
theorem PC :byF l s l.f.length=(Lp.byL l s).f:=by
 refine List.ext_getElem? λq=>?_;by_cases a:q<l.f.length
 .rw[D6 a,aK a];unfold Lp.Line.g;rw[ak,ah (by rw[wh];exact a)];rfl
 rw[Sq (by rw[lG];omega),Sq (by rw[wh];omega)]
def stL (t:Lp.Tab)(r s i q:Nat):Lp.Line:=if q<i/\q≠r then Lp.putL (t.line q) s (Lp.byL (t.line r) s) else t.line q
def stV (t:Lp.Tab)(wF:Nat->Value)(r s i:Nat):List (Rat × Value):=(List.range t.basic.length).map λq=>((stL t r s i q).c,wF q)
def stE (t:Lp.Tab)(wF:Nat->Value)(r s i q:Nat):Ent:=.arr (wF q) 32 1 t.others.length ((stL t r s i q).f.map aM).flatten
theorem jm :(stV t wF r s i).length=t.basic.length:=by simp[stV]
theorem Cu {q:Nat}(h:q<t.basic.length):(stV t wF r s i)[q]?=some ((stL t r s i q).c,wF q):=by
 unfold stV;rw[Sh,SU h];rfl
theorem uC {q:Nat}:stL t r s 0 q=t.line q:=aF λh=>Nat.not_lt_zero _ h.1
theorem pX {q:Nat}(h:q≠i):stL t r s (i+1) q=stL t r s i q:=by
 unfold stL;by_cases h1:q<i/\q≠r
 .rw[aK h1,aK ⟨by omega,h1.2⟩]
 rw[aF h1,aF λh2=>h1 ⟨by omega,h2.2⟩]
theorem oS (h:i≠r):stL t r s i i=t.line i/\stL t r s (i+1) i=Lp.putL (t.line i) s (Lp.byL (t.line r) s) :=
 ⟨aF λh2=>Nat.lt_irrefl _ h2.1,aK ⟨Nat.lt_succ_self _,h⟩⟩
theorem Cv {q:Nat}:stL t r s (r+1) q=stL t r s r q:=by
 by_cases h:q=r
 .subst h;unfold stL;rw[aF λh=>h.2 rfl,aF λh=>h.2 rfl]
 exact pX h
theorem NR (b:i<t.basic.length)(h:i≠r):(stV t wF r s i).set i ((Lp.putL (t.line i) s (Lp.byL (t.line r) s)).c,wF i)=stV t wF r s (i+1):=by
 refine List.ext_getElem? λq=>?_;rw[List.getElem?_set,jm];by_cases a:q<t.basic.length
 .rw[Cu a,Cu a];by_cases e:i=q
  .subst e;rw[aK rfl,aK a,(oS h).2]
  rw[aF e,pX (Ne.symm e)]
 rw[aF om_,Sq (by rw[jm];omega),Sq (by rw[jm];omega)]
theorem Kd :stV t wF r s (r+1)=stV t wF r s r:=by
 unfold stV;simp only[Cv]
theorem Kc :stV t wF r s 0=cW t wF:=by
 unfold stV cW;simp only[uC]
theorem NS (d:t.Ok N)(f:r<t.basic.length):(stV t wF r s t.basic.length).set r ((Lp.byL (t.line r) s).c,wy)=cW (t.pivot r s) λq=>if q=r then wy else wF q:=by
 have b:(t.pivot r s).basic.length=t.basic.length:=Tc;refine List.ext_getElem? λq=>?_;rw[List.getElem?_set,jm];by_cases a:q<t.basic.length
 .rw[Cu a,oV (by rw[b];exact a),Lp.pivot_line (by rw[d.ll];exact a)];by_cases e:r=q
  .subst e;rw[aK rfl,aK a,aK rfl,aK rfl]
  rw[aF e,aF (Ne.symm e),aF (Ne.symm e)];unfold stL;rw[aK ⟨a,Ne.symm e⟩]
 rw[aF om_,Sq (by rw[jm];omega),Sq (by rw[fN,b];omega)]
theorem range_nd :(List.range m).Nodup:=List.nodup_range
theorem NT (b:t.Ok N)(c:r<t.basic.length) :
  (.arr wy 32 1 t.others.length ((Lp.byL (t.line r) s).f.map aM).flatten::((List.range t.basic.length).erase r).map (stE t wF r s t.basic.length)).Perm (((List.range (t.pivot r s).basic.length).map (MN (t.pivot r s) λq=>if q=r then wy else wF q)).map Lent.ent):=by
 have g:(t.pivot r s).basic.length=t.basic.length:=Tc;have d:(t.pivot r s).others.length=t.others.length:=Tc;rw[g,Th];have h0:(Lent.ent ∘ MN (t.pivot r s) λq=>if q=r then wy else wF q) r=.arr wy 32 1 t.others.length ((Lp.byL (t.line r) s).f.map aM).flatten:=by
  show Ent.arr (if r=r then wy else wF r) _ 1 (t.pivot r s).others.length _=_;rw[aK rfl,d,Lp.pivot_line (by rw[b.ll];exact c),aK rfl]
 have h1:=mq range_nd (SE.2 c) (Lent.ent ∘ MN (t.pivot r s) λq=>if q=r then wy else wF q) (stE t wF r s t.basic.length) (λq h a=>by
  have e:=SE.1 h;show Ent.arr (if q=r then wy else wF q) _ 1 (t.pivot r s).others.length _=_;rw[aF a,d,Lp.pivot_line (by rw[b.ll];exact e),aF a];unfold stE stL;rw[aK ⟨e,a⟩])
 rw[h0]at h1;exact h1.symm
theorem NP (a:t.Ok N)(d:r<t.basic.length) :
  (([.obj b (.cells ⟨[i_ n,wB,wL,wO,ae (qtx (Lp.putL t.worth s (Lp.byL (t.line r) s)).c),wW]⟩ 231 (0,0)),.arr wB 3 1 t.basic.length ((t.basic.set r (t.oth s)).map aW).flatten,.arr wL 228 2 t.basic.length (((stV t wF r s t.basic.length).set r ((Lp.byL (t.line r) s).c,wy)).map bC).flatten,.arr wO 3 1 t.others.length ((t.others.set s (t.bas r)).map aW).flatten,.arr wW 32 1 t.others.length (((Lp.putL t.worth s (Lp.byL (t.line r) s)).f).map aM).flatten]:List Ent)++(.arr wy 32 1 t.others.length ((Lp.byL (t.line r) s).f.map aM).flatten::((List.range t.basic.length).erase r).map (stE t wF r s t.basic.length))).Perm ((fo b n (t.pivot r s) wB wL wO wW λq=>if q=r then wy else wF q).map Lent.ent):=by
 have e:(t.pivot r s).basic.length=t.basic.length:=Tc;have g:(t.pivot r s).others.length=t.others.length:=Tc;rw[NS a d];refine(List.Perm.append_left _ (NT a d)).trans (List.Perm.of_eq ?_);unfold fo;simp only[S1,Lent.ent,e,g];rfl
theorem Ai {l:List Nat}(h:i<l.length):l[i]?=some (l.getD i 0):=by
 rw[ak,ah h];rfl
theorem bd (r s:Nat):(fo b n t wB wL wO wW wF).map Lent.ent=[.obj b (.cells ⟨[i_ n,wB,wL,wO,ae (qtx t.worth.c),wW]⟩ 231 (0,0)),.arr wB 3 1 t.basic.length ((t.basic).map aW).flatten,.arr wL 228 2 t.basic.length ((cW t wF).map bC).flatten,.arr wO 3 1 t.others.length ((t.others).map aW).flatten,.arr wW 32 1 t.others.length ((t.worth.f).map aM).flatten]++(List.range t.basic.length).map (stE t wF r s 0):=by
 have e:stE t wF r s 0=Lent.ent ∘ MN t wF:=funext λq=>by
  unfold stE;rw[uC];rfl
 rw[e,<- Th];rfl
def LineQ (k:Nat)(l:Lp.Line):Prop:=QB k l.c/\∀x∈l.f,QB k x
theorem LineQ.le {k m:Nat}{l:Lp.Line}(h:LineQ k l)(a:k<=m):LineQ m l:=⟨h.1.le a,λx b=>(h.2 x b).le a⟩
theorem LineQ.g {k:Nat}{l:Lp.Line}(h:LineQ k l){j:Nat}(a:j<l.f.length):QB k (l.g j):=by
 unfold Lp.Line.g;rw[ak,ah a];exact h.2 _ (Td _)
theorem Sc (h:LineQ 20 l)(c:s<l.f.length)(a:l.g s≠0):LineQ 40 (Lp.byL l s):=by
 have b:=h.g c;refine⟨jN (eO h.1) b a,λx d=>?_⟩;obtain⟨q,e,rfl⟩:=Sn.1 d;have i:=SE.1 e;split
 .exact jN ⟨by decide,by decide⟩ b a
 exact jN (eO (h.g i)) b a
theorem uX (C:Mem)(Q:Tabs C)(b n r s N:Nat)(t:Lp.Tab)(S T V d:Value)(a:Nat->Value)(W:t.Ok N)(hm:t.basic.length<=1000000)(aO:t.others.length<=1000000)(B:r<t.basic.length)(X:s<t.others.length)(hk:(t.line r).g s≠0)(hq:∀i,i<t.basic.length->LineQ 20 (t.line i))(ay:LineQ 20 t.worth) :
  Jog.Fn cx.P 205 [p_ b,i_ r,i_ s] C ((fo b n t S T V d a).map Lent.ent) λu _ A=>u=.tuple #[]/\∃az,A=(fo b n (t.pivot r s) S T V d az).map Lent.ent:=by
 have aP:=mx_
 have Y:=iC W B;have aA:=W.wl;have J:=hq r B;have ah:s<(t.line r).f.length:=by omega
 have ap:=J.g ah;have aq:=Sc J ah hk;refine V7 func205 123 U3 λw0=>?_;rw[bd r s];refine Wk (L':=[.obj b (.cells ⟨[i_ n,S,T,V,ae (qtx t.worth.c),d]⟩ 231 (0,0)),.arr S 3 1 t.basic.length ((t.basic).map aW).flatten,.arr T 228 2 t.basic.length ((cW t a).map bC).flatten,.arr V 3 1 t.others.length ((t.others).map aW).flatten,.arr d 32 1 t.others.length ((t.worth.f).map aM).flatten]++(List.range t.basic.length).map (stE t a r s 0)) U<|XJ 1 U om_ (λo p K=>?_);subst K;refine XJ 2 U om_ (λk l K=>?_);subst K;refine XJ 3 U om_ (λw x K=>?_);subst K;refine G.perm (L':=[.arr (a r) 32 1 t.others.length ((t.line r).f.map aM).flatten,.obj b (.cells ⟨[i_ n,s_ o t.basic.length p,s_ k t.basic.length l,s_ w t.others.length x,ae (qtx t.worth.c),d]⟩ 231 (0,0)),.arr (s_ o t.basic.length p) 3 1 t.basic.length ((t.basic).map aW).flatten,.arr (s_ k t.basic.length l) 228 2 t.basic.length ((cW t a).map bC).flatten,.arr (s_ w t.others.length x) 3 1 t.others.length ((t.others).map aW).flatten,.arr d 32 1 t.others.length ((t.worth.f).map aM).flatten]++((List.range t.basic.length).erase r).map (stE t a r s 0)) (by
  have h1:=mq range_nd (SE.2 B) (stE t a r s 0) (stE t a r s 0) (λ_ _ _=>rfl);refine(List.Perm.append_left _ h1).trans ?_;have e:stE t a r s 0 r=.arr (a r) 32 1 t.others.length ((t.line r).f.map aM).flatten:=by unfold stE;rw[uC]
  rw[e]
  (exact pkL [5] rfl)) ?_
 refine G.freezeArr 0 ((t.line r).f.map aM) U2 bK (by simp[Y]) (λ_ _ L=>?_);obtain⟨Z,c3,ar,aB,aQ,_⟩:=id L;rw[ar]at L;simp only[au]at L aB;have aC:(cW t a)[r]?=some ((t.line r).c,.slice Z (t.line r).f.length c3):=by rw[oV B,ar,au]
 refine U1 3 U λR y=>V9 ag U9<|V2 U6<|Ww (r*2) U10 w_ U2<|WJ (v:=.agg ⟨[ae (qtx (t.line r).c),.slice Z (t.line r).f.length c3]⟩) ac U6 (λ_=>(by rw[pf aC];rfl)) U2<|Wg U5 λb6=>Wa (j:=0) U12<|V5 [0,1,2,6] y U<|G.freeze 0 U λ_ _ ai=>U1 1 U λR y=>V1 (bkT ai 1) U8<|V2 U6<|Wf L.m_ U10 om_ (dR ah) fl_ λaR aD=>V1 aD U8<|C6 1 [0,1,2,6,7] y U<|Wt [(5,3)] U λR y=>V4 3 U<|V9 ag U9<|V2 U6<|D.call (gX _ t.others.length om_) U (.inr dc_) U6 (Sp _) fl_ (λaS _ aT _ aE=>?_);obtain⟨z,rfl,rfl⟩:=aE;refine Wm [ae [],s_ z t.others.length t.others.length] U8<|Wg U5 λE=>Wa (j:=0) U12<|V5 [0,1,2,6,7,8] y U<|U1 1 U λR y=>V1 (bkT ai 1) U8<|Wc (fq _ (t.line r).c (Su (aV J.1 dc_) dc_)) U7 fl_<|V2 U6<|Wc (iu _ Q.m_ (-(t.line r).c) ((t.line r).g s) 20 dc_ dc_ (eO J.1) ap hk) U7 fl_<|V4 4 U<|Wa (j:=0) U12<|V5 [0,1,2,6,7,8] y U<|U1 1 U λR y=>V1 (bkT ai 1) U8<|C6 2 [0,1,2,7,8,41,42,43] y U<|Wk (L':=[.obj E (.cells ⟨[ae (qtx (Lp.byL (t.line r) s).c),s_ z t.others.length t.others.length]⟩ 228 (0,0)),.arr (s_ z t.others.length t.others.length) 32 1 t.others.length ((byF (t.line r) s 0).map aM).flatten,.obj b (.cells ⟨[i_ n,s_ o t.basic.length p,s_ k t.basic.length l,s_ w t.others.length x,ae (qtx t.worth.c),d]⟩ 231 (0,0)),.arr (s_ o t.basic.length p) 3 1 t.basic.length ((t.basic).map aW).flatten,.arr (s_ k t.basic.length l) 228 2 t.basic.length ((cW t a).map bC).flatten,.arr (s_ w t.others.length x) 3 1 t.others.length ((t.others).map aW).flatten,.arr d 32 1 t.others.length ((t.worth.f).map aM).flatten]++((List.range t.basic.length).erase r).map (stE t a r s 0)) (by rw[<- Mh,Y,<- uM];rfl)<|G.loop (λfr C' A M=>∃(j:Nat),(j<=(t.line r).f.length)/\fr=[(0,[],p_ b),(1,[],i_ r),(2,[],i_ s),(7,[],ae (qtx ((t.line r).g s))),(8,[],p_ E),(41,[],.slice Z (t.line r).f.length c3),(42,[],i_ (t.line r).f.length),(43,[],i_ j)]/\A=[.obj E (.cells ⟨[ae (qtx (Lp.byL (t.line r) s).c),s_ z t.others.length t.others.length]⟩ 228 (0,0)),.arr (s_ z t.others.length t.others.length) 32 1 t.others.length ((byF (t.line r) s j).map aM).flatten,.obj b (.cells ⟨[i_ n,s_ o t.basic.length p,s_ k t.basic.length l,s_ w t.others.length x,ae (qtx t.worth.c),d]⟩ 231 (0,0)),.arr (s_ o t.basic.length p) 3 1 t.basic.length ((t.basic).map aW).flatten,.arr (s_ k t.basic.length l) 228 2 t.basic.length ((cW t a).map bC).flatten,.arr (s_ w t.others.length x) 3 1 t.others.length ((t.others).map aW).flatten,.arr d 32 1 t.others.length ((t.worth.f).map aM).flatten]++((List.range t.basic.length).erase r).map (stE t a r s 0)/\M=(t.line r).f.length-j) (hn_ [0,1,2,7,8,41,42,43] U) ⟨0,Sm _,U,U,U⟩ (λfr aU aX m _ O=>?_);obtain⟨j,hj,rfl,rfl,rfl⟩:=O;refine U0 1 [0,1,2,7,8,41,42,43,44] U<|G.cd (λaj=>?_) λaj=>?_
 .have I:j<(t.line r).f.length:=by
   have:=RD aj;omega
  have av:QB 20 (if j=s then (-1:Rat) else (t.line r).g j):=by
   split
   .exact⟨by decide,by decide⟩
   exact J.g I
  refine U1 1 U λR y=>Wf L.m_ U10 om_ (show((t.line r).f.map aM)[j]?=some (aM ((t.line r).g j)) from dR I) fl_ λaY aG=>V1 aG U8<|C6 2 [0,1,2,7,8,9,10,41,42,43] y U<|U0 3 [0,1,2,7,8,9,10,41,42,43,50] U<|G.cut (λfr C' A M=>(True)/\fr=[(0,[],p_ b),(1,[],i_ r),(2,[],i_ s),(7,[],ae (qtx ((t.line r).g s))),(8,[],p_ E),(9,[],i_ j),(10,[],ae (qtx (if j=s then (-1:Rat) else (t.line r).g j))),(41,[],.slice Z (t.line r).f.length c3),(42,[],i_ (t.line r).f.length),(43,[],i_ j)]/\A=[.obj E (.cells ⟨[ae (qtx (Lp.byL (t.line r) s).c),s_ z t.others.length t.others.length]⟩ 228 (0,0)),.arr (s_ z t.others.length t.others.length) 32 1 t.others.length ((byF (t.line r) s j).map aM).flatten,.obj b (.cells ⟨[i_ n,s_ o t.basic.length p,s_ k t.basic.length l,s_ w t.others.length x,ae (qtx t.worth.c),d]⟩ 231 (0,0)),.arr (s_ o t.basic.length p) 3 1 t.basic.length ((t.basic).map aW).flatten,.arr (s_ k t.basic.length l) 228 2 t.basic.length ((cW t a).map bC).flatten,.arr (s_ w t.others.length x) 3 1 t.others.length ((t.others).map aW).flatten,.arr d 32 1 t.others.length ((t.worth.f).map aM).flatten]++((List.range t.basic.length).erase r).map (stE t a r s 0)) ?_ (λfr _ aZ M _ O=>?_)
  .refine G.cd (λak=>?_) λak=>?_
   .have al:j=s:=by
     have ab:((j:Int) == (s:Int))=true:=ak;have:=eq_of_beq ab;omega
    refine U0 1 [0,1,2,7,8,9,10,41,42,43] U<|Wj 0 l_ (hn_ [0,1,2,7,8,9,10,41,42,43] U) ⟨trivial,by rw[aK al,QG];rfl,U⟩
   have al:¬ j=s:=by
    have ab:((j:Int) == (s:Int))=false:=ak;intro h;rw[h]at ab;simp at ab
   refine Wj 0 l_ (hn_ [0,1,2,7,8,9,10,41,42,43] U) ⟨trivial,by rw[aF al],U⟩
  obtain⟨a0,rfl,rfl⟩:=O;refine Wn [0,1,2,3,4,5,6,7,8,9,10,11] [(4,1),(6,1)] U kr_ λR hB y=>V2 U6<|V9 ag U9<|V4 2 U<|Wo (λ_=>(fq _ (if j=s then (-1:Rat) else (t.line r).g j) (Su (aV av dc_) dc_))) U9<|V2 U6<|Wo (λ_=>(iu _ Q.m_ (-(if j=s then (-1:Rat) else (t.line r).g j)) ((t.line r).g s) 20 dc_ dc_ (eO av) ap hk)) U9<|V4 3 U<|Ww (j*1) U10 w_ U2<|WA (j:=1) U11 (by show j*1+1<=_;rw[bM bE,lG];omega)<|V5 [0,1,2,7,8,41,42,43] y U<|V3 λR y=>V8 _ U U6<|C6 1 [0,1,2,7,8,41,42,43] y U<|G.perm (L':=[.obj E (.cells ⟨[ae (qtx (Lp.byL (t.line r) s).c),s_ z t.others.length t.others.length]⟩ 228 (0,0)),.arr (s_ z t.others.length t.others.length) 32 1 t.others.length ((byF (t.line r) s (j+1)).map aM).flatten,.obj b (.cells ⟨[i_ n,s_ o t.basic.length p,s_ k t.basic.length l,s_ w t.others.length x,ae (qtx t.worth.c),d]⟩ 231 (0,0)),.arr (s_ o t.basic.length p) 3 1 t.basic.length ((t.basic).map aW).flatten,.arr (s_ k t.basic.length l) 228 2 t.basic.length ((cW t a).map bC).flatten,.arr (s_ w t.others.length x) 3 1 t.others.length ((t.others).map aW).flatten,.arr d 32 1 t.others.length ((t.worth.f).map aM).flatten]++((List.range t.basic.length).erase r).map (stE t a r s 0)) (by rw[<- PB I,<- bI bE _ (by rw[lG];exact I)];exact List.Perm.swap _ _ _)<|We (m':=(t.line r).f.length-(j+1)) om_ mup (hn_ [0,1,2,7,8,41,42,43] U) ⟨j+1,om_,U,U,U⟩
 have I:j=(t.line r).f.length:=by
  have:=Si aj;omega
 rw[I,PC];refine G.freeze 0 U λ_ _ am=>U1 3 U λR y=>V9 af U9<|C6 2 [0,1,2,8,67,68] y U<|G.perm (L':=[.arr (s_ z t.others.length t.others.length) 32 1 t.others.length (((Lp.byL (t.line r) s).f).map aM).flatten,.arr (s_ k t.basic.length l) 228 2 t.basic.length ((stV t a r s 0).map bC).flatten,.obj b (.cells ⟨[i_ n,s_ o t.basic.length p,s_ k t.basic.length l,s_ w t.others.length x,ae (qtx t.worth.c),d]⟩ 231 (0,0)),.arr (s_ o t.basic.length p) 3 1 t.basic.length ((t.basic).map aW).flatten,.arr (s_ w t.others.length x) 3 1 t.others.length ((t.others).map aW).flatten,.arr d 32 1 t.others.length ((t.worth.f).map aM).flatten]++((List.range t.basic.length).erase r).map (stE t a r s 0)) (by rw[Kc];(exact pkL [0,2] U))<|G.loop (λfr C' A M=>∃(i:Nat),(i<=t.basic.length)/\fr=[(0,[],p_ b),(1,[],i_ r),(2,[],i_ s),(8,[],p_ E),(67,[],i_ t.basic.length),(68,[],i_ i)]/\A=[.arr (s_ z t.others.length t.others.length) 32 1 t.others.length (((Lp.byL (t.line r) s).f).map aM).flatten,.arr (s_ k t.basic.length l) 228 2 t.basic.length ((stV t a r s i).map bC).flatten,.obj b (.cells ⟨[i_ n,s_ o t.basic.length p,s_ k t.basic.length l,s_ w t.others.length x,ae (qtx t.worth.c),d]⟩ 231 (0,0)),.arr (s_ o t.basic.length p) 3 1 t.basic.length ((t.basic).map aW).flatten,.arr (s_ w t.others.length x) 3 1 t.others.length ((t.others).map aW).flatten,.arr d 32 1 t.others.length ((t.worth.f).map aM).flatten]++((List.range t.basic.length).erase r).map (stE t a r s i)/\M=t.basic.length-i) (hn_ [0,1,2,8,67,68] U) ⟨0,Sm _,U,U,U⟩ (λfr a1 a2 m _ O=>?_);obtain⟨i,hi,rfl,rfl,rfl⟩:=O;refine U0 1 [0,1,2,8,67,68,69] U<|G.cd (λan=>?_) λan=>?_
 .have F:i<t.basic.length:=by
   have:=RD an;omega
  refine U0 2 [0,1,2,8,11,67,68] U<|U0 3 [0,1,2,8,11,67,68,73] U<|G.cd (λao=>?_) λao=>?_
  .have H:i≠r:=by
    have ad:(!((i:Int) == (r:Int)))=true:=ao;intro h;rw[h]at ad;simp at ad
   have aw:i∈(List.range t.basic.length).erase r:=(List.Nodup.mem_erase_iff range_nd).2 ⟨H,SE.2 F⟩;have ax:=mq (range_nd.erase r) aw (stE t a r s i) (stE t a r s (i+1)) (λq _ aH=>by unfold stE;rw[pX aH]);have he:stE t a r s i i=.arr (a i) 32 1 t.others.length ((t.line i).f.map aM).flatten:=by unfold stE;rw[(oS H).1]
   have aI:stE t a r s (i+1) i=.arr (a i) 32 1 t.others.length ((Lp.putL (t.line i) s (Lp.byL (t.line r) s)).f.map aM).flatten:=by unfold stE;rw[(oS H).2]
   have aJ:(stV t a r s i)[i]?=some ((t.line i).c,a i):=by rw[Cu F,(oS H).1]
   rw[he]at ax;refine G.perm (L':=[.arr (s_ z t.others.length t.others.length) 32 1 t.others.length (((Lp.byL (t.line r) s).f).map aM).flatten,.arr (s_ k t.basic.length l) 228 2 t.basic.length ((stV t a r s i).map bC).flatten,.arr (a i) 32 1 t.others.length ((t.line i).f.map aM).flatten,.obj b (.cells ⟨[i_ n,s_ o t.basic.length p,s_ k t.basic.length l,s_ w t.others.length x,ae (qtx t.worth.c),d]⟩ 231 (0,0)),.arr (s_ o t.basic.length p) 3 1 t.basic.length ((t.basic).map aW).flatten,.arr (s_ w t.others.length x) 3 1 t.others.length ((t.others).map aW).flatten,.arr d 32 1 t.others.length ((t.worth.f).map aM).flatten]++(((List.range t.basic.length).erase r).erase i).map (stE t a r s (i+1))) ((List.Perm.append_left _ ax).trans (pkL [0,0,4] U))<|Wn [0,1,2,3,4,5,6,7,8] [(8,3)] U kr_ λR hB y=>V4 3 U<|V9 aa U9<|V2 U6<|Ww (i*2) U10 w_ U2<|V2 U6<|V1 (bkT am 2) U8<|D.call (KM _ Q.m_ k t.basic.length l i t.others.length s (a i) (s_ z t.others.length t.others.length) (stV t a r s i) (t.line i) (Lp.byL (t.line r) s) jm aJ (iC W F) (by rw[wh];exact Y) X ((hq i F).le dc_) (aq.le dc_)) U (.inr dc_) U6 (pkL [0,0,0] U) fl_ λa3 _ a4 _ aL=>V5 [0,1,2,8,67,68] y U ?_;obtain⟨-,rfl⟩:=aL;refine G.perm (L':=[.arr (s_ z t.others.length t.others.length) 32 1 t.others.length (((Lp.byL (t.line r) s).f).map aM).flatten,.arr (s_ k t.basic.length l) 228 2 t.basic.length ((stV t a r s (i+1)).map bC).flatten,.obj b (.cells ⟨[i_ n,s_ o t.basic.length p,s_ k t.basic.length l,s_ w t.others.length x,ae (qtx t.worth.c),d]⟩ 231 (0,0)),.arr (s_ o t.basic.length p) 3 1 t.basic.length ((t.basic).map aW).flatten,.arr (s_ w t.others.length x) 3 1 t.others.length ((t.others).map aW).flatten,.arr d 32 1 t.others.length ((t.worth.f).map aM).flatten]++((List.range t.basic.length).erase r).map (stE t a r s (i+1))) (by
    rw[<- NR F H];refine List.Perm.trans (l₂:=[.arr (s_ z t.others.length t.others.length) 32 1 t.others.length (((Lp.byL (t.line r) s).f).map aM).flatten,.arr (s_ k t.basic.length l) 228 2 t.basic.length (((stV t a r s i).set i ((Lp.putL (t.line i) s (Lp.byL (t.line r) s)).c,a i)).map bC).flatten,.obj b (.cells ⟨[i_ n,s_ o t.basic.length p,s_ k t.basic.length l,s_ w t.others.length x,ae (qtx t.worth.c),d]⟩ 231 (0,0)),.arr (s_ o t.basic.length p) 3 1 t.basic.length ((t.basic).map aW).flatten,.arr (s_ w t.others.length x) 3 1 t.others.length ((t.others).map aW).flatten,.arr d 32 1 t.others.length ((t.worth.f).map aM).flatten]++(.arr (a i) 32 1 t.others.length ((Lp.putL (t.line i) s (Lp.byL (t.line r) s)).f.map aM).flatten::(((List.range t.basic.length).erase r).erase i).map (stE t a r s (i+1)))) (pkL [0,0,1,1,1,1] U) (List.Perm.append_left _ ?_);rw[<- aI];exact(mq (range_nd.erase r) aw (stE t a r s (i+1)) (stE t a r s (i+1)) (λ_ _ _=>rfl)).symm) ?_
   refine V3 λR y=>V8 _ U U6<|C6 1 [0,1,2,8,67,68] y U<|We (m':=t.basic.length-(i+1)) om_ mup (hn_ [0,1,2,8,67,68] U) ⟨i+1,om_,U,U,U⟩
  have H:i=r:=by
   have ad:(!((i:Int) == (r:Int)))=false:=ao;simp at ad;omega
  refine Wk (L':=[.arr (s_ z t.others.length t.others.length) 32 1 t.others.length (((Lp.byL (t.line r) s).f).map aM).flatten,.arr (s_ k t.basic.length l) 228 2 t.basic.length ((stV t a r s (i+1)).map bC).flatten,.obj b (.cells ⟨[i_ n,s_ o t.basic.length p,s_ k t.basic.length l,s_ w t.others.length x,ae (qtx t.worth.c),d]⟩ 231 (0,0)),.arr (s_ o t.basic.length p) 3 1 t.basic.length ((t.basic).map aW).flatten,.arr (s_ w t.others.length x) 3 1 t.others.length ((t.others).map aW).flatten,.arr d 32 1 t.others.length ((t.worth.f).map aM).flatten]++((List.range t.basic.length).erase r).map (stE t a r s (i+1))) (by
   have e:stE t a r s (r+1)=stE t a r s r:=funext λq=>by unfold stE;rw[Cv]
   rw[H,Kd,e]) ?_
  refine V3 λR y=>V8 _ U U6<|C6 1 [0,1,2,8,67,68] y U<|We (m':=t.basic.length-(i+1)) om_ mup (hn_ [0,1,2,8,67,68] U) ⟨i+1,om_,U,U,U⟩
 have F:i=t.basic.length:=by
  have:=Si an;omega
 rw[F];refine G.perm (L':=[.arr (s_ z t.others.length t.others.length) 32 1 t.others.length (((Lp.byL (t.line r) s).f).map aM).flatten,.obj b (.cells ⟨[i_ n,s_ o t.basic.length p,s_ k t.basic.length l,s_ w t.others.length x,ae (qtx t.worth.c),d]⟩ 231 (0,0)),.arr d 32 1 t.others.length ((t.worth.f).map aM).flatten,.arr (s_ k t.basic.length l) 228 2 t.basic.length ((stV t a r s t.basic.length).map bC).flatten,.arr (s_ o t.basic.length p) 3 1 t.basic.length ((t.basic).map aW).flatten,.arr (s_ w t.others.length x) 3 1 t.others.length ((t.others).map aW).flatten]++((List.range t.basic.length).erase r).map (stE t a r s t.basic.length)) (pkL [0,1,3,0,0,0] U)<|Wn [0,1,2,3,4,5] [(5,3)] U kr_ λR hB y=>V4 4 U<|V1 (bkT am 2) U8<|D.call (KK _ Q.m_ b t.others.length s (i_ n) (s_ o t.basic.length p) (s_ k t.basic.length l) (s_ w t.others.length x) d (s_ z t.others.length t.others.length) t.worth (Lp.byL (t.line r) s) aA (by rw[wh];exact Y) X (ay.le dc_) (aq.le dc_)) U (.inr dc_) U6 (pkL [0,0,0] U) fl_ λa5 _ a6 _ aN=>V5 [0,1,2,8] y U ?_;obtain⟨-,rfl⟩:=aN;refine G.perm (L':=[.obj b (.cells ⟨[i_ n,s_ o t.basic.length p,s_ k t.basic.length l,s_ w t.others.length x,ae (qtx (Lp.putL t.worth s (Lp.byL (t.line r) s)).c),d]⟩ 231 (0,0)),.arr (s_ o t.basic.length p) 3 1 t.basic.length ((t.basic).map aW).flatten,.arr (s_ k t.basic.length l) 228 2 t.basic.length ((stV t a r s t.basic.length).map bC).flatten,.arr (s_ w t.others.length x) 3 1 t.others.length ((t.others).map aW).flatten,.arr d 32 1 t.others.length (((Lp.putL t.worth s (Lp.byL (t.line r) s)).f).map aM).flatten,.arr (s_ z t.others.length t.others.length) 32 1 t.others.length (((Lp.byL (t.line r) s).f).map aM).flatten]++((List.range t.basic.length).erase r).map (stE t a r s t.basic.length)) (pkL [1,3,2,2,1] U)<|Wn [0,1,2,3,4,5,6,7] [] U kr_ λR hB y=>V4 3 U<|V9 ag U9<|V2 U6<|V1 (bkT am 2) U8<|Ww (r*2) U10 w_ U2<|WA (j:=2) U11 (by show r*2+2<=_;rw[bM ig,jm];omega)<|V5 [0,1,2] y U<|Wk (L':=[.arr (s_ k t.basic.length l) 228 2 t.basic.length (((stV t a r s t.basic.length).set r ((Lp.byL (t.line r) s).c,s_ z t.others.length t.others.length)).map bC).flatten,.obj b (.cells ⟨[i_ n,s_ o t.basic.length p,s_ k t.basic.length l,s_ w t.others.length x,ae (qtx (Lp.putL t.worth s (Lp.byL (t.line r) s)).c),d]⟩ 231 (0,0)),.arr (s_ o t.basic.length p) 3 1 t.basic.length ((t.basic).map aW).flatten,.arr (s_ w t.others.length x) 3 1 t.others.length ((t.others).map aW).flatten,.arr d 32 1 t.others.length (((Lp.putL t.worth s (Lp.byL (t.line r) s)).f).map aM).flatten,.arr (s_ z t.others.length t.others.length) 32 1 t.others.length (((Lp.byL (t.line r) s).f).map aM).flatten]++((List.range t.basic.length).erase r).map (stE t a r s t.basic.length)) (by rw[<- bI ig _ (by rw[jm];exact B)];rfl)<|Wn [0,1,2,3,4,5,6,7,8,9,10,11,12,13,14,15,16,17,18,19,20,21,22,23,24,25,26,27] [] U kr_ λR hB y=>V4 3 U<|V9 af U9<|V4 4 U<|V9 af U9<|V4 4 U<|V9 af U9<|V2 U6<|Ww (s*1) U10 w_ U2<|WJ aa U6 (λ_=>(by rw[dx eB (show t.others[s]?=some (t.oth s) from Ai X)];rfl)) U2<|V4 3 U<|V9 af U9<|V2 U6<|Ww (r*1) U10 w_ U2<|WJ ac U6 (λ_=>(by rw[dx eB (show t.basic[r]?=some (t.bas r) from Ai B)];rfl)) U2<|Ww (r*1) U10 w_ U2<|WA (j:=2) U11 (by show r*1+1<=_;rw[bM eB];omega)<|Ww (s*1) U10 w_ U2<|WA (j:=3) U11 (by show s*1+1<=_;rw[bM eB];omega)<|WV [] trivial (y _ _ _ U ?_);refine G.perm (L':=(fo b n (t.pivot r s) (s_ o t.basic.length p) (s_ k t.basic.length l) (s_ w t.others.length x) d (λq=>if q=r then (s_ z t.others.length t.others.length) else a q)).map Lent.ent) (by
  refine List.Perm.trans ?_ (NP W B);rw[<- bI eB _ B,<- bI eB _ X]
  (exact pkL [3,1,1,0,0,0] rfl)) ?_
 exact Xc U<|⟨U,_,U⟩
theorem vk (h:Lp.Inv p cc t)(b:Lp.Lim p cc 20)(a:i<t.basic.length):LineQ 20 (t.line i):=by
 refine⟨h.con b a,λx c=>?_⟩;obtain⟨s,hs,rfl⟩:=List.mem_iff_getElem.1 c;have d:=iC h.tab.ok a;have h1:=h.fac b a (s:=s) om_;unfold Lp.Line.g at h1;rw[ak,ah hs]at h1;exact h1
theorem pJ (h:Lp.Inv p cc t)(a:Lp.Lim p cc 20):LineQ 20 t.worth:=by
 refine⟨h.wcon a,λx b=>?_⟩;obtain⟨s,hs,rfl⟩:=List.mem_iff_getElem.1 b;have c:=h.tab.ok.wl;have h1:=h.wfac a (s:=s) om_;unfold Lp.Line.g at h1;rw[ak,ah hs]at h1;exact h1
theorem LineQ.g0 (h:LineQ k l)(a:k<=m)(b:1<=m)(j:Nat):QB m (l.g j):=by
 unfold Lp.Line.g;rw[ak];by_cases c:j<l.f.length
 .rw[ah c];exact(h.2 _ (Td _)).le a
 rw[Sq om_];exact Lp.qb_zero b
theorem ni {c:Nat->Prop}(h:Lp.LeastR vs q n o)(e:∀i,i<n->(q i ↔ c i)):Lp.LeastR vs c n o:=by
 cases h with
|none h=>exact .none λi a b=>h i a ((e i a).2 b)
|some i a b hm=>exact .some i a ((e i a).1 b) λj d f=>hm j d ((e j d).2 f)
theorem iE (h:Lp.LeastR vs q n o)(a:¬ o<0):∃i:Nat,o=i/\i<n/\q i/\∀j,j<n->q j->vs.getD i 0<=vs.getD j 0:=by
 cases h with
|none h=>exact absurd dc_ a
|some i b c hm=>exact⟨i,rfl,b,c,hm⟩
theorem iF (h:Lp.LeastR vs q n o)(a:o<0):∀i,i<n->¬ q i:=by
 cases h with
|none h=>exact h
|some i b c hm=>omega
section
variable {C:Mem} {a a2 b n N:Nat} {r:Int} {t:Lp.Tab} {wB wL wO wW:Value} {wF:Nat->Value}
theorem Cl (c:t.Ok N):∀x∈.obj a2 [i_ r] 3::fo b n t wB wL wO wW wF,x.wf:=λx a=>by
 rcases Sw.1 a with rfl|a
 .trivial
 exact gE c x a
theorem Ie (d:t.Ok N)(j:C a=some (.cells ⟨[p_ b]⟩ 221 (0,0)))(k:∀i,i<t.basic.length->LineQ 20 (t.line i)) :
  Jog.Fn cx.P 206 [wB,.func (.func 207) #[] #[p_ a]] C ((.obj a2 [i_ r] 3::fo b n t wB wL wO wW wF).map Lent.ent)
   λu _ e=>(∃o:Int,u=i_ o/\Lp.LeastR t.basic (λi=>n<=t.bas i/\(t.line i).c<0) t.basic.length o)/\e=(.obj a2 [i_ r] 3::fo b n t wB wL wO wW wF).map Lent.ent:=by
 refine Xa kr_ _ (Cl d) λl m hs=>?_;have f:=ff d λx p=>hs x (Sv _ p);refine(pg l wB t.basic 207 [p_ a] (λi=>decide (n<=t.bas i) && decide ((t.line i).c<0)) f.B kr_ λi g D h =>
  LJ D a b n i N t wB wL wO wW _ (f.mono h) d ((m.trans h) _ _ j) g ((k i g).1.le dc_)).mono ?_
 rintro u D e _ ⟨h1,o,rfl,h2⟩;exact⟨h1,o,U,ni h2 λi _=>by simp⟩
theorem Ic {r:Nat}(c:t.Ok N)(h:C a=some (.cells ⟨[p_ b]⟩ 221 (0,0)))(j:r<t.basic.length)(k:LineQ 20 (t.line r)) :
  Jog.Fn cx.P 206 [wO,.func (.func 208) #[] #[p_ a,p_ a2]] C ((.obj a2 [i_ r] 3::fo b n t wB wL wO wW wF).map Lent.ent)
   λu _ e=>(∃o:Int,u=i_ o/\Lp.LeastR t.others (λi=>n<=t.oth i/\0<(t.line r).g i) t.others.length o)/\e=(.obj a2 [i_ r] 3::fo b n t wB wL wO wW wF).map Lent.ent:=by
 refine Xa kr_ _ (Cl c) λl m hs=>?_;have f:=ff c λx p=>hs x (Sv _ p);have h2:=hs _ (Sj ..);refine(pg l wO t.others 208 [p_ a,p_ a2] (λi=>decide (n<=t.oth i) && decide (0<(t.line r).g i)) f.O kr_ λi q D d =>
  LI D a a2 b n i r N t wB wL wO wW _ (f.mono d) c ((m.trans d) _ _ h) (d _ _ h2) j q (k.g0 dc_ dc_ i)).mono ?_
 rintro u D e _ ⟨h1,o,rfl,h2⟩;exact⟨h1,o,U,ni h2 λi _=>by simp⟩
end
inductive FeasO (p:Lp.Sys) (t:Lp.Tab):Value->Prop where
|yes:t.Feas p.n->FeasO p t (.tuple #[.int .i64 0,.bool true])
|no (r:Nat):r<t.basic.length->p.n<=t.bas r->(t.line r).c<0->(∀s,s<t.others.length->p.n<=t.oth s->(t.line r).g s<=0)->FeasO p t (.tuple #[.int .i64 r,.bool false])
abbrev zah:=λv a=>Ent.obj v (.cells ⟨[i_ a]⟩ 3 (0,0))
theorem AT (C:Mem)(hT:Tabs C)(p:Lp.Sys)(A:Nat->Rat)(b:Nat)(d:Lp.Tab)(e h k l:Value)(B:Nat->Value)(q:Lp.Inv p A d)(a:Lp.Rel p.n d p.n)(T:Lp.Lim p A 20)(hm:p.m<=1000000)(hn:p.n<=1000000) :
  Jog.Fn cx.P 138 [p_ b] C ((fo b p.n d e h k l B).map Lent.ent) λu _ w=>∃t wF,Lp.Inv p A t/\Lp.Rel p.n t p.n/\FeasO p t u/\w=(fo b p.n t e h k l wF).map Lent.ent:=by
 have an:=mx_
 refine V7 func138 26 U3 λw0=>?_;refine V3 λR a=>?_;refine Wi U6 (λb1=>?_);refine Wg U5 (λv=>?_);refine C6 1 [1,2] a U ?_;clear a R;refine G.freeze 1 U (λ_ _ x=>?_);refine Wk (L':=[zah v 0,.obj b (.cells ⟨[i_ p.n,e,h,k,ae (qtx d.worth.c),l]⟩ 231 (0,0)),.arr e 3 1 d.basic.length ((d.basic).map aW).flatten,.arr h 228 2 d.basic.length ((cW d B).map bC).flatten,.arr k 3 1 d.others.length ((d.others).map aW).flatten,.arr l 32 1 d.others.length ((d.worth.f).map aM).flatten]++(List.range d.basic.length).map (stE d B 0 0 0)) (by rw[bd 0 0];rfl) ?_;refine G.loop (λfr C' w μ=>∃(t:Lp.Tab)(wF:Nat->Value)(o:Int)(E:Nat),(Lp.Inv p A t/\Lp.Rel p.n t p.n/\∀K,Lp.Reach (Lp.FeasP p.n) t K->K<=E)/\fr=[(1,[],p_ b1),(2,[],p_ v)]/\w=[zah v o,.obj b (.cells ⟨[i_ p.n,e,h,k,ae (qtx t.worth.c),l]⟩ 231 (0,0)),.arr e 3 1 t.basic.length ((t.basic).map aW).flatten,.arr h 228 2 t.basic.length ((cW t wF).map bC).flatten,.arr k 3 1 t.others.length ((t.others).map aW).flatten,.arr l 32 1 t.others.length ((t.worth.f).map aM).flatten]++(List.range t.basic.length).map (stE t wF 0 0 0)/\μ=E) (hn_ [1,2] U) ⟨d,B,0,2 ^ (p.n+p.m),⟨q,a,λK F=>Lp.feas_len q.tab.ok F⟩,U,U,U⟩ (λfr ao ap m _ q=>?_);obtain⟨t,wF,o,E,⟨q,a,F⟩,rfl,rfl,rfl⟩:=q;have ok:=q.tab.ok;have aa:t.basic.length<=1000000:=by rw[q.tab.lb];exact hm
 have ab:t.others.length<=1000000:=by rw[q.tab.lo];exact hn
 have H:∀i,i<t.basic.length->LineQ 20 (t.line i):=λi y=>vk q T y;refine Wt [(5,3)] U (λR a=>?_);refine V1 (bkT x 1) U8 ?_;refine V4 2 U ?_;refine V9 af U9 ?_;refine V2 U6 ?_;refine D.call (Ie ok (Mem.get x mup) H) U (.inr dc_) U6 (show List.Perm _ (((.obj v [i_ o] 3::fo b p.n t e h k l wF).map Lent.ent)++[]) from List.Perm.of_eq (by rw[SF,S1,bd 0 0];rfl)) fl_ (λaq _ ar _ ac=>?_);obtain⟨⟨I,rfl,V⟩,rfl⟩:=ac;refine Wa (j:=0) U12 ?_;refine V5 [1,2] a U ?_;clear a R;refine Wk (L':=[zah v I,.obj b (.cells ⟨[i_ p.n,e,h,k,ae (qtx t.worth.c),l]⟩ 231 (0,0)),.arr e 3 1 t.basic.length ((t.basic).map aW).flatten,.arr h 228 2 t.basic.length ((cW t wF).map bC).flatten,.arr k 3 1 t.others.length ((t.others).map aW).flatten,.arr l 32 1 t.others.length ((t.worth.f).map aM).flatten]++(List.range t.basic.length).map (stE t wF 0 0 0)) (by rw[SF,S1,bd 0 0];rfl) ?_;refine V3 λR a=>?_;refine V9 ag U9 ?_;refine C6 1 [1,2,12] a U ?_;clear a R;refine G.cd (λJ=>?_) λJ=>?_
 .have L:I<0:=RD J;have M:=iF V L;refine V3 λR a=>?_;refine Wa (j:=0) U12 ?_;refine C6 1 [2,3] a U ?_;clear a R;refine Wd (X2 0 U U U U U U ?_);exact⟨t,wF,q,a,.yes (λi y z=>by have:=M i y;grind),by rw[bd 0 0];rfl⟩
 have L:¬ I<0:=Si J;obtain⟨r,rfl,hr,⟨N,W⟩,ad⟩:=iE V L;refine Wt [(5,3)] U (λR a=>?_);refine V1 (bkT x 1) U8 ?_;refine V4 2 U ?_;refine V9 af U9 ?_;refine V2 U6 ?_;refine D.call (Ic ok (Mem.get x mup) hr (H r hr)) U (.inr dc_) U6 (show List.Perm _ (((.obj v [i_ (r:Nat)] 3::fo b p.n t e h k l wF).map Lent.ent)++[]) from List.Perm.of_eq (by rw[SF,S1,bd 0 0];rfl)) fl_ (λau _ av _ ah=>?_);refine C6 1 [1,2,4] a U ?_;clear a R;obtain⟨⟨X,rfl,Y⟩,rfl⟩:=ah;refine Wk (L':=[.obj v (.cells ⟨[i_ (r:Nat)]⟩ 3 (0,0)),.obj b (.cells ⟨[i_ p.n,e,h,k,ae (qtx t.worth.c),l]⟩ 231 (0,0)),.arr e 3 1 t.basic.length ((t.basic).map aW).flatten,.arr h 228 2 t.basic.length ((cW t wF).map bC).flatten,.arr k 3 1 t.others.length ((t.others).map aW).flatten,.arr l 32 1 t.others.length ((t.worth.f).map aM).flatten]++(List.range t.basic.length).map (stE t wF 0 0 0)) (by rw[SF,S1,bd 0 0];rfl) ?_;refine U0 2 [1,2,4,20] U ?_;refine G.cd (λO=>?_) λO=>?_
 .have Q:X<0:=RD O;have M:=iF Y Q;refine V3 λR a=>?_;refine V9 ag U9 ?_;refine Wa (j:=0) U12 ?_;refine C6 1 [2,3] a U ?_;clear a R;refine Wd (X2 0 U U U U U U ?_);exact⟨t,wF,q,a,.no r hr N W (λs hs z=>by have:=M s hs;grind),by rw[bd 0 0];rfl⟩
 have Q:¬ X<0:=Si O;obtain⟨s,rfl,hs,⟨ai,aj⟩,ak⟩:=iE Y Q;have hP:Lp.FeasP p.n t r s:=⟨hr,hs,N,ai,W,λi y z hc=>ad i y ⟨z,hc⟩,aj,λj hj z hg=>ak j hj ⟨z,hg⟩⟩;have Z:(t.line r).g s≠0:=by grind
 obtain⟨aw,al⟩:=Lp.Reach.fall hP F;refine Wt [(3,3)] U (λR a=>?_);refine V1 (bkT x 1) U8 ?_;refine V9 ag U9 ?_;refine V2 U6 ?_;refine D.call (uX _ hT.m_ b p.n r s (p.n+p.m) t e h k l wF ok aa ab hr hs Z H (pJ q T)) U (.inr dc_) U6 (by rw[bd 0 0];exact(List.perm_append_singleton _ _).symm) fl_ (λax _ ay _ am=>?_);refine V5 [1,2] a U ?_;clear a R;obtain⟨-,S,rfl⟩:=am;refine G.perm (L':=[.obj v (.cells ⟨[i_ (r:Nat)]⟩ 3 (0,0)),.obj b (.cells ⟨[i_ p.n,e,h,k,ae (qtx (t.pivot r s).worth.c),l]⟩ 231 (0,0)),.arr e 3 1 (t.pivot r s).basic.length (((t.pivot r s).basic).map aW).flatten,.arr h 228 2 (t.pivot r s).basic.length ((cW (t.pivot r s) S).map bC).flatten,.arr k 3 1 (t.pivot r s).others.length (((t.pivot r s).others).map aW).flatten,.arr l 32 1 (t.pivot r s).others.length (((t.pivot r s).worth.f).map aM).flatten]++(List.range (t.pivot r s).basic.length).map (stE (t.pivot r s) S 0 0 0)) (by rw[bd 0 0];exact List.perm_append_singleton _ _) ?_;refine We (m':=m-1) om_ mup (hn_ [1,2] U) ⟨t.pivot r s,S,(r:Int),m-1,⟨q.pivot hr hs Z,Lp.rel_pivot ok a hr hs N,al⟩,U,U,U⟩
section
variable {C:Mem} {a b n N:Nat} {t:Lp.Tab} {wB wL wO wW:Value} {wF:Nat->Value}
theorem Ib (c:t.Ok N)(h:C a=some (.cells ⟨[p_ b]⟩ 221 (0,0))) :
  Jog.Fn cx.P 206 [wO,.func (.func 209) #[] #[p_ a]] C ((fo b n t wB wL wO wW wF).map Lent.ent)
   λu _ d=>(∃o:Int,u=i_ o/\Lp.LeastR t.others (λi=>¬ n<=t.oth i/\¬ t.worth.g i=0) t.others.length o)/\d=(fo b n t wB wL wO wW wF).map Lent.ent:=by
 refine Xa kr_ _ (gE c) λj k hs=>?_;have e:=ff c hs;refine(pg j wO t.others 209 [p_ a] (λi=>!decide (n<=t.oth i) && !decide (t.worth.g i=0)) e.O kr_ λi l D f =>
  OW D a b n i N t wB wL wO wW _ (e.mono f) c ((k.trans f) _ _ h) l).mono ?_
 rintro u D d _ ⟨h1,o,rfl,h2⟩;exact⟨h1,o,U,ni h2 λi _=>by simp⟩
theorem Ia (c:t.Ok N)(h:C a=some (.cells ⟨[p_ b]⟩ 221 (0,0)))(j:LineQ 20 t.worth) :
  Jog.Fn cx.P 206 [wO,.func (.func 210) #[] #[p_ a]] C ((fo b n t wB wL wO wW wF).map Lent.ent)
   λu _ d=>(∃o:Int,u=i_ o/\Lp.LeastR t.others (λi=>n<=t.oth i/\t.worth.g i<0) t.others.length o)/\d=(fo b n t wB wL wO wW wF).map Lent.ent:=by
 refine Xa kr_ _ (gE c) λk l hs=>?_;have e:=ff c hs;refine(pg k wO t.others 210 [p_ a] (λi=>decide (n<=t.oth i) && decide (t.worth.g i<0)) e.O kr_ λi m D f =>
  OV D a b n i N t wB wL wO wW _ (e.mono f) c ((l.trans f) _ _ h) m (j.g0 dc_ dc_ i)).mono ?_
 rintro u D d _ ⟨h1,o,rfl,h2⟩;exact⟨h1,o,U,ni h2 λi _=>by simp⟩
theorem H9 {s:Nat}(f:Tabs C)(a:t.Ok N)(d:s<t.others.length)(e:∀i,i<t.basic.length->LineQ 20 (t.line i)) :
  Jog.Fn cx.P 211 [p_ b,i_ s] C ((fo b n t wB wL wO wW wF).map Lent.ent)
   λu _ h=>(∃o:Int,u=i_ o/\Lp.LeaveR n t s t.basic.length o)/\h=(fo b n t wB wL wO wW wF).map Lent.ent :=
 Xa kr_ _ (gE a) λj k l=>Li j (f.mono k) b n s N t wB wL wO wW _ (ff a l) a d λi c=>⟨(e i c).1,(e i c).g (by rw[iC a c];exact d)⟩
end
theorem AD (h:Lp.LeaveR F t s n o)(a:o<0):∀i,i<n->F<=t.bas i->0<=(t.line i).g s:=by
 cases h with
|none h=>exact h
|some r _ _ _ _=>omega
theorem AC (h:Lp.LeaveR F t s n o)(a:¬ o<0):∃r:Nat,o=r/\r<n/\F<=t.bas r/\(t.line r).g s<0 /\
  ∀i,i<n->F<=t.bas i->(t.line i).g s<0->(t.line r).c / -(t.line r).g s<(t.line i).c / -(t.line i).g s∨(t.line r).c / -(t.line r).g s=(t.line i).c / -(t.line i).g s/\t.bas r<=t.bas i:=by
 cases h with
|none h=>exact absurd dc_ a
|some r h1 h2 h3 h4=>exact⟨r,rfl,h1,h2,h3,h4⟩
inductive MinO (p:Lp.Sys) (t:Lp.Tab):Value->Prop where
|yes:Lp.RelW p.n t->(∀s,s<t.others.length->p.n<=t.oth s->0<=t.worth.g s)->MinO p t (.tuple #[.int .i64 0,.bool true])
|no (s:Nat):s<t.others.length->lJ t s*t.worth.g s<0->(∀i,i<t.basic.length->p.n<=t.bas i->0<=lJ t s*(t.line i).g s)->(p.n<=t.oth s->0<=lJ t s)->MinO p t (.tuple #[.int .i64 s,.bool false])
theorem Ak (C:Mem)(V:Tabs C)(p:Lp.Sys)(F:Nat->Rat)(b:Nat)(a:Lp.Tab)(e k l o:Value)(v:Nat->Value)(q:Lp.Inv p F a)(d:Lp.Rel p.n a p.n)(A:a.Feas p.n)(W:Lp.Lim p F 20)(hm:p.m<=1000000)(hn:p.n<=1000000) :
  Jog.Fn cx.P 140 [p_ b] C ((fo b p.n a e k l o v).map Lent.ent) λu _ w=>∃t wF,Lp.Inv p F t/\t.Feas p.n/\MinO p t u/\w=(fo b p.n t e k l o wF).map Lent.ent:=by
 have aw:=mx_
 refine V7 func140 32 U3 λw0=>?_;refine V3 λR d=>?_;refine Wi U6 (λb1=>?_);refine C6 2 [1] d U ?_;clear d R;refine G.freeze 0 U (λ_ _ B=>?_);refine Wk (L':=[.obj b (.cells ⟨[i_ p.n,e,k,l,ae (qtx a.worth.c),o]⟩ 231 (0,0)),.arr e 3 1 a.basic.length ((a.basic).map aW).flatten,.arr k 228 2 a.basic.length ((cW a v).map bC).flatten,.arr l 3 1 a.others.length ((a.others).map aW).flatten,.arr o 32 1 a.others.length ((a.worth.f).map aM).flatten]++(List.range a.basic.length).map (stE a v 0 0 0)) (by rw[bd 0 0];rfl) ?_;refine Wt [(5,3)] U (λR d=>?_);refine V1 (bkT B 1) U8 ?_;refine V4 2 U ?_;refine V9 ag U9 ?_;refine V2 U6 ?_;refine D.call (Ib q.tab.ok (Mem.get B mup)) U (.inr dc_) U6 (show List.Perm _ (((fo b p.n a e k l o v).map Lent.ent)++[]) from List.Perm.of_eq (by rw[SF,bd 0 0])) fl_ (λax _ ay _ ah=>?_);refine C6 1 [1,2] d U ?_;clear d R;obtain⟨⟨X,rfl,Y⟩,rfl⟩:=ah;refine Wk (L':=[.obj b (.cells ⟨[i_ p.n,e,k,l,ae (qtx a.worth.c),o]⟩ 231 (0,0)),.arr e 3 1 a.basic.length ((a.basic).map aW).flatten,.arr k 228 2 a.basic.length ((cW a v).map bC).flatten,.arr l 3 1 a.others.length ((a.others).map aW).flatten,.arr o 32 1 a.others.length ((a.worth.f).map aM).flatten]++(List.range a.basic.length).map (stE a v 0 0 0)) (by rw[SF,bd 0 0]) ?_;refine U0 2 [1,2,12] U ?_;refine G.cd (λH=>?_) λH=>?_
 .have y:¬ X<0:=by
   have:=RD H;omega
  obtain⟨s,rfl,hs,⟨I,Z⟩,_⟩:=iE Y y;have ai:lJ a s*a.worth.g s<0:=by
   unfold lJ;split <;> grind
  refine U0 3 [2,3] U ?_;refine Wd (Wu U3 ?_);refine⟨a,v,q,A,.no s hs ai (λi z x=>?_) (λh=>absurd h I),by rw[bd 0 0]⟩;rw[d s (by rw[<- q.tab.lo];exact hs) hs om_ i z x,Rat.mul_zero];exact Rat.le_refl
 have y:X<0:=by
  have:=Si H;omega
 have E:=iF Y y;have aj:Lp.RelW p.n a:=λs hs az=>by
  have:=E s hs;have h2:¬ p.n<=a.oth s:=by omega
  grind
 refine G.loop (λfr C' w μ=>∃(t:Lp.Tab)(wF:Nat->Value)(J:Nat),(Lp.Inv p F t/\Lp.Rel p.n t p.n/\t.Feas p.n/\Lp.RelW p.n t/\∀K,Lp.Reach (Lp.MinP p.n) t K->K<=J)/\fr=[(1,[],p_ b1)]/\w=[.obj b (.cells ⟨[i_ p.n,e,k,l,ae (qtx t.worth.c),o]⟩ 231 (0,0)),.arr e 3 1 t.basic.length ((t.basic).map aW).flatten,.arr k 228 2 t.basic.length ((cW t wF).map bC).flatten,.arr l 3 1 t.others.length ((t.others).map aW).flatten,.arr o 32 1 t.others.length ((t.worth.f).map aM).flatten]++(List.range t.basic.length).map (stE t wF 0 0 0)/\μ=J) (hn_ [1] U) ⟨a,v,2 ^ (p.n+p.m),⟨q,d,A,aj,λK L=>Lp.min_len q.tab.ok L⟩,U,U,U⟩ (λfr aA aB m _ q=>?_);obtain⟨t,wF,J,⟨q,d,A,hW,L⟩,rfl,rfl,rfl⟩:=q;have ok:=q.tab.ok;have ak:t.basic.length<=1000000:=by rw[q.tab.lb];exact hm
 have al:t.others.length<=1000000:=by rw[q.tab.lo];exact hn
 have hq:∀i,i<t.basic.length->LineQ 20 (t.line i):=λi z=>vk q W z;have aa:=pJ q W;refine Wt [(5,3)] U (λR d=>?_);refine V1 (bkT B 1) U8 ?_;refine V4 2 U ?_;refine V9 ag U9 ?_;refine V2 U6 ?_;refine D.call (Ia ok (Mem.get B mup) aa) U (.inr dc_) U6 (show List.Perm _ (((fo b p.n t e k l o wF).map Lent.ent)++[]) from List.Perm.of_eq (by rw[SF,bd 0 0])) fl_ (λaC _ aD _ am=>?_);refine C6 1 [1,2] d U ?_;clear d R;obtain⟨⟨o1,rfl,ab⟩,rfl⟩:=am;refine Wk (L':=[.obj b (.cells ⟨[i_ p.n,e,k,l,ae (qtx t.worth.c),o]⟩ 231 (0,0)),.arr e 3 1 t.basic.length ((t.basic).map aW).flatten,.arr k 228 2 t.basic.length ((cW t wF).map bC).flatten,.arr l 3 1 t.others.length ((t.others).map aW).flatten,.arr o 32 1 t.others.length ((t.worth.f).map aM).flatten]++(List.range t.basic.length).map (stE t wF 0 0 0)) (by rw[SF,bd 0 0]) ?_;refine U0 2 [1,2,21] U ?_;refine G.cd (λM=>?_) λM=>?_
 .have y:o1<0:=RD M;have E:=iF ab y;refine U0 2 [2,3] U ?_;refine Wd (Wu U3 ?_);exact⟨t,wF,q,A,.yes hW (λs hs x=>by have:=E s hs;grind),by rw[bd 0 0]⟩
 have y:¬ o1<0:=Si M;obtain⟨s,rfl,hs,⟨I,Z⟩,an⟩:=iE ab y;refine Wt [(2,3)] U (λR d=>?_);refine V1 (bkT B 1) U8 ?_;refine V2 U6 ?_;refine D.call (H9 V.m_ ok hs hq) U (.inr dc_) U6 (show List.Perm _ (((fo b p.n t e k l o wF).map Lent.ent)++[]) from List.Perm.of_eq (by rw[SF,bd 0 0])) fl_ (λaE _ aG _ ao=>?_);refine C6 1 [1,2,4] d U ?_;clear d R;obtain⟨⟨o2,rfl,ac⟩,rfl⟩:=ao;refine Wk (L':=[.obj b (.cells ⟨[i_ p.n,e,k,l,ae (qtx t.worth.c),o]⟩ 231 (0,0)),.arr e 3 1 t.basic.length ((t.basic).map aW).flatten,.arr k 228 2 t.basic.length ((cW t wF).map bC).flatten,.arr l 3 1 t.others.length ((t.others).map aW).flatten,.arr o 32 1 t.others.length ((t.worth.f).map aM).flatten]++(List.range t.basic.length).map (stE t wF 0 0 0)) (by rw[SF,bd 0 0]) ?_;refine U0 2 [1,2,4,26] U ?_;refine G.cd (λN=>?_) λN=>?_
 .have O:o2<0:=RD N;have E:=AD ac O;have Q:lJ t s=1:=by
   unfold lJ;rw[aF (by grind)]
  refine U0 3 [2,3] U ?_;refine Wd (Wu U3 ?_);refine⟨t,wF,q,A,.no s hs (by rw[Q];grind) (λi z x=>?_) (λ_=>by rw[Q];decide),by rw[bd 0 0]⟩;rw[Q];have:=E i z x;grind
 have O:¬ o2<0:=Si N;obtain⟨r,rfl,hr,S,ap,aq⟩:=AC ac O;have hP:Lp.MinP p.n t r s:=⟨hr,hs,S,I,Z,λj hj x hg=>an j hj ⟨x,hg⟩,ap,aq,A⟩;have ad:(t.line r).g s≠0:=by grind
 obtain⟨aH,ar⟩:=Lp.Reach.fall hP L;refine Wt [(3,3)] U (λR d=>?_);refine V1 (bkT B 1) U8 ?_;refine V4 2 U ?_;refine D.call (uX _ V.m_ b p.n r s (p.n+p.m) t e k l o wF ok ak al hr hs ad hq aa) U (.inr dc_) U6 (show List.Perm _ (((fo b p.n t e k l o wF).map Lent.ent)++[]) from List.Perm.of_eq (by rw[SF,bd 0 0])) fl_ (λaI _ aJ _ au=>?_);refine V5 [1] d U ?_;clear d R;obtain⟨-,T,rfl⟩:=au;refine Wk (L':=[.obj b (.cells ⟨[i_ p.n,e,k,l,ae (qtx (t.pivot r s).worth.c),o]⟩ 231 (0,0)),.arr e 3 1 (t.pivot r s).basic.length (((t.pivot r s).basic).map aW).flatten,.arr k 228 2 (t.pivot r s).basic.length ((cW (t.pivot r s) T).map bC).flatten,.arr l 3 1 (t.pivot r s).others.length (((t.pivot r s).others).map aW).flatten,.arr o 32 1 (t.pivot r s).others.length (((t.pivot r s).worth.f).map aM).flatten]++(List.range (t.pivot r s).basic.length).map (stE (t.pivot r s) T 0 0 0)) (by rw[SF,bd 0 0]) ?_;refine We (m':=m-1) om_ mup (hn_ [1] U) ⟨t.pivot r s,T,m-1,⟨q.pivot hr hs ad,Lp.rel_pivot ok d hr hs S,Lp.min_feas ok hP,Lp.relw_pivot ok (λs' af av i z x=>d s' (by rw[<- q.tab.lo];exact af) af av i z x) hW hr hs S,ar⟩,U,U,U⟩
theorem Rk (C:Mem)(v:Value)(l:List Nat)(b:Sl C 1 v (l.map aW))(t:l.length<=1000000):Jog.Fn cx.P 200 [v] C [] λu _w e=>∃A n c,u=.slice A n c/\e=[.arr (.slice A n c) 3 1 l.length (l.map aW).flatten]:=by
 obtain⟨f,c0,rfl,m,x,y,o⟩:=id b;have z:=mx_
 simp only[au]at b m⊢;refine V7 func200 8 U3 λw0=>U0 1 [0] U<|U1 1 U λR d=>Xg U9<|V5 [0,4] d U<|G.cd (λh4=>?_) λh4=>?_
 .have p:f=none:=by
   cases f with
  |none=>rfl
  |some a=>cases h4
  have s:l=[]:=by
   cases l with
  |nil=>rfl
  |cons q r =>
    obtain⟨a,g,_⟩:=o 0 (aW q) rfl;rw[p]at g;cases g
  refine U0 1 [2] U<|G.nilArr 3 1<|Wd (WD U U ?_);exact⟨none,0,0,U,by rw[s];rfl⟩
 refine V3 λR d=>W0 [] U12 fl_ λB=>V2 U6<|WB (j:=0) U11 b.m_ (by simp[aW,kR]) (by simp only[au,SZ,maxLen];omega) (by simp only[au,SZ];omega) fl_ λh i k=>C6 1 [2] d U<|Wk (L':=[.arr (.slice h i k) 3 1 l.length (l.map aW).flatten]) al<|Wd (WD U U ?_);exact⟨h,i,k,U,U⟩
theorem Oj (C:Mem)(b s:Nat)(q:Rat)(w:Value)(l:List Rat)(c:Sl C 1 w (l.map aM))(d:C b=some (.cells ⟨[i_ s]⟩ 3 (0,0)))(e:s<l.length) :
  Gives cx.P 202 [.agg ⟨[ae (qtx q),w]⟩,p_ b] C (.bool (!decide (l.getD s 0=0))):=by
 obtain⟨h,i,rfl,j,k,_⟩:=id c;have m:=mx_
 refine V7 func202 10 U3 λw0=>V3 λR a=>Wi U6 λn=>C6 1 [1,2] a U<|G.freeze 0 U λ_ _ f=>U1 1 U λR a=>V1 (bkT f 1) U8<|V1 (bkT d 1) U8<|Wf c.m_ U10 om_ (dR e) fl_ λo g=>V1 g U8<|C6 2 [3] a U<|V6 U2<|⟨?_,U⟩;show Value.bool _=Value.bool _;congr 1;show(!((⟨(qtx (l.getD s 0)).toArray⟩:ByteArray).data.toList == (⟨#[48]⟩:ByteArray).data.toList))=_;rw[eS]
theorem Oi (C:Mem)(b s:Nat)(q:Rat)(w:Value)(l:List Rat)(c:Sl C 1 w (l.map aM))(d:C b=some (.cells ⟨[i_ s]⟩ 3 (0,0)))(e:s<l.length) :
  Gives cx.P 204 [.agg ⟨[ae (qtx q),w]⟩,p_ b] C (.bool (!decide (l.getD s 0=0))):=by
 obtain⟨h,i,rfl,j,k,_⟩:=id c;have m:=mx_
 refine V7 func204 10 U3 λw0=>V3 λR a=>Wi U6 λn=>C6 1 [1,2] a U<|G.freeze 0 U λ_ _ f=>U1 1 U λR a=>V1 (bkT f 1) U8<|V1 (bkT d 1) U8<|Wf c.m_ U10 om_ (dR e) fl_ λo g=>V1 g U8<|C6 2 [3] a U<|V6 U2<|⟨?_,U⟩;show Value.bool _=Value.bool _;congr 1;show(!((⟨(qtx (l.getD s 0)).toArray⟩:ByteArray).data.toList == (⟨#[48]⟩:ByteArray).data.toList))=_;rw[eS]
inductive FirstR (q:Nat->Prop) (n:Nat):Int->Prop where
|none:(∀i,i<n->¬ q i)->FirstR q n (-1)
|some (r:Nat):r<n->q r->(∀i,i<r->¬ q i)->FirstR q n r
theorem H6 (C:Mem)(v:Value)(a:List (Rat × Value))(g:Nat)(c:List Value)(q:Nat->Prop)[DecidablePred q](d:Sl C 2 v (a.map bC))(_E:Jog.Enters cx.P g=true)
  (p:∀i x,a[i]?=some x->∀D:Mem,C.le D->Gives cx.P g (.agg ⟨bC x⟩::c) D (.bool (decide (q i)))) :
  Pur cx.P 201 [v,.func (.func g) #[] ⟨c⟩] C λu _=>∃o:Int,u=i_ o/\FirstR q a.length o:=by
 obtain⟨r,c0,rfl,s,F,_⟩:=id d;have H:=mx_
 simp only[au]at d s⊢;refine V7 func201 19 U3 λw0=>U0 1 [0,1] U<|U0 3 [0,1,7,8] U<|G.loop (λfr I t w=>∃(i:Nat),(i<=a.length/\∀j,j<i->¬ q j)/\fr=[(0,[],.slice r a.length c0),(1,[],.func (.func g) #[] ⟨c⟩),(7,[],i_ a.length),(8,[],i_ i)]/\t=[]/\w=a.length-i) (hn_ [0,1,7,8] U) ⟨0,⟨Sm _,λj e=>absurd e (Nat.not_lt_zero _)⟩,U,U,U⟩ (λfr J K m _ y=>?_);obtain⟨i,⟨L,f⟩,rfl,rfl,rfl⟩:=y;refine U0 1 [0,1,7,8,9] U<|G.cd (λh=>?_) λh=>?_
 .have b:i<a.length:=by simpa using h
  obtain⟨x,n⟩:∃x,a[i]?=some x:=⟨a[i],ah b⟩;refine U0 2 [0,1,5,7,8] U<|U1 3 U λR k=>Wf d.m_ U10 om_ (show(a.map bC)[i]?=some [ae (qtx x.1),x.2] from dJ n) fl_ λM z=>V1 z U8<|Wb (p i x n _ mup) U7<|V5 [0,1,5,7,8,16] k U<|G.cd (λl=>?_) λl=>?_
  .have A:q i:=RD l;exact U0 2 [4] U<|V6 U2<|⟨U,(i:Int),U,.some i b A f⟩
  have B:¬ q i:=Si l;refine V3 λR k=>V8 _ U U6<|C6 1 [0,1,7,8] k U<|We (m':=a.length-(i+1)) om_ mup (hn_ [0,1,7,8] U) ⟨i+1,⟨by omega,λj e=>by
   rcases Nat.lt_or_eq_of_le (Nat.le_of_lt_succ e) with h1|h1
   .exact f j h1
   rw[h1];exact B⟩,rfl,rfl,rfl⟩
 have b:i=a.length:=by
  have:¬ i<a.length:=by simpa using h
  omega
 exact U0 1 [4] U<|V6 U2<|⟨U, -1,U,.none (by rw[<- b];exact f)⟩
theorem GI (C:Mem)(b n v:Nat)(a:List Value)(c:C b=some (.cells ⟨i_ n::a⟩ 231 (0,0))) :
  Gives cx.P 203 [p_ b,i_ v] C (.bool (decide (n<=v))):=by
 refine V7 func203 11 U3 λw0=>U0 1 [0,1] U<|U1 4 U λR d=>V1 (bkT c 1) U8<|C6 2 [4] d U<|V6 U2<|⟨?_,U⟩;congr 1;rw[S8];omega
theorem qg (C:Mem)(b n v:Nat)(a:List Value):Jog.Fn cx.P 203 [p_ b,i_ v] C [.obj b (.cells ⟨i_ n::a⟩ 231 (0,0))]
   λu _ d=>u=.bool (decide (n<=v))/\d=[.obj b (.cells ⟨i_ n::a⟩ 231 (0,0))]:=by
 have h:=Xa (P:=cx.P) (f:=203) (args:=[p_ b,i_ v]) (C:=C) (q:=λu=>u=.bool (decide (n<=v))) kr_ [.obj b (i_ n::a) 231] (λx c=>by
  rcases Sw.1 c with rfl|c
  .trivial
  cases c) λe g hs=>(GI e b n v a (hs _ (Sj ..))).mono λu _ i _ ⟨h1,h2⟩=>⟨h2,h1⟩
 exact h
theorem pT {C:Mem}(h:∀x∈fo b n t wB wL wO wW wF,x.seen C):Sl C 1 wO (t.others.map aW)/\Sl C 2 wL ((cW t wF).map bC)/\∀i,i<t.basic.length->Sl C 1 (wF i) ((t.line i).f.map aM) :=
 ⟨h _ (Sv _ (Sv _ (Sv _ (Sj ..)))),h _ (Sv _ (Sv _ (Sj ..))),λi a =>
  h (MN t wF i) (Sv _ (Sv _ (Sv _ (Sv _ (Sv _ (Sn.2 ⟨i,SE.2 a,rfl⟩))))))⟩
section
variable {C:Mem} {a2 b n N s:Nat} {t:Lp.Tab} {wB wO wW:Value} {wF:Nat->Value}
theorem Rj {d:Value}(i:t.Ok N)(j:t.others.length<=1000000):Jog.Fn cx.P 200 [wO] C ((fo b n t wB d wO wW wF).map Lent.ent)
   λu _ a=>∃A n2 c,u=.slice A n2 c/\a=.arr (.slice A n2 c) 3 1 t.others.length (t.others.map aW).flatten::(fo b n t wB d wO wW wF).map Lent.ent:=by
 have h:=Xr (P:=cx.P) (f:=200) (args:=[wO]) (L:=[]) (C:=C) (post:=λu a=>∃A n2 c,u=.slice A n2 c/\a=[.arr (.slice A n2 c) 3 1 t.others.length (t.others.map aW).flatten]) kr_ (fo b n t wB d wO wW wF) (gE i) λg o hs=>Rk g wO t.others (pT hs).1 j;rw[SF]at h;refine⟨h.1,λw k=>(h.2 w k).mono ?_⟩;rintro e w' ⟨v,g,a,l,m,p,rfl,A,n2,c,rfl,rfl⟩;exact⟨_,g,_,l,St.perm m (List.perm_append_singleton _ _),A,n2,c,U,U⟩
theorem O4 {a:Value}(h:t.Ok N)(l:C a2=some (.cells ⟨[i_ s]⟩ 3 (0,0)))(m:s<t.others.length) :
  Jog.Fn cx.P 201 [a,.func (.func 202) #[] #[p_ a2]] C ((fo b n t wB a wO wW wF).map Lent.ent)
   λu _ j=>(∃o:Int,u=i_ o/\FirstR (λi=>¬ (t.line i).g s=0) t.basic.length o)/\j=(fo b n t wB a wO wW wF).map Lent.ent:=by
 refine Xa kr_ _ (gE h) λp q r=>?_;obtain⟨_,v,w⟩:=pT r;refine(H6 p a (cW t wF) 202 [p_ a2] (λi=>¬ (t.line i).g s=0) v kr_ λi x d D k=>?_).mono ?_
 .have e:i<t.basic.length:=by rw[<- fN (wF:=wF)];exact(aT.1 d).1
  rw[oV e]at d;cases d
  rw[decide_not];exact Oj D a2 s (t.line i).c (wF i) (t.line i).f ((w i e).mono k) ((q.trans k) _ _ l) (by rw[iC h e];exact m)
 rintro u D j _ ⟨h1,o,rfl,h2⟩;rw[fN]at h2;exact⟨h1,o,U,h2⟩
theorem O3 {A:Option Addr}{c r M:Nat}(v:t.basic.length=M)(j:t.Ok N)(w:C a2=some (.cells ⟨[i_ s]⟩ 3 (0,0)))(y:s<t.others.length)(J:r<t.basic.length)(z:M<=c) :
  Jog.Fn cx.P 201 [.slice (if c=r+1 then A else A.map (·.add ((r+1)*2))) (M-(r+1)) (c-(r+1)),.func (.func 204) #[] #[p_ a2]] C ((fo b n t wB (.slice A M c) wO wW wF).map Lent.ent)
   λu _ k=>(∃o:Int,u=i_ o/\FirstR (λi=>¬ (t.line (r+1+i)).g s=0) (t.basic.length-(r+1)) o)/\k=(fo b n t wB (.slice A M c) wO wW wF).map Lent.ent:=by
 subst v;refine Xa kr_ _ (gE j) λB E F=>?_;obtain⟨_,G,H⟩:=pT F;have p:=Sl.sub (l:=r+1) (h:=t.basic.length) (m:=c) G om_ (by rw[au,fN];exact Sg _) z (Sg _);have e:((cW t wF).map bC).take t.basic.length=(cW t wF).map bC:=SL (by rw[au,fN];exact Sg _);rw[e,<- List.map_drop]at p;have I:((cW t wF).drop (r+1)).length=t.basic.length-(r+1):=by rw[Uj,fN]
 refine(H6 B _ ((cW t wF).drop (r+1)) 204 [p_ a2] (λi=>¬ (t.line (r+1+i)).g s=0) p kr_ λi x a D q=>?_).mono ?_
 .have d:r+1+i<t.basic.length:=by have:=(aT.1 a).1;omega
  rw[List.getElem?_drop,oV d]at a;cases a
  rw[decide_not];exact Oi D a2 s (t.line (r+1+i)).c (wF (r+1+i)) (t.line (r+1+i)).f ((H _ d).mono q) ((E.trans q) _ _ w) (by rw[iC j d];exact y)
 rintro u D k _ ⟨h1,o,rfl,h2⟩;rw[I]at h2;exact⟨h1,o,U,h2⟩
end
def Sf (p:Lp.Sys)(t:Lp.Tab)(s:Nat)(o:Int):Prop:=(o=-1/\∀i,i<t.basic.length->p.n<=t.bas i->(t.line i).g s=0)∨∃r:Nat,o=r/\r<t.basic.length/\¬ (t.line r).g s=0/\∀i,i<r->p.n<=t.bas i->(t.line i).g s=0
theorem AR (h:FirstR q n o)(a:o<0):∀i,i<n->¬ q i:=by
 cases h with
|none h=>exact h
|some r _ _ _=>omega
theorem AQ (h:FirstR q n o)(a:¬ o<0):∃r:Nat,o=r/\r<n/\q r/\∀i,i<r->¬ q i:=by
 cases h with
|none h=>exact absurd dc_ a
|some r h1 h2 h3=>exact⟨r,rfl,h1,h2,h3⟩
theorem Ez (h:FirstR (λi=>¬ (t.line i).g s=0) t.basic.length o):Sf p t s o:=by
 cases h with
|none h=>exact .inl ⟨rfl,λi a _=>Decidable.not_not.1 (h i a)⟩
|some r h1 h2 h3=>exact .inr ⟨r,rfl,h1,h2,λi a _=>Decidable.not_not.1 (h3 i a)⟩
theorem EP (C:Mem)(hT:Tabs C)(p:Lp.Sys)(M:Nat->Rat)(b:Nat)(a:Lp.Tab)(N O e l:Value)(A:Nat->Value)(q:Lp.Inv p M a)(ho:a.others=List.range p.n)(hl:Lp.Lim p M 20)(hm:p.m<=1000000)(hn:p.n<=1000000) :
  Jog.Fn cx.P 137 [p_ b] C ((fo b p.n a N O e l A).map Lent.ent) λu _ z=>u=.tuple #[]/\∃t wF,Lp.Inv p M t/\Lp.Rel p.n t p.n/\z=(fo b p.n t N O e l wF).map Lent.ent:=by
 have aN:=mx_
 have ar:a.others.length=p.n:=q.tab.lo;refine V7 func137 65 U3 λw0=>?_;refine Wk (L':=[.obj b (.cells ⟨[i_ p.n,N,O,e,ae (qtx a.worth.c),l]⟩ 231 (0,0)),.arr N 3 1 a.basic.length ((a.basic).map aW).flatten,.arr O 228 2 a.basic.length ((cW a A).map bC).flatten,.arr e 3 1 a.others.length ((a.others).map aW).flatten,.arr l 32 1 a.others.length ((a.worth.f).map aM).flatten]++(List.range a.basic.length).map (stE a A 0 0 0)) (by rw[bd 0 0]) ?_;refine X1 1 U (λw y I S av _=>?_);rw[q.tab.lb]at I S av;subst I;refine X1 2 U (λAL x I _ T _=>?_);rw[q.tab.lb]at I T;subst I;refine Wk (L':=[.obj b (.cells ⟨[i_ p.n,(.slice w p.m y),(.slice AL p.m x),e,ae (qtx a.worth.c),l]⟩ 231 (0,0)),.arr (.slice w p.m y) 3 1 a.basic.length ((a.basic).map aW).flatten,.arr (.slice AL p.m x) 228 2 a.basic.length ((cW a A).map bC).flatten,.arr e 3 1 a.others.length ((a.others).map aW).flatten,.arr l 32 1 a.others.length ((a.worth.f).map aM).flatten]++(List.range a.basic.length).map (stE a A 0 0 0)) U ?_;refine Wt [(4,3)] U (λR d=>?_);refine V4 3 U ?_;refine V9 ag U9 ?_;refine D.call (Rj q.tab.ok om_) U (.inr dc_) U6 (show List.Perm _ (((fo b p.n a (.slice w p.m y) (.slice AL p.m x) e l A).map Lent.ent)++[]) from List.Perm.of_eq (by rw[SF,bd 0 0] <;> rfl)) fl_ (λaO aw aP _ ax=>?_);obtain⟨Ac,n2,c2,rfl,rfl⟩:=ax;refine C6 2 [0,10,11,12] d U ?_;clear d R;refine G.freezeArr 0 (a.others.map aW) U2 vJ al (λaw _ an=>?_);have ay:n2=p.n:=by
  obtain⟨A9,c9,az,_⟩:=id an;injection az with e1 e2 e3;rw[e2,au,ar]
 subst ay;refine Wk (L':=[.obj b (.cells ⟨[i_ p.n,(.slice w p.m y),(.slice AL p.m x),e,ae (qtx a.worth.c),l]⟩ 231 (0,0)),.arr (.slice w p.m y) 3 1 a.basic.length ((a.basic).map aW).flatten,.arr (.slice AL p.m x) 228 2 a.basic.length ((cW a A).map bC).flatten,.arr e 3 1 a.others.length ((a.others).map aW).flatten,.arr l 32 1 a.others.length ((a.worth.f).map aM).flatten]++(List.range a.basic.length).map (stE a A 0 0 0)) (by rw[bd 0 0,SF];rfl) ?_;refine G.loop (λfr C' z V=>∃(k:Nat)(t:Lp.Tab)(wF:Nat->Value),(k<=p.n/\Lp.Inv p M t/\Lp.Rel p.n t k)/\fr=[(0,[],p_ b),(10,[],.slice Ac p.n c2),(11,[],i_ p.n),(12,[],i_ k)]/\z=[.obj b (.cells ⟨[i_ p.n,(.slice w p.m y),(.slice AL p.m x),e,ae (qtx t.worth.c),l]⟩ 231 (0,0)),.arr (.slice w p.m y) 3 1 t.basic.length ((t.basic).map aW).flatten,.arr (.slice AL p.m x) 228 2 t.basic.length ((cW t wF).map bC).flatten,.arr e 3 1 t.others.length ((t.others).map aW).flatten,.arr l 32 1 t.others.length ((t.worth.f).map aM).flatten]++(List.range t.basic.length).map (stE t wF 0 0 0)/\V=p.n-k) (hn_ [0,10,11,12] U) ⟨0,a,A,⟨Sm _,q,λs hs=>absurd hs (Nat.not_lt_zero _)⟩,U,U,U⟩ (λfr aQ aR m _ q=>?_);obtain⟨k,t,wF,⟨hk,q,d⟩,rfl,rfl,rfl⟩:=q;refine U0 1 [0,10,11,12,13] U ?_;refine G.cd (λW=>?_) λW=>?_
 .have ao:k<p.n:=by
   have:=RD W;omega
  have ok:=q.tab.ok;have aA:=q.tab.lb;have aB:t.basic.length<=1000000:=by rw[q.tab.lb];exact hm
  have aC:t.others.length<=1000000:=by rw[q.tab.lo];exact hn
  have hq:∀i,i<t.basic.length->LineQ 20 (t.line i):=λi X=>vk q hl X;have J:k<t.others.length:=by rw[q.tab.lo];exact ao
  refine U1 1 U λR d=>?_;refine Wf an.m_ U10 om_ (show(a.others.map aW)[k]?=some (aW k) from vf (by rw[ho,SU ao])) fl_ (λaS aD=>?_);refine V1 aD U8 ?_;refine Wg U5 (λb2=>?_);refine Wa (j:=0) U12 ?_;refine C6 1 [0,2,3,10,11,12] d U ?_;clear d R;refine G.freeze 0 U (λ_ _ Y=>?_);refine Wt [(5,3)] U (λR d=>?_);refine V4 3 U ?_;refine V9 ag U9 ?_;refine V2 U6 ?_;refine D.call (O4 ok (Mem.get Y mup) J) U (.inr dc_) U6 (show List.Perm _ (((fo b p.n t (.slice w p.m y) (.slice AL p.m x) e l wF).map Lent.ent)++[]) from List.Perm.of_eq (by rw[SF,bd 0 0] <;> rfl)) fl_ (λaT _ aU _ aE=>?_);refine C6 1 [0,2,3,4,10,11,12] d U ?_;clear d R;obtain⟨⟨o0,rfl,aF⟩,rfl⟩:=aE;refine Wk (L':=[.obj b (.cells ⟨[i_ p.n,(.slice w p.m y),(.slice AL p.m x),e,ae (qtx t.worth.c),l]⟩ 231 (0,0)),.arr (.slice w p.m y) 3 1 t.basic.length ((t.basic).map aW).flatten,.arr (.slice AL p.m x) 228 2 t.basic.length ((cW t wF).map bC).flatten,.arr e 3 1 t.others.length ((t.others).map aW).flatten,.arr l 32 1 t.others.length ((t.worth.f).map aM).flatten]++(List.range t.basic.length).map (stE t wF 0 0 0)) (by rw[SF,bd 0 0]) ?_;refine G.loop (λfr C' z V=>∃(o:Int),(Sf p t k o)/\fr=[(0,[],p_ b),(2,[],p_ b2),(3,[],i_ k),(4,[],i_ o),(10,[],.slice Ac p.n c2),(11,[],i_ p.n),(12,[],i_ k)]/\z=[.obj b (.cells ⟨[i_ p.n,(.slice w p.m y),(.slice AL p.m x),e,ae (qtx t.worth.c),l]⟩ 231 (0,0)),.arr (.slice w p.m y) 3 1 t.basic.length ((t.basic).map aW).flatten,.arr (.slice AL p.m x) 228 2 t.basic.length ((cW t wF).map bC).flatten,.arr e 3 1 t.others.length ((t.others).map aW).flatten,.arr l 32 1 t.others.length ((t.worth.f).map aM).flatten]++(List.range t.basic.length).map (stE t wF 0 0 0)/\V=t.basic.length-o.toNat) (hn_ [0,2,3,4,10,11,12] U) ⟨o0,Ez aF,U,U,U⟩ (λfr aV aX m _ q=>?_);obtain⟨o,K,rfl,rfl,rfl⟩:=q;refine U1 7 U λR d=>?_;refine V9 ag U9 ?_;refine V2 U6 ?_;refine Yl (w.getD ⟨0,0,none⟩).block (o.toNat*1) U U U U U U U U U U (λZ=>by
   have h:decide (o ≥ 0)=true:=Z.1;have h2:=RD h;obtain⟨r,L,B,_⟩:=K.resolve_left om_;exact⟨S om_,by omega,by omega,U⟩) U U ?_
  refine Yg (v:=i_ (t.bas o.toNat)) af U U U U U U (λZ=>by
   have h:decide (o ≥ 0)=true:=Z.1;have h2:=RD h;obtain⟨r,L,B,_⟩:=K.resolve_left om_;refine⟨S om_, ?_⟩;rw[dx eB (show t.basic[o.toNat]?=some (t.bas o.toNat) from Ai om_)];rfl) rfl rfl ?_
  refine XD ag (λ_=>qg _ b p.n (t.bas o.toNat) _) U9 ?_;refine V2 U6 ?_;refine Wr U8 ?_;refine V5 [0,2,3,4,10,11,12,36] d U ?_;clear d R;refine G.cd (λaa=>?_) λaa=>?_
  .have Q:o ≥ 0/\¬ p.n<=t.bas o.toNat:=by simpa using aa
   obtain⟨aY,ab⟩:=Q;obtain⟨r,L,B,ac,ad⟩:=K.resolve_left om_;subst L;rw[Ue]at ab;refine Wt [(8,3)] U (λR d=>?_);refine V4 3 U ?_;refine V9 ag U9 ?_;refine V2 U6 ?_;refine V8 _ U U6 ?_;refine WN (r+1) p.m x U12 (λ_=>⟨.inr ⟨_,U⟩,.inl ⟨U,U⟩,.inl ⟨U,U⟩,by omega,T,Sg _⟩) U2 ?_;refine V2 U6 ?_;refine D.call (O3 aA ok (Mem.get Y mup) J B T) U (.inr dc_) U6 (show List.Perm _ (((fo b p.n t (.slice w p.m y) (.slice AL p.m x) e l wF).map Lent.ent)++[]) from List.Perm.of_eq (by rw[SF,bd 0 0] <;> rfl)) fl_ (λaZ _ a0 _ aG=>?_);refine C6 1 [0,2,3,4,5,10,11,12] d U ?_;clear d R;obtain⟨⟨o2,rfl,ap⟩,rfl⟩:=aG;refine Wk (L':=[.obj b (.cells ⟨[i_ p.n,(.slice w p.m y),(.slice AL p.m x),e,ae (qtx t.worth.c),l]⟩ 231 (0,0)),.arr (.slice w p.m y) 3 1 t.basic.length ((t.basic).map aW).flatten,.arr (.slice AL p.m x) 228 2 t.basic.length ((cW t wF).map bC).flatten,.arr e 3 1 t.others.length ((t.others).map aW).flatten,.arr l 32 1 t.others.length ((t.worth.f).map aM).flatten]++(List.range t.basic.length).map (stE t wF 0 0 0)) (by rw[SF,bd 0 0]) ?_;refine U0 2 [0,2,3,4,5,10,11,12,47] U ?_;refine G.cd (λah=>?_) λah=>?_
   .have ai:o2<0:=RD ah;have hz:∀i,i<t.basic.length->p.n<=t.bas i->(t.line i).g k=0:=λi X E=>by
     rcases Nat.lt_trichotomy i r with h1|h1|h1
     .exact ad i h1 E
     .rw[h1]at E;exact absurd E ab
     have:=AR ap ai (i-(r+1)) om_;rw[show r+1+(i-(r+1))=i by omega]at this;exact Decidable.not_not.1 this
    refine U0 1 [0,2,3,4,10,11,12] U ?_;refine U1 5 U λR d=>?_;refine XD ag (λ_=>qg _ b p.n k _) U9 ?_;refine V2 U6 ?_;refine Wr U8 ?_;refine V5 [0,2,4,10,11,12,59] d U ?_;clear d R;refine G.cd (λaq=>?_) λaq=>?_
    .exact absurd aq al
    refine V3 λR d=>?_;refine V8 _ U U6 ?_;refine C6 1 [0,10,11,12] d U ?_;clear d R;refine We (m':=p.n-(k+1)) om_ mup (hn_ [0,10,11,12] U) ⟨k+1,t,wF,⟨by omega,q,Lp.rel_none d hz⟩,U,U,U⟩
   have ai:¬ o2<0:=Si ah;obtain⟨F,rfl,a1,aH,aI⟩:=AQ ap ai;have aJ:Sf p t k ((r+(1+F):Nat):Int):=.inr ⟨r+(1+F),rfl,by omega,by rw[show r+(1+F)=r+1+F by omega];exact aH,λi X E=>by
    rcases Nat.lt_trichotomy i r with h1|h1|h1
    .exact ad i h1 E
    .rw[h1]at E;exact absurd E ab
    have:=aI (i-(r+1)) om_;rw[show r+1+(i-(r+1))=i by omega]at this;exact Decidable.not_not.1 this⟩
   refine U1 2 U λR d=>?_;refine V8 _ U U6 ?_;refine V8 _ U U6 ?_;refine C6 1 [0,2,3,4,10,11,12] d U ?_;clear d R;refine We (m':=t.basic.length-((r+(1+F):Nat):Int).toNat) om_ mup (hn_ [0,2,3,4,10,11,12] U) ⟨((r+(1+F):Nat):Int),aJ,U,U,U⟩
  have Q:¬ (o ≥ 0/\¬ p.n<=t.bas o.toNat):=by simpa using aa
  refine U1 5 U λR d=>?_;refine XD ag (λ_=>qg _ b p.n k _) U9 ?_;refine V2 U6 ?_;refine Wr U8 ?_;refine V5 [0,2,4,10,11,12,59] d U ?_;clear d R;refine G.cd (λaj=>?_) λaj=>?_
  .have H:0<=o:=by
    have H:(decide (0<=o) && !decide (p.n<=k))=true:=aj;simp only[Sz,Sr]at H;exact H.1
   obtain⟨r,L,B,ac,ad⟩:=K.resolve_left om_;subst L;rw[Ue]at Q;have aK:p.n<=t.bas r:=by
    apply Decidable.byContradiction;intro h;exact Q ⟨by omega,h⟩
   refine Wt [(3,3)] U (λR d=>?_);refine V4 2 U ?_;refine V1 (bkT Y 1) U8 ?_;refine D.call (uX _ hT.m_ b p.n r k (p.n+p.m) t (.slice w p.m y) (.slice AL p.m x) e l wF ok aB aC B J ac hq (pJ q hl)) U (.inr dc_) U6 (show List.Perm _ (((fo b p.n t (.slice w p.m y) (.slice AL p.m x) e l wF).map Lent.ent)++[]) from List.Perm.of_eq (by rw[SF,bd 0 0] <;> rfl)) fl_ (λa2 _ a3 _ aL=>?_);refine V5 [0,10,11,12] d U ?_;clear d R;refine V3 λR d=>?_;refine V8 _ U U6 ?_;refine C6 1 [0,10,11,12] d U ?_;clear d R;obtain⟨-,ak,rfl⟩:=aL;refine Wk (L':=[.obj b (.cells ⟨[i_ p.n,(.slice w p.m y),(.slice AL p.m x),e,ae (qtx (t.pivot r k).worth.c),l]⟩ 231 (0,0)),.arr (.slice w p.m y) 3 1 (t.pivot r k).basic.length (((t.pivot r k).basic).map aW).flatten,.arr (.slice AL p.m x) 228 2 (t.pivot r k).basic.length ((cW (t.pivot r k) ak).map bC).flatten,.arr e 3 1 (t.pivot r k).others.length (((t.pivot r k).others).map aW).flatten,.arr l 32 1 (t.pivot r k).others.length (((t.pivot r k).worth.f).map aM).flatten]++(List.range (t.pivot r k).basic.length).map (stE (t.pivot r k) ak 0 0 0)) (by rw[SF,bd 0 0]) ?_;refine We (m':=p.n-(k+1)) om_ mup (hn_ [0,10,11,12] U) ⟨k+1,t.pivot r k,ak,⟨by omega,q.pivot B J ac,Lp.rel_next ok d B J aK⟩,U,U,U⟩
  have H:¬ 0<=o:=by
   have H:(decide (0<=o) && !decide (p.n<=k))=false:=aj;have am:¬ p.n<=k:=by omega
   simpa [am] using H
  have hz:∀i,i<t.basic.length->p.n<=t.bas i->(t.line i).g k=0:=by
   rcases K with⟨_,h2⟩|⟨r,h1,_⟩
   .exact h2
   omega
  refine V3 λR d=>?_;refine V8 _ U U6 ?_;refine C6 1 [0,10,11,12] d U ?_;clear d R;refine We (m':=p.n-(k+1)) om_ mup (hn_ [0,10,11,12] U) ⟨k+1,t,wF,⟨by omega,q,Lp.rel_none d hz⟩,U,U,U⟩
 have am:k=p.n:=by
  have:=Si W;omega
 refine Xc U ?_;exact⟨U,t,wF,q,by rw[am]at d;exact d,by rw[bd 0 0]⟩
theorem DX (C:Mem)(v:Value)(l:List Rat)(b:Sl C 1 v (l.map aM))(t:l.length<=1000000):Jog.Fn cx.P 50 [v] C [] λu _w e=>∃A n c,u=.slice A n c/\e=[.arr (.slice A n c) 32 1 l.length (l.map aM).flatten]:=by
 obtain⟨f,c0,rfl,m,x,y,o⟩:=id b;have z:=mx_
 simp only[au]at b m⊢;refine V7 func50 8 U3 λw0=>U0 1 [0] U<|U1 1 U λR d=>Xg U9<|V5 [0,4] d U<|G.cd (λh4=>?_) λh4=>?_
 .have p:f=none:=by
   cases f with
  |none=>rfl
  |some a=>cases h4
  have s:l=[]:=by
   cases l with
  |nil=>rfl
  |cons q r =>
    obtain⟨a,g,_⟩:=o 0 (aM q) rfl;rw[p]at g;cases g
  refine U0 1 [2] U<|G.nilArr 32 1<|Wd (WD U U ?_);exact⟨none,0,0,U,by rw[s];rfl⟩
 refine V3 λR d=>W0 [] U12 fl_ λB=>V2 U6<|WB (j:=0) U11 b.m_ (by simp[aM,kR,ae]) (by simp only[au,SZ,maxLen];omega) (by simp only[au,SZ];omega) fl_ λh i k=>C6 1 [2] d U<|Wk (L':=[.arr (.slice h i k) 32 1 l.length (l.map aM).flatten]) al<|Wd (WD U U ?_);exact⟨h,i,k,U,U⟩
def bN (n:Nat)(rs:List (List Rat × Rat)):Lp.Sys:=⟨n,rs.length,λr j=>(rs.getD r ([],0)).1.getD j 0,λr=>(rs.getD r ([],0)).2⟩
abbrev sA (A:Option Addr)(n c:Nat):Value:=.slice A n c
abbrev sB (A:Option Addr)(n c:Nat):Value:=.slice A n c
abbrev sO (A:Option Addr)(n c:Nat):Value:=.slice A n c
abbrev sW (A:Option Addr)(n c:Nat):Value:=.slice A n c
abbrev sF (A:Option Addr)(n c:Nat):Value:=.slice A n c
def lbF (n i:Nat):List Nat:=(List.range i).map λq=>n+q
def lvF (rs:List (List Rat × Rat))(wF:Nat->Value)(i:Nat):List (Rat × Value):=(List.range i).map λq=>((rs.getD q ([],0)).2,wF q)
def opE (n:Nat)(rs:List (List Rat × Rat))(wF:Nat->Value)(q:Nat):Ent:=.arr (wF q) 32 1 n (((List.range n).map λj=>-(rs.getD q ([],0)).1.getD j 0).map aM).flatten
def J2 (wF:Nat->Value)(i:Nat)(w:Value):Nat->Value:=λq=>if q=i then w else wF q
theorem Gl :J2 wF i w i=w:=aK rfl
theorem Gk {q:Nat}(h:q≠i):J2 wF i w q=wF q:=aF h
theorem Ll :lbF n (i+1)=lbF n i++[n+i]:=by unfold lbF;rw[Tz,SV];rfl
theorem Ld {r:List Rat × Rat}(h:rs.getD i ([],0)=r):lvF rs (J2 wF i w) (i+1)=lvF rs wF i++[(r.2,w)]:=by
 unfold lvF;rw[Tz,SV,List.map_singleton,h,Gl];congr 1;refine List.map_congr_left λq a=>?_;rw[Gk (by have:=SE.1 a;omega)]
theorem K0 {r:List Rat × Rat}(h:rs.getD i ([],0)=r):(List.range (i+1)).map (opE n rs (J2 wF i w))=(List.range i).map (opE n rs wF)++[.arr w 32 1 n (((List.range n).map λj=>-r.1.getD j 0).map aM).flatten]:=by
 rw[Tz,SV,List.map_singleton];congr 1
 .refine List.map_congr_left λq a=>?_;unfold opE;rw[Gk (by have:=SE.1 a;omega)]
 unfold opE;rw[h,Gl]
theorem ER {l:List Rat}(h:l.length=n):(List.range n).map (λj=>l.getD j 0)=l:=by
 refine List.ext_getElem? λj=>?_;rw[Sh];by_cases a:j<n
 .rw[SU a,ah om_];show some (l.getD j 0)=_;rw[ak,ah om_];rfl
 rw[Sq (show(List.range n).length<=j by simp;omega),Sq om_];rfl
theorem HE (g:ob.length=n) :
  (fo b n (Lp.openT (bN n rs) λj=>ob.getD j 0) wB wL wO wW wF).map Lent.ent=[.obj b (.cells ⟨[i_ n,wB,wL,wO,ae [48],wW]⟩ 231 (0,0)),.arr wB 3 1 rs.length ((lbF n rs.length).map aW).flatten,.arr wL 228 2 rs.length ((lvF rs wF rs.length).map bC).flatten,.arr wO 3 1 n ((List.range n).map aW).flatten,.arr wW 32 1 n (ob.map aM).flatten]++(List.range rs.length).map (opE n rs wF):=by
 have d:(Lp.openT (bN n rs) λj=>ob.getD j 0).basic.length=rs.length:=Lp.openT_lb;have e:(Lp.openT (bN n rs) λj=>ob.getD j 0).others.length=n:=Lp.openT_lo;have h1:cW (Lp.openT (bN n rs) λj=>ob.getD j 0) wF=lvF rs wF rs.length:=by
  unfold cW lvF;rw[d];refine List.map_congr_left λq a=>?_;rw[Lp.openT_line (p:=bN n rs) (SE.1 a)];rfl
 have h2:(List.range rs.length).map (Lent.ent ∘ MN (Lp.openT (bN n rs) λj=>ob.getD j 0) wF)=(List.range rs.length).map (opE n rs wF):=by
  refine List.map_congr_left λq a=>?_;show Ent.arr _ _ 1 _ _=_;rw[Lp.openT_line (p:=bN n rs) (SE.1 a),e];rfl
 have h3:(Lp.openT (bN n rs) λj=>ob.getD j 0).worth.f=ob:=ER g;have h4:(Lp.openT (bN n rs) λj=>ob.getD j 0).worth.c=0:=rfl;unfold fo;rw[h1,h3,h4,d,e,qtx0];simp only[S1,Th,h2];rfl
def RY (n:Nat)(rs:List (List Rat × Rat))(ob:List Rat)(b17:Nat)(Aw:Option Addr)(nw cw:Nat)(A1:Option Addr)(n1 c1:Nat)(i:Nat)(wF:Nat->Value)(r:List Rat × Rat)(A4:Option Addr)(n4 c4:Nat)(A71:Option Addr)(n71 c71:Nat)(A78:Option Addr)(n78 c78:Nat):List Ent:=[.arr (sA A71 n71 c71) 3 1 (i+1) (((lbF n i).map aW).flatten++[[.int .i64 ((n:Int)+(i:Int))]].flatten),.arr (sB A78 n78 c78) 228 2 (i+1) (((lvF rs wF i).map bC).flatten++[[ae (qtx r.2),.slice A4 n4 c4]].flatten),.obj b17 (.cells ⟨[.int .i64 n,.slice A71 n71 c71,.slice A78 n78 c78,.slice A1 n1 c1,ae [48],.slice Aw nw cw]⟩ 231 (0,0)),.arr (sO A1 n1 c1) 3 1 n (((List.range n)).map aW).flatten,.arr (sW Aw nw cw) 32 1 n (ob.map aM).flatten,.arr (sF A4 n4 c4) 32 1 n (((List.range n).map λq=>-r.1.getD q 0).map aM).flatten]++(List.range i).map (opE n rs wF)
def opX1 (n:Nat)(rs:List (List Rat × Rat))(ob:List Rat)(b17:Nat)(Aw:Option Addr)(nw cw:Nat)(A1:Option Addr)(n1 c1:Nat)(i:Nat)(wF:Nat->Value)(A4:Option Addr)(n4 c4:Nat)(A71:Option Addr)(n71 c71:Nat)(A78:Option Addr)(n78 c78:Nat):List Ent:=[.arr (sA A71 n71 c71) 3 1 (i+1) ((lbF n (i+1)).map aW).flatten,.arr (sB A78 n78 c78) 228 2 (i+1) ((lvF rs (J2 wF i (.slice A4 n4 c4)) (i+1)).map bC).flatten,.obj b17 (.cells ⟨[.int .i64 n,.slice A71 n71 c71,.slice A78 n78 c78,.slice A1 n1 c1,ae [48],.slice Aw nw cw]⟩ 231 (0,0)),.arr (sO A1 n1 c1) 3 1 n (((List.range n)).map aW).flatten,.arr (sW Aw nw cw) 32 1 n (ob.map aM).flatten]++(List.range (i+1)).map (opE n rs (J2 wF i (.slice A4 n4 c4)))
theorem HD {a:Nat}{b:Option Addr}{c d:Nat}{e:Option Addr}{f g:Nat}{r:List Rat × Rat}{h:Option Addr}{j k:Nat}{l:Option Addr}{m o:Nat}{p:Option Addr}{q s:Nat}(t:rs.getD i ([],0)=r):(RY n rs ob a b c d e f g i wF r h j k l m o p q s).Perm (opX1 n rs ob a b c d e f g i wF h j k l m o p q s):=by
 unfold RY opX1;rw[Ll,Ld t,K0 t];simp only[SV,SI];exact List.Perm.append_left [_,_,_,_,_] (List.perm_append_singleton _ _).symm
theorem KS (C:Mem)(_aY:Tabs C)(n:Nat)(rv T:Value)(c:List (List Rat × Rat))(p:List Rat)(hr:RowsT C rv (c.map dp))(ho:Sl C 1 T (p.map aM))(V:RowsQ n c)(hn:n<=1000)(ap:p.length=n) :
  Jog.Fn cx.P 136 [.agg ⟨[i_ n,rv,T]⟩] C [] λu _aZ k=>∃b wB wL wO wW wF,u=p_ b/\k=(fo b n (Lp.openT (bN n c) λj=>p.getD j 0) wB wL wO wW wF).map Lent.ent:=by
 obtain⟨vs,aq,aF,H⟩:=hr;obtain⟨W,X,rfl,ar,a0,_⟩:=id H;have hm:=V.m;have a1:=mx_
 rw[jQ aq]at H ar⊢;simp only[au]at H ar aq⊢;refine V7 func136 85 U3 λw0=>?_;refine V3 λR a=>?_;refine Wi U6 (λI=>?_);refine C6 1 [1] a U ?_;clear a R;refine G.freeze 0 U (λ_ _ F=>?_);refine Wn [0,1,2,3,4,5,6,7,8] [(4,3),(1,0)] U kr_ (λR A a=>?_);refine V2 U6 ?_;refine WF (λ_=>((PtrTo.blockT F _ 1).mono A)) U9 ?_;refine V2 U6 ?_;refine V1 (bkT F 1) U8 ?_;refine D.call (DX _ T p ho.m_ om_) U (.inr dc_) U6 (Sp _) fl_ (λa2 _ a3 _ aG=>?_);obtain⟨d,e,f,rfl,rfl⟩:=aG;refine Wm [ae [48],.slice d e f] U8 ?_;refine Wm [i_ n,.slice none 0 0,.slice none 0 0,.slice none 0 0,ae [48],.slice d e f] U8 ?_;refine Wi U6 (λo=>?_);refine V2 U6 ?_;refine V5 [1,3] a U ?_;clear a A R;refine U1 1 U λR a=>?_;refine V1 (bkT F 1) U8 ?_;refine C6 1 [1,3,19,20] a U ?_;clear a R;refine G.nilArr 3 1 ?_;refine Wk (L':=[.arr (sO none 0 0) 3 1 0 (((List.range 0)).map aW).flatten,.obj o (.cells ⟨[i_ n,.slice none 0 0,.slice none 0 0,.slice none 0 0,ae [48],.slice d e f]⟩ 231 (0,0)),.arr (sW d e f) 32 1 n (p.map aM).flatten]) (by rw[ap];rfl) ?_;refine G.loop (λfr Y k B=>∃(i:Nat)(g:Option Addr)(n1 h:Nat),(i<=n)/\fr=[(1,[],p_ I),(3,[],p_ o),(19,[],i_ n),(20,[],i_ i)]/\k=[.arr (sO g n1 h) 3 1 i (((List.range i)).map aW).flatten,.obj o (.cells ⟨[i_ n,.slice none 0 0,.slice none 0 0,.slice g n1 h,ae [48],.slice d e f]⟩ 231 (0,0)),.arr (sW d e f) 32 1 n (p.map aM).flatten]/\B=n-i) (hn_ [1,3,19,20] U) ⟨0,none,0,0,Sm _,U,U,U⟩ (λfr a4 a5 m _ E=>?_);obtain⟨i,g,n1,h,hi,rfl,rfl,rfl⟩:=E;refine U0 1 [1,3,19,20,21] U ?_;refine G.cd (λZ=>?_) λZ=>?_
 .have av:i<n:=by
   have:=RD Z;omega
  refine U0 2 [1,3,4,19,20] U ?_;refine U1 4 U λR a=>?_;refine V9 af U9 ?_;refine V2 U6 ?_;refine Wq [[i_ i]] U12 (λa6 _ _ aH=>?_);refine WB (j:=0) U11 aH U ax (by show(i+1)*8<=_;omega) fl_ (λab ac ad=>?_);refine V4 2 U ?_;refine Wa (j:=1) U12 ?_;refine V5 [1,3,19,20] a U ?_;clear a R;refine V3 λR a=>?_;refine V8 _ U U6 ?_;refine C6 1 [1,3,19,20] a U ?_;clear a R;refine G.perm (L':=[.arr (sO ab ac ad) 3 1 (i+1) (((List.range (i+1))).map aW).flatten,.obj o (.cells ⟨[i_ n,.slice none 0 0,.slice none 0 0,.slice ab ac ad,ae [48],.slice d e f]⟩ 231 (0,0)),.arr (sW d e f) 32 1 n (p.map aM).flatten]) (by rw[Tz,SV,SI];exact List.Perm.swap _ _ _) ?_;refine We (m':=n-(i+1)) om_ mup (hn_ [1,3,19,20] U) ⟨i+1,ab,ac,ad,om_,U,U,U⟩
 have ag:i=n:=by
  have:=Si Z;omega
 rw[ag];refine U1 1 U λR a=>?_;refine V1 (bkT F 1) U8 ?_;refine C6 2 [1,3,35,36,37] a U ?_;clear a R;refine G.nilArr 228 2 ?_;refine G.nilArr 3 1 ?_;refine G.perm (L':=[.arr (sA none 0 0) 3 1 0 ((lbF n 0).map aW).flatten,.arr (sB none 0 0) 228 2 0 ((lvF c (λ_=>.slice none 0 0) 0).map bC).flatten,.obj o (.cells ⟨[i_ n,.slice none 0 0,.slice none 0 0,.slice g n1 h,ae [48],.slice d e f]⟩ 231 (0,0)),.arr (sO g n1 h) 3 1 n (((List.range n)).map aW).flatten,.arr (sW d e f) 32 1 n (p.map aM).flatten]++(List.range 0).map (opE n c (λ_=>.slice none 0 0))) (by
  show List.Perm ([_,_,_,_,_]++[]) _
  (exact pkL [0,0,1,0,0] rfl)) ?_
 refine G.loop (λfr Y k B=>∃(i:Nat)(A2:Option Addr)(n2 c2:Nat)(s:Option Addr)(t v:Nat)(wF:Nat->Value),(i<=c.length)/\fr=[(1,[],p_ I),(3,[],p_ o),(35,[],.slice W c.length X),(36,[],i_ c.length),(37,[],i_ i)]/\k=[.arr (sA A2 n2 c2) 3 1 i ((lbF n i).map aW).flatten,.arr (sB s t v) 228 2 i ((lvF c wF i).map bC).flatten,.obj o (.cells ⟨[i_ n,.slice A2 n2 c2,.slice s t v,.slice g n1 h,ae [48],.slice d e f]⟩ 231 (0,0)),.arr (sO g n1 h) 3 1 n (((List.range n)).map aW).flatten,.arr (sW d e f) 32 1 n (p.map aM).flatten]++(List.range i).map (opE n c wF)/\B=c.length-i) (hn_ [1,3,35,36,37] U) ⟨0,none,0,0,none,0,0,λ_=>.slice none 0 0,Sm _,U,U,U⟩ (λfr a7 a8 m _ E=>?_);obtain⟨i,A2,n2,c2,s,t,v,wF,hi,rfl,rfl,rfl⟩:=E;refine U0 1 [1,3,35,36,37,38] U ?_;refine G.cd (λai=>?_) λai=>?_
 .have av:i<c.length:=by
   have:=RD ai;omega
  obtain⟨r,J⟩:∃r,c[i]?=some r:=⟨c[i],ah av⟩;have aI:c.getD i ([],0)=r:=by rw[ak,J];rfl
  have a9:r.1.length=n:=V.l r (aJ J);obtain⟨aK,ba⟩:=V.q r (aJ J);obtain⟨w,hw⟩:∃w,vs[i]?=some w:=⟨vs[i]'om_,ah om_⟩;have aw:(c.map dp)[i]?=some (dp r):=by rw[Sh,J];rfl
  have hx:=aF i w (dp r) hw aw;have aj:Sl C 1 w (r.1.map aM):=by rw[fx];exact hx
  obtain⟨Ax,aL,rfl,aN,bb,_⟩:=id aj;simp only[au]at aj aN hw;refine U1 1 U λR a=>?_;refine Wf H.m_ U10 om_ (pE hw aw) fl_ (λbc aO=>?_);refine V1 aO U8 ?_;refine Wg U5 (λb6=>?_);refine V2 U6 ?_;refine Wa (j:=0) U12 ?_;refine V5 [1,3,5,6,35,36,37] a U ?_;clear a R;refine G.freeze 0 U (λ_ _ ay=>?_);refine U1 1 U λR a=>?_;refine V1 (bkT ay 1) U8 ?_;refine Wm [ae (qtx r.2),.slice none 0 0] U8 ?_;refine Wg U5 (λK=>?_);refine Wa (j:=0) U12 ?_;refine V5 [1,3,5,6,7,35,36,37] a U ?_;clear a R;refine U1 1 U λR a=>?_;refine V1 (bkT ay 1) U8 ?_;refine C6 2 [1,3,5,7,35,36,37,46,47,48] a U ?_;clear a R;refine G.nilArr 32 1 ?_;refine Wk (L':=[.arr (sF none 0 0) 32 1 0 (((List.range 0).map λq=>-r.1.getD q 0).map aM).flatten,.obj K (.cells ⟨[ae (qtx r.2),.slice none 0 0]⟩ 228 (0,0)),.arr (sA A2 n2 c2) 3 1 i ((lbF n i).map aW).flatten,.arr (sB s t v) 228 2 i ((lvF c wF i).map bC).flatten,.obj o (.cells ⟨[i_ n,.slice A2 n2 c2,.slice s t v,.slice g n1 h,ae [48],.slice d e f]⟩ 231 (0,0)),.arr (sO g n1 h) 3 1 n (((List.range n)).map aW).flatten,.arr (sW d e f) 32 1 n (p.map aM).flatten]++(List.range i).map (opE n c wF)) U ?_;refine G.loop (λfr Y k B=>∃(j:Nat)(x:Option Addr)(y z:Nat),(j<=n)/\fr=[(1,[],p_ I),(3,[],p_ o),(5,[],i_ i),(7,[],p_ K),(35,[],.slice W c.length X),(36,[],i_ c.length),(37,[],i_ i),(46,[],.slice Ax r.1.length aL),(47,[],i_ r.1.length),(48,[],i_ j)]/\k=[.arr (sF x y z) 32 1 j (((List.range j).map λq=>-r.1.getD q 0).map aM).flatten,.obj K (.cells ⟨[ae (qtx r.2),.slice x y z]⟩ 228 (0,0)),.arr (sA A2 n2 c2) 3 1 i ((lbF n i).map aW).flatten,.arr (sB s t v) 228 2 i ((lvF c wF i).map bC).flatten,.obj o (.cells ⟨[i_ n,.slice A2 n2 c2,.slice s t v,.slice g n1 h,ae [48],.slice d e f]⟩ 231 (0,0)),.arr (sO g n1 h) 3 1 n (((List.range n)).map aW).flatten,.arr (sW d e f) 32 1 n (p.map aM).flatten]++(List.range i).map (opE n c wF)/\B=n-j) (hn_ [1,3,5,7,35,36,37,46,47,48] U) ⟨0,none,0,0,Sm _,U,U,U⟩ (λfr bd be m _ E=>?_);obtain⟨j,x,y,z,hj,rfl,rfl,rfl⟩:=E;refine U0 1 [1,3,5,7,35,36,37,46,47,48,49] U ?_;refine G.cd (λal=>?_) λal=>?_
  .have bf:j<n:=by
    have:=RD al;omega
   have aP:QB 23 (r.1.getD j 0):=tI aK;refine V3 λR a=>?_;refine Wf aj.m_ U10 om_ (dR om_) fl_ (λbg aQ=>?_);refine V1 aQ U8 ?_;refine C6 1 [1,3,5,7,9,35,36,37,46,47,48] a U ?_;clear a R;refine Wn [0,1,2,3,4,5,6,7] [(3,1)] U kr_ (λR A a=>?_);refine V2 U6 ?_;refine V9 af U9 ?_;refine V2 U6 ?_;refine Wo (λ_=>(fq _ (r.1.getD j 0) (Su (aV aP dc_) dc_))) U9 ?_;refine Wq [[ae (qtx (-(r.1.getD j 0)))]] U12 (λbh _ _ aR=>?_);refine WB (j:=0) U11 aR U ax (by show(j+1)*16<=_;omega) fl_ (λam an ao=>?_);refine V2 U6 ?_;refine Wa (j:=1) U12 ?_;refine V5 [1,3,5,7,35,36,37,46,47,48] a U ?_;clear a A R;refine V3 λR a=>?_;refine V8 _ U U6 ?_;refine C6 1 [1,3,5,7,35,36,37,46,47,48] a U ?_;clear a R;refine G.perm (L':=[.arr (sF am an ao) 32 1 (j+1) (((List.range (j+1)).map λq=>-r.1.getD q 0).map aM).flatten,.obj K (.cells ⟨[ae (qtx r.2),.slice am an ao]⟩ 228 (0,0)),.arr (sA A2 n2 c2) 3 1 i ((lbF n i).map aW).flatten,.arr (sB s t v) 228 2 i ((lvF c wF i).map bC).flatten,.obj o (.cells ⟨[i_ n,.slice A2 n2 c2,.slice s t v,.slice g n1 h,ae [48],.slice d e f]⟩ 231 (0,0)),.arr (sO g n1 h) 3 1 n (((List.range n)).map aW).flatten,.arr (sW d e f) 32 1 n (p.map aM).flatten]++(List.range i).map (opE n c wF)) (by rw[Tz,SV,SV,SI];exact List.Perm.swap _ _ _) ?_;refine We (m':=n-(j+1)) om_ mup (hn_ [1,3,5,7,35,36,37,46,47,48] U) ⟨j+1,am,an,ao,om_,U,U,U⟩
  have aS:j=n:=by
   have:=Si al;omega
  rw[aS];refine G.freeze 1 U (λ_ _ aT=>?_);refine Wk (L':=[.arr (sF x y z) 32 1 n (((List.range n).map λq=>-r.1.getD q 0).map aM).flatten,.arr (sA A2 n2 c2) 3 1 i ((lbF n i).map aW).flatten,.arr (sB s t v) 228 2 i ((lvF c wF i).map bC).flatten,.obj o (.cells ⟨[i_ n,.slice A2 n2 c2,.slice s t v,.slice g n1 h,ae [48],.slice d e f]⟩ 231 (0,0)),.arr (sO g n1 h) 3 1 n (((List.range n)).map aW).flatten,.arr (sW d e f) 32 1 n (p.map aM).flatten]++(List.range i).map (opE n c wF)) U ?_;refine G.cut (λfr Y k B=>∃(L:Option Addr)(M N:Nat)(O:Option Addr)(Q S:Nat),(True)/\fr=[(1,[],p_ I),(3,[],p_ o),(35,[],.slice W c.length X),(36,[],i_ c.length),(37,[],i_ i)]/\k=[.arr (sA L M N) 3 1 (i+1) ((lbF n (i+1)).map aW).flatten,.arr (sB O Q S) 228 2 (i+1) ((lvF c (J2 wF i (.slice x y z)) (i+1)).map bC).flatten,.obj o (.cells ⟨[i_ n,.slice L M N,.slice O Q S,.slice g n1 h,ae [48],.slice d e f]⟩ 231 (0,0)),.arr (sO g n1 h) 3 1 n (((List.range n)).map aW).flatten,.arr (sW d e f) 32 1 n (p.map aM).flatten]++(List.range (i+1)).map (opE n c (J2 wF i (.slice x y z)))) ?_ (λfr bi bj B bk E=>?_)
  .refine WW (.cut [0,1,2,3,4,5,6,7,8,9,12,13,14,16] (.alt 10 (.cut [] (.alt 11 (.fin [15,17,18,19,20,21,22,23,24]) (.alt 15 (.cut [] (.alt 11 (.fin [17,18,19,20,21,22,23,24]) (.alt 17 (.fin [11,18,19,20,21,22,23,24]) .stop))) (.alt 17 (.cut [] (.alt 11 (.fin [15,18,19,20,21,22,23,24]) (.alt 15 (.fin [11,18,19,20,21,22,23,24]) .stop))) .stop)))) (.alt 15 (.cut [] (.alt 10 (.cut [] (.alt 11 (.fin [17,18,19,20,21,22,23,24]) (.alt 17 (.fin [11,18,19,20,21,22,23,24]) .stop))) (.alt 17 (.fin [10,11,18,19,20,21,22,23,24]) .stop))) (.alt 17 (.cut [] (.alt 10 (.cut [] (.alt 11 (.fin [15,18,19,20,21,22,23,24]) (.alt 15 (.fin [11,18,19,20,21,22,23,24]) .stop))) (.alt 15 (.fin [10,11,18,19,20,21,22,23,24]) .stop))) .stop)))) [(16,0)] U U kr_ (λR A a hH=>?_);refine V4 5 U ?_;refine V9 aa U9 ?_;refine V2 U6 ?_;refine V1 (bkT F 1) U8 ?_;refine V2 U6 ?_;refine V8 _ U U6 ?_;refine V4 3 U ?_;refine WF (λ_=>((bkT aT 2).mono A)) U9 ?_
   repeat' first
   |(refine WK hH rfl ⟨?_, ?_,trivial⟩)
   |(refine WK hH rfl ⟨?_, ?_, ?_,trivial⟩)
   |(refine D.buildSlice [[i_ ((n:Int)+(i:Int))]] rfl rfl rfl rfl rfl rfl rfl rfl rfl rfl rfl rfl fl_ (λbl _ _ aU=>?_))
   |(refine WB (j:=1) U11 aU.m_ rfl ax (by show(i+1)*8<=_;omega) fl_ (λaz aA aB=>?_))
   |(refine WU aa U9 ?_)
   |(refine D.buildSlice [[ae (qtx r.2),.slice x y z]] rfl rfl rfl rfl rfl rfl rfl rfl rfl rfl rfl rfl fl_ (λbm _ _ aX=>?_))
   |(refine WB (j:=2) U11 aX.m_ rfl ax (by show(i+1)*40<=_;omega) fl_ (λaC aD aE=>?_))
   |(refine D.pure rfl rfl rfl rfl rfl rfl ?_)
   |(refine Xb (j:=3) U12 ?_)
   |(refine Xb (j:=0) U12 ?_)
   |(refine WV [(1,[],_),(3,[],_),(35,[],_),(36,[],_),(37,[],_)] ⟨rfl,rfl,rfl,rfl,rfl,trivial⟩ (a _ _ _ rfl ?_);clear a A hH R;refine G.perm (L':=RY n c p o d e f g n1 h i wF r x y z az aA aB aC aD aE) (pkL [2,1,0,1,1,0] rfl) ?_;refine G.perm _ (HD aI) ?_;exact Wj 0 mup (hn_ [1,3,35,36,37] rfl) ⟨az,aA,aB,aC,aD,aE,trivial,rfl,rfl⟩)
  obtain⟨L,M,N,O,Q,S,_,rfl,rfl⟩:=E;refine V3 λR a=>?_;refine V8 _ U U6 ?_;refine C6 1 [1,3,35,36,37] a U ?_;clear a R;refine We (m':=c.length-(i+1)) om_ mup (hn_ [1,3,35,36,37] U) ⟨i+1,L,M,N,O,Q,S,(J2 wF i (.slice x y z)),om_,U,U,U⟩
 have ag:i=c.length:=by
  have:=Si ai;omega
 refine U0 2 [2] U ?_;rw[ag];refine G.perm (L':=(fo o n (Lp.openT (bN n c) λj=>p.getD j 0) (.slice A2 n2 c2) (.slice s t v) (.slice g n1 h) (.slice d e f) wF).map Lent.ent) (by rw[HE ap];(exact pkL [2,0,0,0] U)) ?_;refine Wd (WD U U ?_);exact⟨o,.slice A2 n2 c2,.slice s t v,.slice g n1 h,.slice d e f,wF,U,U⟩
def Wl (D:Int)(q:Rat):Prop:=∃z:Int,q*(D:Rat)=(z:Rat)/\z.natAbs<=999999999
def RowI (r:RowQ):Prop:=∃D:Int,D≠0/\D.natAbs<=999999999/\(∀q∈r.f,Wl D q)/\Wl D r.b
def dD (rows:List RowQ):List (List Rat × Rat):=rows.map λr=>(r.f,r.b)
theorem Wl.zero (D:Int):Wl D 0:=⟨0,by grind,by decide⟩
theorem Wl.neg {D:Int}{q:Rat}(h:Wl D q):Wl D (-q):=by
 obtain⟨z,h1,h2⟩:=h;exact⟨-z,by rw[Rat.intCast_neg,<- h1];grind,by omega⟩
theorem Wl.sg {D:Int}{q a:Rat}(h:Wl D q)(b:a=1∨a=-1):Wl D (a*q):=by
 rcases b with rfl|rfl
 .rw[Rat.one_mul];exact h
 rw[show(-1:Rat)*q=-q by grind];exact h.neg
theorem nF (h:i<rows.length):(dD rows).getD i ([],0)=(rows[i].f,rows[i].b):=by
 unfold dD;rw[ak,Sh,ah h];rfl
theorem H5 {d:Nat}(g:n<=12)(h:∀r∈rows,RowI r)(k:∃D:Int,D≠0/\D.natAbs<=d/\∀j,j<n->∃z:Int,cc j*(D:Rat)=(z:Rat)/\z.natAbs<=d)(l:∀n,n<=12->(n+1)*(d*Lp.fctM (2*999999999) n)<B9 ^ 20):Lp.Lim (bN n (dD rows)) cc 20:=by
 have o:∀r:Nat,∃D:Int,∀hr:r<rows.length,D≠0/\D.natAbs<=999999999/\(∀q∈rows[r].f,Wl D q)/\Wl D rows[r].b:=λr=>by
  by_cases hr:r<rows.length
  .obtain⟨D,c⟩:=h rows[r] (Td hr);exact⟨D,λ_=>c⟩
  exact⟨0,λh=>absurd h hr⟩
 obtain⟨D,c⟩:=Classical.axiomOfChoice o;obtain⟨p,s,c2,t⟩:=k;have hm:(bN n (dD rows)).m=rows.length:=au _;have u:Lp.bdQ (bN n (dD rows)) 999999999<B9 ^ 20:=by
  unfold Lp.bdQ Lp.bdT;have:∀n,n<=12->(n+1)*(999999999*Lp.fctM (2*999999999) n)<B9 ^ 20:=by decide +kernel
  exact this _ g
 refine⟨⟨D,999999999,d,p,by decide,⟨λr hr=>?_,λr j hr i=>?_,λr hr=>?_⟩,⟨s,c2⟩,λj i=>?_,u,by unfold Lp.bdW Lp.bdT;exact l _ g⟩⟩
 .rw[hm]at hr;exact⟨(c r hr).1,(c r hr).2.1⟩
 .rw[hm]at hr;have e:(bN n (dD rows)).a r j=rows[r].f.getD j 0:=by show((dD rows).getD r ([],0)).1.getD j 0=_;rw[nF hr]
  have v:Wl (D r) (rows[r].f.getD j 0):=by
   rw[ak];cases w:rows[r].f[j]? with
  |none=>exact Wl.zero _
  |some q=>exact(c r hr).2.2.1 q (aJ w)
  obtain⟨z,h1,h2⟩:=v;exact⟨z,by rw[e,VV];exact h1,h2⟩
 .rw[hm]at hr;have e:(bN n (dD rows)).b r=rows[r].b:=by show((dD rows).getD r ([],0)).2=_;rw[nF hr]
  obtain⟨z,h1,h2⟩:=(c r hr).2.2.2;exact⟨z,by rw[e,VV];exact h1,h2⟩
 obtain⟨z,h1,h2⟩:=t j i;exact⟨z,by rw[VV];exact h1,h2⟩
theorem vl (a:n<=12)(h:∀r∈rows,RowI r)(b:∃D:Int,D≠0/\D.natAbs<=999999999/\∀j,j<n->Wl D (cc j)):Lp.Lim (bN n (dD rows)) cc 20:=H5 a h b ap
theorem Lh (a:n<=12)(h:∀r∈rows,RowI r):Lp.Lim (bN n (dD rows)) (λ_=>0) 20:=vl a h ⟨1,by decide,by decide,λ_ _=>Wl.zero _⟩
theorem xy {p:Nat}{c:List (Nat × Rat)}{b a:Rat}{D:Int}(d:a=1∨a=-1)(e:D≠0)(f:D.natAbs<=999999999)(g:∀x∈c,Wl D x.2)(h:Wl D b):RowI (iq s p k c b a):=by
 refine⟨D,e,f,uH (Wl.zero _) (λx i=>?_),h.sg d⟩;obtain⟨y,hy,rfl⟩:=Sn.1 i;exact(g y hy).sg d
theorem NL {pts:List Pt}{t:Tri}{fs:List Rat}{p:Pt}(e:∀j,Qtr (cor pts t j))(f:dO (cor pts t 0) (cor pts t 1) (cor pts t 2)≠0)(g:∀j,Hlf (fz fs t j))(z:Qtr p) :
  ∃W:Int,W≠0/\W.natAbs<=2880000/\(∀j,∃N:Int,wgt pts t p j*W=N/\N.natAbs<=2880000)/\(∃N:Int,onQ pts fs t p*((2*W:Int):Rat)=N/\N.natAbs<=600000000) /\
   ∀j,(∃N:Int,(slf pts t j).1*W=N/\N.natAbs<=400000)/\∃N:Int,(slf pts t j).2*W=N/\N.natAbs<=400000:=by
 obtain⟨x0,y0,h0,m,o⟩:=e 0;obtain⟨x1,y1,h1,q,r⟩:=e 1;obtain⟨x2,y2,h2,s,u⟩:=e 2;obtain⟨x3,y3,h3,h⟩:=id z;obtain⟨k0,v,A⟩:=g 0;obtain⟨k1,w,B⟩:=g 1;obtain⟨k2,x,C⟩:=g 2;have D:=AI (x0:=x0) (y0:=y0) (x1:=x1) (y1:=y1) (x2:=x2) (y2:=y2) ⟨m,o,q,r,s,u⟩;refine⟨iA x0 y0 x1 y1 x2 y2,(jn h0 h1 h2 v w x f).1,D,λj=>?_,⟨_,MY h0 h1 h2 h3 v w x f,QQ ⟨m,o,q,r,s,u⟩ h ⟨A,B,C⟩⟩,λj=>?_⟩
 .obtain⟨M,O,h4,E,F⟩:=e ((j+1) % 3);obtain⟨P,Q,h5,G,H⟩:=e ((j+2) % 3);exact⟨_,(xK (nh h3 h4 h5) (nh h0 h1 h2) f).2,AI ⟨h.1,h.2,E,F,G,H⟩⟩
 have l:=λi=>B7 (n:=pts.length) (k:=pR t j) (t:=t) i;obtain⟨u0,g0,R⟩:=l 0;obtain⟨u1,I,l1⟩:=l 1;obtain⟨y,J,l2⟩:=l 2;obtain⟨_,K,L⟩:=jn h0 h1 h2 g0 I J f;have S:=kz (a:=u1-u0) (b:=y2-y0) (c:=y1-y0) (d:=y-u0) ⟨by omega,by omega,by omega,by omega⟩;have T:=kz (a:=u1-u0) (b:=x2-x0) (c:=x1-x0) (d:=y-u0) ⟨by omega,by omega,by omega,by omega⟩;exact⟨⟨_,K,by omega⟩,⟨_,L,by omega⟩⟩
theorem Qd {W:Int}{q:Rat}{N:Int}(h:q*(W:Rat)=N)(a:N.natAbs<=400000000):Wl (2*W) q:=⟨2*N,by rw[Ti,Ti,<- h];grind,by omega⟩
theorem Jw {t:Tri}{f:Nat->Rat}{P:Rat->Prop}(h:∀j,P (f j)):∀x∈atT t f,P x.2:=gM (P:=λx=>P x.2) (h 0) (h 1) (h 2)
theorem LU (n:Nat):lF ((n % 12:Nat):Int) 2*2=(((n % 12:Nat):Int):Rat):=pl dc_
theorem N6 (S:Sht)(H:Hts)(B:Bk)(s:Sgt)(i:Nat)(n:SgtR s)(o:B.pts=cJ (S.kd % 8) S.a S.b S.h):∀r∈rowsO B (eT S s i) (mf S s) (tK S s) (zK S H s),RowI r:=by
 obtain⟨pts,tris,terr,col,obs⟩:=B;simp only at o;subst o;obtain⟨z,_⟩:=gV (S.kd % 8) (S5 _ dc_) S.a S.b S.h;obtain⟨_,ht⟩:=locK S s n;have A:=kp z.ok (aJ ht);obtain⟨W,C,f,D,⟨d,p,K⟩,u⟩:=NL (pts:=cJ (S.kd % 8) S.a S.b S.h) (t:=tK S s) (fs:=fsK (cJ (S.kd % 8) S.a S.b S.h).length H) (λj=>vT j) A (λj=>M9 j) (CV S s n);have g:∀j,Wl (2*W) (wgt (cJ (S.kd % 8) S.a S.b S.h) (tK S s) (mf S s) j):=λj=>by
  obtain⟨N,e,b⟩:=D j;exact Qd e om_
 have l:Wl (2*W) (lK (eT S s i) (zK S H s)):=by
  unfold lK;split
  .rename_i E;rw[Di S s i E,da (ok1 (tY s.depth))];have hd:=LU s.depth;have F:zK S H s*((2*W:Int):Rat)=d:=p;refine⟨d-((s.depth % 12:Nat):Int)*W, ?_, ?_⟩
   .simp only[UD,Ti,<- hd];rw[show((d:Int):Rat)=zK S H s*((2*W:Int):Rat) from F.symm];simp only[Ti];grind
   have:=jv (a:=((s.depth % 12:Nat):Int)) (b:=W) (M:=11) om_ f;omega
  exact⟨d,p,by omega⟩
 have m:∀sg∈([1, -1]:List Rat),sg=1∨sg=-1:=by simp
 intro r hr;unfold rowsO at hr;split at hr
 .rcases Sx.1 hr with h|h <;> split at h
  .rw[SD.1 h];exact xy (.inl rfl) om_ om_ (Jw g) l
  .simp at h
  .rw[SD.1 h];exact xy (.inr rfl) om_ om_ (Jw g) l
  simp at h
 rename_i h1;split at hr
 .obtain⟨k,_,h⟩:=List.mem_flatMap.1 hr;obtain⟨sg,c,rfl⟩:=Sn.1 h;exact xy (m sg c) om_ om_ (Jw g) l
 rename_i h2;have L:=oH s.n0;have O:=oH s.n1;have P:=ph s.n2;have v:=vn s.n2;have hd:rG (eT S s i)*(ft s.n2:Int)=((-(s.n0.tmod 5):Int):Rat)/\ju (eT S s i)*(ft s.n2:Int)=((-(s.n1.tmod 5):Int):Rat):=by
  have G:=eA (s.n0.tmod 5) om_;have l1:=eA (s.n1.tmod 5) om_;have l2:=eA (ft s.n2) om_;have Q:((ft s.n2:Int):Rat)≠0:=by exact_mod_cast v
  revert h1 h2;unfold rG ju eT;split
  .intro h1;exact absurd rfl h1
  split
  .intro _ h2;exact absurd rfl h2
  intro _ _;simp only;rw[da (ok1 G),da (ok1 l1),da (ok1 l2),Rat.intCast_neg,Rat.intCast_neg];constructor <;> grind
 have hm:(W*ft s.n2).natAbs<=2880000*4:=jv f om_;have w:W*ft s.n2≠0:=Int.mul_ne_zero C v;have x:∀{q:Rat}{N:Int},q*(W:Rat)=N->N.natAbs<=400000->Wl (W*ft s.n2) q:=fun {q N} e b=>⟨N*ft s.n2,by rw[Ti,Ti,<- e];grind,by have:=jv b (show(ft s.n2).natAbs<=4 by omega);omega⟩;have I:∀j,Wl (W*ft s.n2) (slf (cJ (S.kd % 8) S.a S.b S.h) (tK S s) j).1:=λj=>by
  obtain⟨N,e,b⟩:=(u j).1;exact x e b
 have J:∀j,Wl (W*ft s.n2) (slf (cJ (S.kd % 8) S.a S.b S.h) (tK S s) j).2:=λj=>by
  obtain⟨N,e,b⟩:=(u j).2;exact x e b
 have y:∀{q:Rat}{N:Int},q*((ft s.n2:Int):Rat)=N->N.natAbs<=4->Wl (W*ft s.n2) q:=fun {q N} e b=>⟨N*W,by rw[Ti,Ti,<- e];grind,by have:=jv b f;omega⟩;obtain⟨k,_,h⟩:=List.mem_flatMap.1 hr;rcases Sx.1 h with h|h
 .obtain⟨sg,c,rfl⟩:=Sn.1 h;exact xy (m sg c) w om_ (Jw I) (y hd.1 om_)
 obtain⟨sg,c,rfl⟩:=Sn.1 h;exact xy (m sg c) w om_ (Jw J) (y hd.2 om_)
def Rz (x:Lay):Prop:=(∃z:Int,x.min=z/\z.natAbs<=1000)/\∀m,x.max=some m->∃z:Int,m=z/\z.natAbs<=1000
theorem BU {q:Rat}{z:Int}(e:q=z)(h:z.natAbs<=1000):Wl 1 q:=⟨z,by rw[e];show _*(1:Rat)=_;grind,by omega⟩
theorem Qj {a:Nat}{u v:Rat}{c:Rat}(f:u=1∨u=-1)(g:v=1∨v=-1)(i:Wl 1 c):RowI ⟨sZ n [(a,u),(b,v)],c⟩:=by
 have d:∀q:Rat,q=1∨q=-1->Wl 1 q:=λq h=>by
  rcases h with rfl|rfl
  .exact BU (z:=1) ap dc_
  exact BU (z:=-1) ap dc_
 refine⟨1,by decide,by decide,uH (Wl.zero _) (λx e=>?_),i⟩;simp only[Sw,Tp,UG]at e;rcases e with rfl|rfl
 .exact d _ f
 exact d _ g
theorem J7 {p:Nat}{x:Lay}(h:Rz x):∀r∈kO s p x i k,RowI r:=by
 obtain⟨z,a,b⟩:=h.1;intro r hr;unfold kO at hr;rcases Sw.1 hr with rfl|hr
 .exact Qj (.inr U) (.inl U) (BU a b).neg
 split at hr
 .cases hr
 rename_i m hm;obtain⟨z,a,b⟩:=h.2 m hm;rw[SD.1 hr];exact Qj (.inl U) (.inr U) (BU a b)
theorem Cj {s p:Nat}{x:Lay}{i:Nat}(h:Rz x):∀k,∀r∈bZ s p x i k,RowI r
|0,r,hr=>by cases hr
|k+1,r,hr=>by
  rcases Sx.1 hr with h1|h1
  .exact Cj h k r h1
  exact J7 h r h1
theorem Ci {s p:Nat}{a:List Lay}(h:∀x∈a,Rz x):∀n,∀r∈bQ s p a n,RowI r
|0,r,hr=>by cases hr
|n+1,r,hr=>by
  rcases Sx.1 hr with h1|h1
  .exact Ci h n r h1
  refine Cj ?_ _ r h1;rw[ak];cases b:a[n+1]? with
 |none=>exact⟨⟨0,rfl,by decide⟩,λm hm=>by cases hm⟩
 |some x=>exact h x (aJ b)
theorem Sb:∀x∈colK,Rz x:=by
 intro x a;simp only[colK,Sw,Tp,UG]at a;rcases a with rfl|rfl|rfl
 .exact⟨⟨0,U,by decide⟩,λm hm=>by cases hm⟩
 .exact⟨⟨0,U,by decide⟩,λm hm=>by cases hm;exact⟨5,U,by decide⟩⟩
 exact⟨⟨1,U,by decide⟩,λm hm=>by cases hm⟩
theorem Fp (h:FeasO p t u):∃(row:Int)(a:Bool),u=.tuple #[i_ row,.bool a]/\(a=true->t.Feas p.n) /\
  (a=false->∃r:Nat,row=r/\r<t.basic.length/\p.n<=t.bas r/\(t.line r).c<0/\∀s,s<t.others.length->p.n<=t.oth s->(t.line r).g s<=0):=by
 cases h with
|yes h=>exact⟨0,true,rfl,λ_=>h,λh=>by cases h⟩
|no r h1 h2 h3 h4=>exact⟨r,false,rfl,λh=>(by cases h),λ_=>⟨r,rfl,h1,h2,h3,h4⟩⟩
theorem HP (h:MinO p t u):∃(b:Int)(a:Bool),u=.tuple #[i_ b,.bool a]/\(a=true->Lp.RelW p.n t/\∀s,s<t.others.length->p.n<=t.oth s->0<=t.worth.g s) /\
  (a=false->∃s:Nat,b=s/\s<t.others.length/\lJ t s*t.worth.g s<0/\(∀i,i<t.basic.length->p.n<=t.bas i->0<=lJ t s*(t.line i).g s)/\(p.n<=t.oth s->0<=lJ t s)):=by
 cases h with
|yes h1 h2=>exact⟨0,true,rfl,λ_=>⟨h1,h2⟩,λh=>by cases h⟩
|no s h1 h2 h3 h4=>exact⟨s,false,rfl,λh=>(by cases h),λ_=>⟨s,rfl,h1,h2,h3,h4⟩⟩
inductive SolO (p:Lp.Sys) (cc:Nat->Rat) (D:Mem):Value->Prop where
|opt (val:Rat) (pt du:Nat->Rat) (vp vd:Value):Lp.OptR p cc 20 val pt du->Sl D 1 vp (((List.range p.n).map pt).map aM)->Sl D 1 vd (((List.range p.m).map du).map aM)->SolO p cc D (.agg ⟨[.int .i64 1,ae (qtx val),vp,vd,.slice none 0 0]⟩)
|inf (du:Nat->Rat) (vd:Value):Lp.InfR p 20 du->Sl D 1 vd (((List.range p.m).map du).map aM)->SolO p cc D (.agg ⟨[.int .i64 2,ae [],.slice none 0 0,vd,.slice none 0 0]⟩)
|unb (pt ra:Nat->Rat) (vp vr:Value):Lp.UnbR p cc 20 pt ra->Sl D 1 vp (((List.range p.n).map pt).map aM)->Sl D 1 vr (((List.range p.n).map ra).map aM)->SolO p cc D (.agg ⟨[.int .i64 3,ae [],vp,.slice none 0 0,vr]⟩)
theorem KF :lJ t s=1∨lJ t s=-1:=by unfold lJ;split <;> simp
theorem CA (C:Mem)(x:Tabs C)(n:Nat)(V F:Value)(k:List (List Rat × Rat))(l:List Rat)(H:RowsT C V (k.map dp))(ho:Sl C 1 F (l.map aM))(X:RowsQ n k)(Y:n<=1000)(ai:l.length=n)(f:Lp.Lim (bN n k) (λj=>l.getD j 0) 20) :
  Pur cx.P 74 [.agg ⟨[i_ n,V,F]⟩] C λu D=>SolO (bN n k) (λj=>l.getD j 0) D u:=by
 have aS:=mx_
 have hm:=X.m;have aj:=H;obtain⟨vs,ak,_,am⟩:=aj;obtain⟨Ar,cr,rfl,_⟩:=id am;rw[jQ ak,au]at H⊢;obtain⟨p,hp⟩:∃p,bN n k=p:=⟨_,rfl⟩;obtain⟨cc,an⟩:∃cc:Nat->Rat,(λj=>l.getD j 0)=cc:=⟨_,rfl⟩;have ao:p.n=n:=by rw[<- hp];rfl
 have ap:p.m=k.length:=by rw[<- hp];rfl
 have z:=λ(D:Mem)(I:C.le D)=>KS D (x.mono I) n (.slice Ar k.length cr) F k l (H.mono I) (ho.mono I) X Y ai;rw[hp,an]at f z⊢;rw[<- ao]at z Y⊢;rw[<- ap]at z⊢;refine V7 func74 57 U3 λw0=>V3 λR a=>Wi U6 λb1=>Wg U5 λb2=>V5 [1,2] a U<|G.freeze 1 U λ_ _ J=>Wt [(1,3)] U λR a=>V1 (bkT J 3) U8<|D.call (z _ mup) U (.inr dc_) U6 (Sp _) fl_ (λv9 Z L9 _ aq=>?_);obtain⟨b,wB,wL,wO,wW,wF,rfl,rfl⟩:=aq;refine C6 1 [1,2,3] a U<|Wt [(1,3)] U λR a=>V2 U6<|D.call (EP _ x.m_ p cc b _ wB wL wO wW wF Lp.openT_inv U f om_ om_) U (.inr dc_) U6 (Sp _) fl_ λaT _ aU _ ar=>V5 [1,2,3] a U ?_;clear a R;obtain⟨-,t1,av,aw,ax,rfl⟩:=ar;refine Wt [(1,3)] U λR a=>V2 U6<|D.call (AT _ x.m_ p cc b t1 wB wL wO wW av aw ax f om_ om_) U (.inr dc_) U6 (Sp _) fl_ (λaV _ aW _ ay=>?_);obtain⟨t,aa,w,ab,hF,rfl⟩:=ay;obtain⟨row,is,rfl,az,aA⟩:=Fp hF;refine C6 5 [1,2,3,4,5] a U<|U0 2 [1,2,3,4,18] U<|G.cd (λK=>?_) λK=>?_
 .have L:is=false:=by simpa using K
  obtain⟨r,rfl,M,ac,aB,aC⟩:=aA L;refine Xi (fo b p.n t wB wL wO wW aa) (gE w.tab.ok) (λC5 _ y=>?_);have h:=ff w.tab.ok y;refine U1 3 U λR a=>V1 (bkT J 1) U8<|V2 U6<|Ws (KE _ p b r t wB wL wO wW _ h.m_ w.tab om_ M ac (λq=>(w.dualQ f dc_ M q).le dc_)) U7 fl_ (λaX _ _ aD=>?_);obtain⟨g,rfl,hg⟩:=aD;refine Wm [i_ 2,ae [],.slice none 0 0,s_ g p.m p.m,.slice none 0 0] U8<|Wa (j:=0) U12<|V5 [2] a U<|Wd (WO ag U4 ?_);exact⟨U,.inf _ _ (w.inf f dc_ ab M ac aB aC) hg.m_⟩
 have L:is=true:=by simpa using K
 have aE:=az L;refine Wt [(1,3)] U λR a=>V2 U6<|D.call (Ak _ x.m_ p cc b t wB wL wO wW aa w ab aE f om_ om_) U (.inr dc_) U6 (Sp _) fl_ (λaY _ aZ _ aF=>?_);obtain⟨d,ad,e,af,hM,rfl⟩:=aF;obtain⟨a0,ah,rfl,aG,aH⟩:=HP hM;refine C6 5 [1,2,3,6,7] a U<|U0 2 [1,2,3,6,32] U<|G.cd (λN=>?_) λN=>?_
 .have O:ah=false:=by simpa using N
  obtain⟨s,rfl,A,aI,aJ,aK⟩:=aH O;refine Xi (fo b p.n d wB wL wO wW ad) (gE e.tab.ok) (λC5 _ y=>?_);have h:=ff e.tab.ok y;refine Wt [(1,3),(4,3)] U λR a=>V2 U6<|D.call (CZ _ b p.n (p.n+p.m) d wB wL wO wW _ h.m_ e.tab.ok om_) U (.inr dc_) U6 (Sp _) fl_ (λa1 _ a2 _ aL=>?_);obtain⟨Q,rfl,rfl⟩:=aL;refine V4 2 U<|D.call (QF _ x.m_ p b s d wB wL wO wW _ h.m_ e.tab A om_ (λi hi=>e.fac f hi A) (e.wfac f A)) U (.inr dc_) U6 (Sp _) fl_ (λa3 _ a4 _ aN=>?_);obtain⟨B,rfl,rfl⟩:=aN;refine Wm [i_ 3,ae [],s_ Q p.n p.n,.slice none 0 0,s_ B p.n p.n] U8<|Wa (j:=2) U12<|V5 [2] a U<|G.freezeArr 1 (((List.range p.n).map λv=>lJ d s*d.dir s v).map aM) U2 bK al λC8 _ S=>G.freezeArr 1 (((List.range p.n).map d.sol).map aM) U2 bK al λZ _ T=>Wd (WO ag U4 ?_);exact⟨U,.unb _ _ _ _ (e.unb f dc_ af A KF aI aJ aK) T S.m_⟩
 have O:ah=true:=by simpa using N
 obtain⟨aO,aP⟩:=aG O;refine Xi (fo b p.n d wB wL wO wW ad) (gE e.tab.ok) (λC5 _ y=>?_);have h:=ff e.tab.ok y;refine Wn [0,1,2,3,4,5,7,8,9,10,11,12,13,14,6,15,16,17,18] [(6,3),(15,3),(4,0),(11,0),(13,0)] U kr_ λR E a=>V4 4 U<|WF (λ_=>((PtrTo.blockT h.o _ 1).mono E)) U9<|V4 5 U<|WF (λ_=>((PtrTo.blockT h.o _ 2).mono E)) U9<|V2 U6<|WF (λ_=>((bkT J 1).mono E)) U9<|V2 U6<|D.call (CZ _ b p.n (p.n+p.m) d wB wL wO wW _ h.m_ e.tab.ok om_) U (.inr dc_) U6 (Sp _) fl_ λa5 _ a6 _ aQ=>D.call (IQ _ p b d d.worth wB wL wO wW wW _ h.m_ e.tab om_ h.W.m_ e.tab.ok.wl) U (.inr dc_) U6 (Sp _) fl_ (λa7 _ a8 _ aR=>?_);obtain⟨B,rfl,rfl⟩:=aR;obtain⟨Q,rfl,rfl⟩:=aQ;refine Wm [s_ B p.m p.m] U8<|Wm [i_ 1,ae (qtx d.worth.c),s_ Q p.n p.n,s_ B p.m p.m,.slice none 0 0] U8<|Wa (j:=2) U12<|V5 [2] a U<|G.freezeArr 1 (((List.range p.m).map (Lp.dualV p d d.worth)).map aM) U2 bK al λC8 _ S=>G.freezeArr 1 (((List.range p.n).map d.sol).map aM) U2 bK al λZ _ T=>Wd (WO ag U4 ?_);exact⟨U,.opt _ _ _ _ _ (e.opt f dc_ af aO aP) T S.m_⟩
theorem O9 (C:Mem)(n:Nat)(j:n<=1000000):Jog.Fn cx.P 212 [.slice none 0 0,i_ n] C [] λu _ h=>∃A n2 c,u=.slice A n2 c/\h=[.arr u 32 1 0 []]:=by
 have k:=mx_
 refine V7 func212 27 U3 λw0=>U0 1 [0,1] U<|U0 2 [0,1,6] U<|G.cd (λd=>?_) λd=>?_
 .simp at d;omega
 refine U1 2 U λR a=>Xj U9<|V4 2 U<|V8 _ U U6<|V8 _ U U6<|C6 1 [0,1] a U<|U0 2 [0,1,16] U<|G.cd (λf=>?_) λf=>?_
 .have i:0<n:=by
   simp at f;omega
  refine U1 2 U λR a=>Xj U9<|WN 0 0 0 U12 (λ_=>⟨.inl ⟨U,U⟩,.inr ⟨_,U⟩,.inl ⟨U,U⟩,Sg _,Sg _,Sg _⟩) U2<|V2 U6<|XN (m:=n) U12 i (by show n*16<=_;omega) y_ fl_ λb g l=>V4 2 U<|WN 0 0 g U12 (λ_=>⟨.inl ⟨U,U⟩,.inr ⟨_,U⟩,.inl ⟨U,U⟩,Sg _,Sm _,Sg _⟩) U2<|C6 1 [0] a U<|U0 2 [4] U<|X0 0 0 U (Sm _)<|Wd (WD U U ?_);refine⟨_,_,_,U, ?_⟩;have e:(if g=0 then some (⟨b,0,none⟩:Addr) else (some (⟨b,0,none⟩:Addr)).map (·.add (0*1)))=some ⟨b,0,none⟩:=by
   split
   .rfl
   simp[Addr.add_lit]
  rw[e];simp
 refine U0 2 [4] U<|G.nilArr 32 1<|Wd (WD U U ?_);exact⟨none,0,0,U,U⟩
def gQ (xs:List (Value × List Rat)):List Rat:=(xs.map (·.2)).flatten
theorem mY {a:List (Value × List Rat)}{x:Value × List Rat}(h:a[i]?=some x):gQ (a.take (i+1))=gQ (a.take i)++x.2:=by
 unfold gQ;rw[SH,h];simp
theorem wd (a:List (Value × List Rat))(i:Nat):(gQ (a.take i)).length<=(gQ a).length:=by
 have h:gQ a=gQ (a.take i)++gQ (a.drop i):=by
  unfold gQ;rw[<- SI,<- SV,Tf]
 rw[h,So];omega
def yK (x:Value × List Rat):List Value:=[x.1]
theorem Ja (C:Mem)(v:Value)(a:List (Value × List Rat))(h:Sl C 1 v (a.map yK))(B:∀x∈a,Sl C 1 x.1 (x.2.map aM))(K:(gQ a).length<=1000000) :
  Jog.Fn cx.P 144 [v] C [] λu _ e=>∃A n2 c,u=.slice A n2 c/\e=[.arr u 32 1 (gQ a).length ((gQ a).map aM).flatten]:=by
 obtain⟨p,c0,rfl,L,Z,_⟩:=id h;have aa:=mx_
 simp only[au]at h L⊢;refine V7 func144 36 U3 λw0=>U0 1 [0] U<|U0 1 [0,3] U<|U0 3 [0,3,9,10,11] U<|G.loop (λfr M e q=>∃(i:Nat)(z:Int),(i<=a.length/\z=(gQ (a.take i)).length)/\fr=[(0,[],.slice p a.length c0),(3,[],i_ z),(9,[],.slice p a.length c0),(10,[],i_ a.length),(11,[],i_ i)]/\e=[]/\q=a.length-i) (hn_ [0,3,9,10,11] U) ⟨0,0,⟨Sm _,U⟩,U,U,U⟩ (λfr ab ac m _ r=>?_);obtain⟨i,z,⟨hi,s⟩,rfl,rfl,rfl⟩:=r;refine U0 1 [0,3,9,10,11,12] U<|G.cd (λt=>?_) λt=>?_
 .have f:i<a.length:=by
   have:=RD t;omega
  obtain⟨x,d⟩:∃x,a[i]?=some x:=⟨a[i],ah f⟩;have g:=B x (aJ d);obtain⟨w,l⟩:=x;simp only at g;obtain⟨Ax,ad,rfl,N,af,_⟩:=id g;simp only[au]at g N d;have k:=mY d;have E:=wd a (i+1);have O:(gQ (a.take (i+1))).length=(gQ (a.take i)).length+l.length:=by rw[k,So]
  refine V3 λR b=>Wf h.m_ U10 om_ (show(a.map yK)[i]?=some [_] from dJ d) fl_ λag Q=>V1 Q U8<|C6 1 [0,3,5,9,10,11] b U<|U1 3 U λR b=>V8 _ U U6<|C6 1 [0,3,9,10,11] b U<|U0 2 [0,3,9,10,11,20] U<|G.cd (λF=>?_) λF=>?_
  .exfalso;have ai:=RD F;omega
  refine V3 λR b=>V8 _ U U6<|C6 1 [0,3,9,10,11] b U<|We (m':=a.length-(i+1)) om_ mup (hn_ [0,3,9,10,11] U) ⟨i+1,_,⟨by omega,by rw[s];omega⟩,U,U,U⟩
 have f:i=a.length:=by
  have:=Si t;omega
 rw[f,Ss]at s;subst s;refine Wt [(1,3)] U λR b=>V2 U6<|D.call (O9 _ (gQ a).length K) U (.inr dc_) U6 (Sp _) fl_ (λaj _ ak _ S=>?_);obtain⟨T,V,W,rfl,rfl⟩:=S;refine C6 1 [0,6] b U<|U0 3 [6,25,26,27] U<|G.loop (λfr M e q=>∃(i:Nat)(n:Option Addr)(n1 o:Nat),(i<=a.length)/\fr=[(6,[],.slice n n1 o),(25,[],.slice p a.length c0),(26,[],i_ a.length),(27,[],i_ i)]/\e=[.arr (.slice n n1 o) 32 1 (gQ (a.take i)).length ((gQ (a.take i)).map aM).flatten]/\q=a.length-i) (hn_ [6,25,26,27] U) ⟨0,T,V,W,Sm _,U,U,U⟩ (λfr al am m E r=>?_);obtain⟨i,n,n1,o,an,rfl,rfl,rfl⟩:=r;refine U0 1 [6,25,26,27,28] U<|G.cd (λy=>?_) λy=>?_
 .have f:i<a.length:=by
   have:=RD y;omega
  obtain⟨x,d⟩:∃x,a[i]?=some x:=⟨a[i],ah f⟩;have g:=B x (aJ d);have k:=mY d;have E:=wd a (i+1);have O:(gQ (a.take (i+1))).length=(gQ (a.take i)).length+x.2.length:=by rw[k,So]
  refine V3 λR b=>Wf h.m_ U10 om_ (show(a.map yK)[i]?=some [x.1] from dJ d) fl_ λao X=>V1 X U8<|C6 1 [6,8,25,26,27] b U<|U1 2 U λR b=>WB (j:=0) U11 g.m_ (by simp[aM,kR,ae]) (by simp only[au,maxLen];omega) (by show((gQ (a.take i)).length+(x.2.map aM).length)*16<=_;rw[au];omega) fl_ λH I J=>C6 1 [6,25,26,27] b U<|V3 λR b=>V8 _ U U6<|C6 1 [6,25,26,27] b U<|Wk (L':=[.arr (.slice H I J) 32 1 (gQ (a.take (i+1))).length ((gQ (a.take (i+1))).map aM).flatten]) (by rw[k,SV,SI,So,au];rfl)<|We (m':=a.length-(i+1)) om_ mup (hn_ [6,25,26,27] U) ⟨i+1,H,I,J,om_,U,U,U⟩
 have Y:i=a.length:=by
  have:=Si y;omega
 refine U0 2 [2] U<|Wd (WD U U ?_);exact⟨n,n1,o,U,by rw[Y,Ss]⟩
theorem CE (C:Mem)(N:Tabs C)(o:Int)(y:Str)(f g i:Value)(a b c:List Rat)(z:Sl C 1 f (a.map aM))(A:Sl C 1 g (b.map aM))(B:Sl C 1 i (c.map aM))(O:∀x∈a,QB 20 x)(Q:∀x∈b,QB 20 x)(S:∀x∈c,QB 20 x)(af:a.length<=1000)(ag:b.length<=1000)(ah:c.length<=1000)
  (T:o=1->∃q,y=qtx q/\QB 20 q):Gives cx.P 75 [.agg ⟨[i_ o,ae y,f,g,i]⟩] C (.bool true):=by
 have E:gQ [(f,a),(g,b),(i,c)]=a++(b++(c++[])):=rfl;have F:(gQ [(f,a),(g,b),(i,c)]).length<=1000000:=by rw[E];simp;omega
 obtain⟨all,H⟩:∃all,gQ [(f,a),(g,b),(i,c)]=all:=⟨_,rfl⟩;have I:∀x∈all,QB 20 x:=λx d=>by
  rw[<- H,E]at d;simp only[Sx,Tp,UG]at d;rcases d with h|h|h
  .exact O x h
  .exact Q x h
  exact S x h
 have V:∀l:List Rat,(∀x∈l,QB 20 x)->((l.map qtx).any λs=>!aS s)=false:=λl W=>List.any_eq_false.2 λs hs=>by
  obtain⟨x,d,rfl⟩:=Sn.1 hs;rw[bx ((W x d).le dc_)];decide
 obtain⟨p,r,rfl,_⟩:=id z;obtain⟨t,u,rfl,_⟩:=id A;obtain⟨v,w,rfl,_⟩:=id B;have X:∀D:Mem,C.le D->∀x∈[(Value.slice p (a.map aM).length r,a),(Value.slice t (b.map aM).length u,b),(Value.slice v (c.map aM).length w,c)],Sl D 1 x.1 (x.2.map aM):=λD k x d=>by
  simp only[Sw,Tp,UG]at d;rcases d with h|h|h
  .rw[h];exact z.mono k
  .rw[h];exact A.mono k
  rw[h];exact B.mono k
 refine V7 func75 24 U3 λw0=>V3 λR e=>Wi U6 λb1=>C6 1 [1] e U<|G.freeze 0 U λ_ _ m=>Wt [(8,3)] U λR e=>V2 U6<|V1 (bkT m 1) U8<|V4 2 U<|V1 (bkT m 1) U8<|V2 U6<|V1 (bkT m 1) U8<|Wq [[.slice p (a.map aM).length r],[.slice t (b.map aM).length u],[.slice v (c.map aM).length w]] U12 λai _ _ Y=>D.call (Ja _ _ [(.slice p (a.map aM).length r,a),(.slice t (b.map aM).length u,b),(.slice v (c.map aM).length w,c)] Y.m_ (X _ mup) F) U (.inr dc_) U6 (Sp _) fl_ (λaj _ ak _ Z=>?_);obtain⟨A3,n3,c3,rfl,rfl⟩:=Z;rw[H]at F⊢;refine C6 1 [1,3] e U<|U1 1 U λR e=>V1 (bkT m 1) U8<|C6 1 [1,3,15] e U<|G.cut (λfr C' J μ=>∃(n:Value)(l:List Rat),(∀x∈l,QB 20 x)/\fr=[(3,[],n)]/\J=[.arr n 32 1 l.length (l.map aM).flatten]) ?_ (λfr _ am μ _ hI=>?_)
 .refine G.cd (λK=>?_) λK=>?_
  .have aa:o=1:=by simpa using K
   obtain⟨q,rfl,ab⟩:=T aa;refine U1 2 U λR e=>V1 (bkT m 1) U8<|Wq [[ae (qtx q)]] U12 λan _ _ ac=>D.append (j:=0) U11 ac U ax (by show(all.length+1)*16<=_;omega) fl_ λL=>C6 1 [3] e U<|Wk (L':=[.arr L 32 1 (all++[q]).length ((all++[q]).map aM).flatten]) (by rw[SV,SI,So];rfl)<|Wj 0 mup (hn_ [3] U) ⟨L,all++[q],λx d=>by
    rcases Sx.1 d with h|h
    .exact I x h
    rw[SD.1 h];exact ab,rfl,rfl⟩
  refine Wj 0 l_ (hn_ [3] U) ⟨_,all,I,U,U⟩
 obtain⟨n ,l,M,rfl,rfl⟩:=hI;refine G.freezeArr 0 (l.map aM) U2 bK al λ_ _ ad=>U1 1 U λR e=>Wc (zY _ n (l.map qtx) 102 [] (λs=>!aS s) (by rw[<- fx];exact ad.mono mup) kr_ (λs hs D k=>by
  obtain⟨x,d,rfl⟩:=Sn.1 hs;exact me D (N.mono (Mem.le.trans mup k)) (qtx x) (Su (aV (M x d) dc_) dc_))) U7 fl_ ?_
 exact C6 2 [2] e U<|V6 U2<|⟨by rw[V l M];rfl,U⟩
theorem SolO.mono {p:Lp.Sys}{d:Nat->Rat}{D E:Mem}{u:Value}(h:SolO p d D u)(a:D.le E):SolO p d E u:=by
 cases h with
|opt val pt du b c e h1 h2=>exact .opt val pt du b c e (h1.mono a) (h2.mono a)
|inf du c f h1=>exact .inf du c f (h1.mono a)
|unb pt ra b g i h1 h2=>exact .unb pt ra b g i (h1.mono a) (h2.mono a)
theorem SolO.m_ {D E:Mem}(h:SolO p cc D u)(a:D.le E:=by exact mup):SolO p cc E u:=SolO.mono h a
theorem xj {D:Mem}(h:SolO p cc D u):∃(kd:Int)(val:Str)(e g i:Value)(a b c:List Rat),u=.agg ⟨[i_ kd,ae val,e,g,i]⟩/\Sl D 1 e (a.map aM)/\Sl D 1 g (b.map aM)/\Sl D 1 i (c.map aM) /\
  (∀x∈a,QB 20 x)/\(∀x∈b,QB 20 x)/\(∀x∈c,QB 20 x)/\a.length<=p.n/\b.length<=p.m/\c.length<=p.n/\(kd=1->∃q,val=qtx q/\QB 20 q):=by
 have hr:∀(n:Nat)(f:Nat->Rat),(∀j,QB 20 (f j))->∀x∈(List.range n).map f,QB 20 x:=λn f o x d=>by
  obtain⟨j,_,rfl⟩:=Sn.1 d;exact o j
 cases h with
|opt val pt du e g k h1 h2=>exact⟨1,qtx val,e,g,.slice none 0 0,_,_,[],rfl,h1,h2,Sl.nil _ _,hr _ _ k.qp,hr _ _ k.qd,λx d=>(by cases d),by simp,by simp,Sm _,λ_=>⟨val,rfl,k.qv⟩⟩
|inf du g r h1=>exact⟨2,[],.slice none 0 0,g,.slice none 0 0,[],_,[],rfl,Sl.nil _ _,h1,Sl.nil _ _,λx d=>(by cases d),hr _ _ r.qd,λx d=>(by cases d),Sm _,by simp,Sm _,λh=>absurd h dc_⟩
|unb pt ra e i l h1 h2=>exact⟨3,[],e,.slice none 0 0,i,_,[],_,rfl,h1,Sl.nil _ _,h2,hr _ _ l.qp,λx d=>(by cases d),hr _ _ l.qr,by simp,Sm _,by simp,λh=>absurd h dc_⟩
theorem og {l:List Rat}(h:∀x∈l,QB 22 x):(l.map qtx).all aS=true:=SA.2 λs hs=>by
 obtain⟨x,a,rfl⟩:=Sn.1 hs;exact bx (h x a)
theorem qB {n:Nat}:∀{rs:List (List Rat × Rat)},(∀r∈rs,r.1.length=n)->(∀r∈rs,(∀x∈r.1,QB 22 x)/\QB 22 r.2)->uG n (rs.map dp)=0
|[],_,_=>rfl
|r::rs,b,a=>by
  have e:uG n ((r::rs).map dp)=if G4 n (dp r)≠0 then G4 n (dp r) else uG n (rs.map dp):=rfl;have h0:G4 n (dp r)=0:=G3.2 ⟨fH.2 ⟨by show((r.1.map qtx).length:Int)=n;rw[au,b r Sj],og (a r Sj).1⟩,bx (a r Sj).2⟩;rw[e,aF λh=>h h0];exact qB (λr hr=>b r (Sv _ hr)) λr hr=>a r (Sv _ hr)
theorem od (e:n<=60)(f:rs.length<=300)(a:∀r∈rs,r.1.length=n)(b:∀r∈rs,(∀x∈r.1,QB 22 x)/\QB 22 r.2)(c:ob.length=n)(d:∀x∈ob,QB 22 x):DZ n (rs.map dp) (ob.map qtx)=0:=by
 unfold DZ;rw[aF om_,aF (by rw[au];omega),aF λh=>h (fH.2 ⟨by rw[au,c],og d⟩)];exact qB a b
theorem Hs (C:Mem)(o:Tabs C)(n:Nat)(g i:Value)(d:List (List Rat × Rat))(f:List Rat)(k:RowsT C g (d.map dp))(v:Sl C 1 i (f.map aM))(p:RowsQ n d)(w:∀x∈f,QB 22 x)(y:∀r∈d,(∀x∈r.1,QB 22 x)/\QB 22 r.2)(L:n<=60)(z:f.length=n)(M:Lp.Lim (bN n d) (λj=>f.getD j 0) 20) :
  Pur cx.P 21 [.agg ⟨[i_ n,g,i]⟩] C λu D=>∃r,u=.tuple #[r,i_ 0]/\SolO (bN n d) (λj=>f.getD j 0) D r:=by
 have Z:=mx_
 have hm:=p.m;have N:DZ n (d.map dp) (f.map qtx)=0:=od L om_ p.l y z w;have O:∀D:Mem,C.le D->Gives cx.P 73 [.agg ⟨[i_ n,g,i]⟩] D (i_ 0):=λD q=>by
  have h:=mg D (o.mono q) n g i (d.map dp) (f.map qtx) (k.mono q) (by rw[<- fx];exact v.mono q) (λr k=>by
   obtain⟨r,Q,rfl⟩:=Sn.1 k;obtain⟨h1,h2⟩:=y r Q;refine⟨λs hs=>?_,Su (aV h2 dc_) dc_⟩;obtain⟨x,t,rfl⟩:=Sn.1 hs;exact Su (aV (h1 x t) dc_) dc_) (λs hs=>by
   obtain⟨x,t,rfl⟩:=Sn.1 hs;exact Su (aV (w x t) dc_) dc_)
  rw[N]at h;exact h
 refine V7 func21 19 U3 λw0=>V3 λR e=>Wi U6 λb1=>Wg U5 λb2=>C6 1 [1,2] e U<|G.freeze 1 U λ_ _ A=>V3 λR e=>V1 (bkT A 3) U8<|Wb (O _ mup) U7<|C6 1 [1,2,4] e U<|U0 2 [1,2,4,9] U<|G.cd (λB=>?_) λB=>?_
 .exact absurd B dc_
 refine V3 λR e=>V1 (bkT A 3) U8<|Ws (CA _ o.m_ n g i d f k.m_ v.m_ p om_ z M) U7 fl_ (λaa _ _ E=>?_);obtain⟨kd,val,vp,vd,vr,a,b,c,rfl,F,H,I,S,qb,T,V,W,X,Y⟩:=xj E;obtain⟨Ap,cp,rfl,_⟩:=id F;obtain⟨Ad,cd,rfl,_⟩:=id H;obtain⟨Ar,cr,rfl,_⟩:=id I;refine Wg U5 λb5=>Wa (j:=0) U12<|V5 [2,5] e U<|G.freeze 0 U λ_ _ J=>V3 λR e=>V1 (bkT J 5) U8<|Wc (CE _ o.m_ kd val _ _ _ a b c F.m_ H.m_ I.m_ S qb T (Su V (by show n<=_;omega)) (Su W (by show d.length<=_;omega)) (Su X (by show n<=_;omega)) Y) U7 fl_<|C6 1 [2,5,16] e U<|G.cd (λK=>?_) λK=>?_
 .exact absurd K dc_
 refine V3 λR e=>V1 (bkT J 5) U8<|Wa (j:=0) U12<|C6 1 [2,3] e U<|Wd (Xf ag U5 ?_);exact⟨U,_,U,E.mono mup⟩
inductive FeaO (p:Lp.Sys) (D:Mem):Value->Prop where
|yes (pt:Nat->Rat) (vp:Value):p.At pt->Lp.CmD p.n 20 pt->(∀j,QB 20 (pt j))->Sl D 1 vp (((List.range p.n).map pt).map aM)->FeaO p D (.tuple #[vp,.agg ⟨[.slice none 0 0]⟩,.bool true,.int .i64 0])
|no (du:Nat->Rat) (vd:Value):Lp.InfR p 20 du->Sl D 1 vd (((List.range p.m).map du).map aM)->FeaO p D (.tuple #[.slice none 0 0,.agg ⟨[vd]⟩,.bool false,.int .i64 0])
theorem Kg {D:Mem}{c:Int}{g a b f:Value}(h:SolO p cc D (.agg ⟨[i_ c,g,a,b,f]⟩)) :
  (c=2/\∃du,Lp.InfR p 20 du/\Sl D 1 b (((List.range p.m).map du).map aM))∨(c≠2/\∃pt,p.At pt/\Lp.CmD p.n 20 pt/\(∀j,QB 20 (pt j))/\Sl D 1 a (((List.range p.n).map pt).map aM)):=by
 cases h with
|opt w pt du a b d h1 h2=>exact .inr ⟨by decide,pt,d.row,d.cd,d.qp,h1⟩
|inf du b i h1=>exact .inl ⟨rfl,du,i,h1⟩
|unb pt ra a f e h1 h2=>exact .inr ⟨by decide,pt,e.row,e.cd,e.qp,h1⟩
theorem gw (n:Nat):List.replicate n (ae [48])=((List.replicate n (0:Rat)).map aM).flatten:=by
 rw[US,Sa];induction n with
|zero=>rfl
|succ n a=>rw[Tm,Tm,Tu,a];rfl
theorem Ha (n j:Nat):(List.replicate n (0:Rat)).getD j 0=0:=by
 rw[ak,TC];split <;> rfl
theorem oZ (C:Mem)(t:Tabs C)(n:Nat)(g k:Value)(f:List (List Rat × Rat))(i:List Rat)(o:RowsT C g (f.map dp))(v:Sl C 1 k (i.map aM))(w:RowsQ n f)(A:∀x∈i,QB 22 x)(B:∀r∈f,(∀x∈r.1,QB 22 x)/\QB 22 r.2)(N:n<=60)(O:i.length=n)(Q:Lp.Lim (bN n f) (λ_=>0) 20) :
  Pur cx.P 43 [.agg ⟨[i_ n,g,k]⟩] C λu D=>FeaO (bN n f) D u:=by
 have ah:=mx_
 have hm:=w.m;have S:DZ n (f.map dp) (i.map qtx)=0:=od N om_ w.l B O A;have T:∀D:Mem,C.le D->Gives cx.P 73 [.agg ⟨[i_ n,g,k]⟩] D (i_ 0):=λD y=>by
  have h:=mg D (t.mono y) n g k (f.map dp) (i.map qtx) (o.mono y) (by rw[<- fx];exact v.mono y) (λr o=>by
   obtain⟨r,V,rfl⟩:=Sn.1 o;obtain⟨h1,h2⟩:=B r V;refine⟨λs hs=>?_,Su (aV h2 dc_) dc_⟩;obtain⟨x,z,rfl⟩:=Sn.1 hs;exact Su (aV (h1 x z) dc_) dc_) (λs hs=>by
   obtain⟨x,z,rfl⟩:=Sn.1 hs;exact Su (aV (A x z) dc_) dc_)
  rw[S]at h;exact h
 have W:Lp.Lim (bN n f) (λj=>(List.replicate n (0:Rat)).getD j 0) 20:=by
  have e:(λj=>(List.replicate n (0:Rat)).getD j 0)=λ_=>(0:Rat):=funext (Ha n);rw[e];exact Q
 refine V7 func43 32 U3 λw0=>V3 λR d=>Wi U6 λb1=>V2 U6<|Wg U5 λb3=>C6 2 [1,3] d U<|V3 λR d=>V9 af U9<|Wb (T _ mup) U7<|C6 1 [1,3,6] d U<|U0 2 [1,3,6,11] U<|G.cd (λE=>?_) λE=>?_
 .exact absurd E dc_
 refine Wt [(2,3)] U λR d=>V2 U6<|V9 af U9<|D.call (gX _ n om_) U (.inr dc_) U6 (Sp _) fl_ (λai _ aj _ X=>?_);obtain⟨bz,rfl,rfl⟩:=X;rw[gw];refine V2 U6<|Wa (j:=2) U12<|V5 [1,3] d U<|G.freezeArr 1 ((List.replicate n (0:Rat)).map aM) U2 bK al λ_ _ Y=>G.freeze 0 U λ_ _ Z=>V3 λR d=>V1 (bkT Z 3) U8<|Ws (CA _ t.m_ n g _ f (List.replicate n 0) o.m_ Y.m_ w om_ al W) U7 fl_ (λak _ _ F=>?_);obtain⟨kd,val,vp,vd,vr,a,b,c,rfl,H,I,J,qa,qb,qc,aa,ab,ac,hv⟩:=xj F;have K:=Kg F;obtain⟨Ap,cp,rfl,_⟩:=id H;obtain⟨Ad,cd,rfl,_⟩:=id I;obtain⟨Ar,cr,rfl,_⟩:=id J;refine Wg U5 λb7=>Wa (j:=0) U12<|V5 [3,7] d U<|G.freeze 0 U λ_ _ p=>V3 λR d=>V1 (bkT p 5) U8<|Wc (CE _ t.m_ kd val _ _ _ a b c H.m_ I.m_ J.m_ qa qb qc (Su aa (by show n<=_;omega)) (Su ab (by show f.length<=_;omega)) (Su ac (by show n<=_;omega)) hv) U7 fl_<|C6 1 [3,7,22] d U<|G.cd (λL=>?_) λL=>?_
 .exact absurd L dc_
 refine U1 1 U λR d=>V1 (bkT p 1) U8<|C6 1 [3,7,26] d U<|G.cd (λq=>?_) λq=>?_
 .refine Wn [0,1,2,3,4,5] [(1,0)] U kr_ λR M d=>V2 U6<|WF (λ_=>((bkT p 1).mono M)) U9<|V2 U6<|Wa (j:=0) U12<|V4 2 U<|V5 [2,3,4,5] d U ?_;clear d M R;refine Wd (Xx ag U7 ?_);refine⟨U, ?_⟩;rcases K with⟨_,du,hi,h1⟩|⟨h,_⟩
  .exact .no du _ hi h1.m_
  exact absurd (by simpa using q) h
 refine U1 1 U λR d=>V1 (bkT p 1) U8<|Wm ([.slice none 0 0]) U8<|V2 U6<|Wa (j:=0) U12<|C6 2 [2,3,4,5] d U<|Wd (Xx ag U7 ?_);refine⟨U, ?_⟩;rcases K with⟨h,_⟩|⟨_,pt,v,ad,ae,h1⟩
 .rw[h]at q;cases q
 exact .yes pt _ v ad ae h1.m_
end Go.Proofs.YtfjcldheldflbaaGreatDoor
