import Derived.Test.YtfjcldheldflbaaGreatDoorG12
set_option maxHeartbeats 4000000
namespace Go.Proofs.YtfjcldheldflbaaGreatDoor
open Go.Proofs.Tryz
open Go Go.Jog
set_option maxRecDepth 100000
variable {F N b:Nat}{cc:Nat->Rat}{i j k:Nat}{l:Lp.Line}{m n:Nat}{o:Int}{ob:List Rat}{p:Lp.Sys}{q:Nat->Prop}{r:Nat}{rows:List RowQ}{rs:List (List Rat × Rat)}{s:Nat}{t:Lp.Tab}{u:Value}{vs:List Nat}{w wB:Value}{wF:Nat->Value}{wL wO wW wy:Value}
theorem ye {y:Lp.Line}(a:s<l.f.length):lf l.f y.f s (l.f.getD s 0) l.f.length=(Lp.putL l s y).f/\l.c+l.f.getD s 0*y.c=(Lp.putL l s y).c:=by
 have h:=Ht (c:=l.c) (bc:=y.c) (bf:=y.f) a;exact⟨(congrArg Lp.Line.f h).symm,(congrArg Lp.Line.c h).symm⟩
theorem KV (C:Mem)(k:Tabs C)(b m e i n s:Nat)(w d:Value)(a:List (Rat × Value))(l y:Lp.Line)(o:a.length=m)(p:a[i]?=some (l.c,w))(g:l.f.length=n)(q:y.f.length=n)(r:s<n)(h:QB 50 l.c/\∀x∈l.f,QB 50 x)(j:QB 50 y.c/\∀x∈y.f,QB 50 x) :
  Jog.Fn cx.P 262 [.pointer (some ⟨b,i*2,none⟩),i_ s,.agg ⟨[ag (qtx y.c),d]⟩] C [.arr d 32 1 n (y.f.map aP).flatten,.arr (s_ b m e) 228 2 m (a.map bG).flatten,.arr w 32 1 n (l.f.map aP).flatten]
   λu _ t=>u=.tuple #[]/\t=[.arr d 32 1 n (y.f.map aP).flatten,.arr (s_ b m e) 228 2 m ((a.set i ((Lp.putL l s y).c,w)).map bG).flatten,.arr w 32 1 n ((Lp.putL l s y).f.map aP).flatten]:=by
 let⟨h1,h2⟩:=ye (l:=l) (y:=y) (s:=s) om_;rw[<- h1,<- h2,g];exact KW C k b m e i n s w d a l.f y.f l.c y.c o p g q r h.1 h.2 j.1 j.2
theorem KT (C:Mem)(m:Tabs C)(a n s:Nat)(d e g h w b:Value)(l y:Lp.Line)(i:l.f.length=n)(o:y.f.length=n)(p:s<n)(j:QB 50 l.c/\∀x∈l.f,QB 50 x)(k:QB 50 y.c/\∀x∈y.f,QB 50 x) :
  Jog.Fn cx.P 262 [.pointer (some ⟨a,4,none⟩),i_ s,.agg ⟨[ag (qtx y.c),b]⟩] C [.arr b 32 1 n (y.f.map aP).flatten,.obj a (.cells ⟨[d,e,g,h,ag (qtx l.c),w]⟩ 231 (0,0)),.arr w 32 1 n (l.f.map aP).flatten]
   λu _ q=>u=.tuple #[]/\q=[.arr b 32 1 n (y.f.map aP).flatten,.obj a (.cells ⟨[d,e,g,h,ag (qtx (Lp.putL l s y).c),w]⟩ 231 (0,0)),.arr w 32 1 n ((Lp.putL l s y).f.map aP).flatten]:=by
 let⟨h1,h2⟩:=ye (l:=l) (y:=y) (s:=s) om_;rw[<- h1,<- h2,i];exact KU C m a n s d e g h w b l.f y.f l.c y.c i o p j.1 j.2 k.1 k.2
def byF (l:Lp.Line)(s j:Nat):List Rat:=(List.range l.f.length).map λq=>if q<j then (Lp.byL l s).g q else 0
theorem lI :(byF l s j).length=l.f.length:=by simp[byF]
theorem Ef {q:Nat}(h:q<l.f.length):(byF l s j)[q]?=some (if q<j then (Lp.byL l s).g q else 0):=by
 unfold byF;rw[SI,Tl h];rfl
theorem Ms :List.replicate l.f.length 0=byF l s 0:=by
 refine List.ext_getElem? λv=>?_;by_cases a:v<l.f.length
 .rw[Ef a,T4,aL a,aF (Nat.not_lt_zero _)]
 rw[SR ap,SR (by rw[lI];omega)]
theorem PR (h:j<l.f.length):(byF l s j).set j (-(if j=s then -1 else l.g j) / l.g s)=byF l s (j+1):=by
 refine List.ext_getElem? λq=>?_;rw[List.getElem?_set,lI];by_cases a:q<l.f.length
 .rw[Ef a,Ef a];by_cases e:j=q
  .subst e;rw[aL rfl,aL a,aL (Nat.lt_succ_self j),Lp.byL_g a];congr 1;split <;> grind
  rw[aF e];by_cases h1:q<j
  .rw[aL h1,aL om_]
  rw[aF h1,aF om_]
 rw[aF om_,SR (by rw[lI];omega),SR (by rw[lI];omega)]
theorem wm :(Lp.byL l s).f.length=l.f.length:=by simp[Lp.byL]
theorem PS :byF l s l.f.length=(Lp.byL l s).f:=by
 refine List.ext_getElem? λq=>?_;by_cases a:q<l.f.length
 .rw[Ef a,aL a];unfold Lp.Line.g;rw[al,aj (by rw[wm];exact a)];rfl
 rw[SR (by rw[lI];omega),SR (by rw[wm];omega)]
def stL (t:Lp.Tab)(r s i q:Nat):Lp.Line:=if q<i/\q≠r then Lp.putL (t.line q) s (Lp.byL (t.line r) s) else t.line q
def stV (t:Lp.Tab)(wF:Nat->Value)(r s i:Nat):List (Rat × Value):=(List.range t.basic.length).map λq=>((stL t r s i q).c,wF q)
def stE (t:Lp.Tab)(wF:Nat->Value)(r s i q:Nat):Ent:=.arr (wF q) 32 1 t.others.length ((stL t r s i q).f.map aP).flatten
theorem jq :(stV t wF r s i).length=t.basic.length:=by simp[stV]
theorem CE {q:Nat}(h:q<t.basic.length):(stV t wF r s i)[q]?=some ((stL t r s i q).c,wF q):=by
 unfold stV;rw[SI,Tl h];rfl
theorem uH {q:Nat}:stL t r s 0 q=t.line q:=aF λh=>Nat.not_lt_zero _ h.1
theorem qo {q:Nat}(h:q≠i):stL t r s (i+1) q=stL t r s i q:=by
 unfold stL;by_cases h1:q<i/\q≠r
 .rw[aL h1,aL ⟨by omega,h1.2⟩]
 rw[aF h1,aF λh2=>h1 ⟨by omega,h2.2⟩]
theorem pd (h:i≠r):stL t r s i i=t.line i/\stL t r s (i+1) i=Lp.putL (t.line i) s (Lp.byL (t.line r) s) :=
 ⟨aF λh2=>Nat.lt_irrefl _ h2.1,aL ⟨Nat.lt_succ_self _,h⟩⟩
theorem CF {q:Nat}:stL t r s (r+1) q=stL t r s r q:=by
 by_cases h:q=r
 .subst h;unfold stL;rw[aF λh=>h.2 rfl,aF λh=>h.2 rfl]
 exact qo h
theorem N5 (b:i<t.basic.length)(h:i≠r):(stV t wF r s i).set i ((Lp.putL (t.line i) s (Lp.byL (t.line r) s)).c,wF i)=stV t wF r s (i+1):=by
 refine List.ext_getElem? λq=>?_;rw[List.getElem?_set,jq];by_cases a:q<t.basic.length
 .rw[CE a,CE a];by_cases e:i=q
  .subst e;rw[aL rfl,aL a,(pd h).2]
  rw[aF e,qo (Ne.symm e)]
 rw[aF om_,SR (by rw[jq];omega),SR (by rw[jq];omega)]
theorem Km :stV t wF r s (r+1)=stV t wF r s r:=by
 unfold stV;simp only[CF]
theorem Kl :stV t wF r s 0=cW t wF:=by
 unfold stV cW;simp only[uH]
theorem N6 (d:t.Ok N)(f:r<t.basic.length):(stV t wF r s t.basic.length).set r ((Lp.byL (t.line r) s).c,wy)=cW (t.pivot r s) λq=>if q=r then wy else wF q:=by
 have b:(t.pivot r s).basic.length=t.basic.length:=TB;refine List.ext_getElem? λq=>?_;rw[List.getElem?_set,jq];by_cases a:q<t.basic.length
 .rw[CE a,pg (by rw[b];exact a),Lp.pivot_line (by rw[d.ll];exact a)];by_cases e:r=q
  .subst e;rw[aL rfl,aL a,aL rfl,aL rfl]
  rw[aF e,aF (Ne.symm e),aF (Ne.symm e)];unfold stL;rw[aL ⟨a,Ne.symm e⟩]
 rw[aF om_,SR (by rw[jq];omega),SR (by rw[fP,b];omega)]
theorem range_nd :(List.range m).Nodup:=List.nodup_range
theorem N7 (b:t.Ok N)(c:r<t.basic.length) :
  (.arr wy 32 1 t.others.length ((Lp.byL (t.line r) s).f.map aP).flatten::((List.range t.basic.length).erase r).map (stE t wF r s t.basic.length)).Perm (((List.range (t.pivot r s).basic.length).map (MZ (t.pivot r s) λq=>if q=r then wy else wF q)).map Lent.ent):=by
 have g:(t.pivot r s).basic.length=t.basic.length:=TB;have d:(t.pivot r s).others.length=t.others.length:=TB;rw[g,TH];have h0:(Lent.ent ∘ MZ (t.pivot r s) λq=>if q=r then wy else wF q) r=.arr wy 32 1 t.others.length ((Lp.byL (t.line r) s).f.map aP).flatten:=by
  show Ent.arr (if r=r then wy else wF r) _ 1 (t.pivot r s).others.length _=_;rw[aL rfl,d,Lp.pivot_line (by rw[b.ll];exact c),aL rfl]
 have h1:=mC range_nd (S7.2 c) (Lent.ent ∘ MZ (t.pivot r s) λq=>if q=r then wy else wF q) (stE t wF r s t.basic.length) (λq h a=>by
  have e:=S7.1 h;show Ent.arr (if q=r then wy else wF q) _ 1 (t.pivot r s).others.length _=_;rw[aF a,d,Lp.pivot_line (by rw[b.ll];exact e),aF a];unfold stE stL;rw[aL ⟨e,a⟩])
 rw[h0]at h1;exact h1.symm
theorem N3 (a:t.Ok N)(d:r<t.basic.length) :
  (([.obj b (.cells ⟨[i_ n,wB,wL,wO,ag (qtx (Lp.putL t.worth s (Lp.byL (t.line r) s)).c),wW]⟩ 231 (0,0)),.arr wB 3 1 t.basic.length ((t.basic.set r (t.oth s)).map aX).flatten,.arr wL 228 2 t.basic.length (((stV t wF r s t.basic.length).set r ((Lp.byL (t.line r) s).c,wy)).map bG).flatten,.arr wO 3 1 t.others.length ((t.others.set s (t.bas r)).map aX).flatten,.arr wW 32 1 t.others.length (((Lp.putL t.worth s (Lp.byL (t.line r) s)).f).map aP).flatten]:List Ent)++(.arr wy 32 1 t.others.length ((Lp.byL (t.line r) s).f.map aP).flatten::((List.range t.basic.length).erase r).map (stE t wF r s t.basic.length))).Perm ((fq b n (t.pivot r s) wB wL wO wW λq=>if q=r then wy else wF q).map Lent.ent):=by
 have e:(t.pivot r s).basic.length=t.basic.length:=TB;have g:(t.pivot r s).others.length=t.others.length:=TB;rw[N6 a d];refine(List.Perm.append_left _ (N7 a d)).trans (List.Perm.of_eq ?_);unfold fq;simp only[Tq,Lent.ent,e,g];rfl
theorem AE {l:List Nat}(h:i<l.length):l[i]?=some (l.getD i 0):=by
 rw[al,aj h];rfl
theorem bg (r s:Nat):(fq b n t wB wL wO wW wF).map Lent.ent=[.obj b (.cells ⟨[i_ n,wB,wL,wO,ag (qtx t.worth.c),wW]⟩ 231 (0,0)),.arr wB 3 1 t.basic.length ((t.basic).map aX).flatten,.arr wL 228 2 t.basic.length ((cW t wF).map bG).flatten,.arr wO 3 1 t.others.length ((t.others).map aX).flatten,.arr wW 32 1 t.others.length ((t.worth.f).map aP).flatten]++(List.range t.basic.length).map (stE t wF r s 0):=by
 have e:stE t wF r s 0=Lent.ent ∘ MZ t wF:=funext λq=>by
  unfold stE;rw[uH];rfl
 rw[e,<- TH];rfl
def LineQ (k:Nat)(l:Lp.Line):Prop:=QB k l.c/\∀x∈l.f,QB k x
theorem LineQ.le {k m:Nat}{l:Lp.Line}(h:LineQ k l)(a:k<=m):LineQ m l:=⟨h.1.le a,λx b=>(h.2 x b).le a⟩
theorem LineQ.g {k:Nat}{l:Lp.Line}(h:LineQ k l){j:Nat}(a:j<l.f.length):QB k (l.g j):=by
 unfold Lp.Line.g;rw[al,aj a];exact h.2 _ (TC _)
theorem SD (h:LineQ 20 l)(c:s<l.f.length)(a:l.g s≠0):LineQ 40 (Lp.byL l s):=by
 have b:=h.g c;refine⟨jP (eQ h.1) b a,λx d=>?_⟩;obtain⟨q,e,rfl⟩:=SL.1 d;have i:=S7.1 e;split
 .exact jP ⟨by decide,by decide⟩ b a
 exact jP (eQ (h.g i)) b a
abbrev zTb (n o p k l w x:Nat)(t:Lp.Tab)(d:Value):Obj:=.cells ⟨[i_ n,s_ o t.basic.length p,s_ k t.basic.length l,s_ w t.others.length x,ag (qtx t.worth.c),d]⟩ 231 (0,0)
theorem ve (C:Mem)(Q:Tabs C)(b n r s N:Nat)(t:Lp.Tab)(S T V d:Value)(a:Nat->Value)(W:t.Ok N)(hm:t.basic.length<=1000000)(aN:t.others.length<=1000000)(B:r<t.basic.length)(X:s<t.others.length)(hk:(t.line r).g s≠0)(hq:∀i,i<t.basic.length->LineQ 20 (t.line i))(ay:LineQ 20 t.worth) :
  Jog.Fn cx.P 205 [p_ b,i_ r,i_ s] C ((fq b n t S T V d a).map Lent.ent) λu _ A=>u=.tuple #[]/\∃az,A=(fq b n (t.pivot r s) S T V d az).map Lent.ent:=by
 have aO:=mx_
 have Y:=iE W B;have aA:=W.wl;have J:=hq r B;have ad:s<(t.line r).f.length:=by omega
 have ap:=J.g ad;have aq:=SD J ad hk;refine Wy func205 123 U3 λw0=>?_;rw[bg r s];refine WK (L':=[.obj b (.cells ⟨[i_ n,S,T,V,ag (qtx t.worth.c),d]⟩ 231 (0,0)),.arr S 3 1 t.basic.length ((t.basic).map aX).flatten,.arr T 228 2 t.basic.length ((cW t a).map bG).flatten,.arr V 3 1 t.others.length ((t.others).map aX).flatten,.arr d 32 1 t.others.length ((t.worth.f).map aP).flatten]++(List.range t.basic.length).map (stE t a r s 0)) U<|X8 1 U om_ (λo p K=>?_);subst K;refine X8 2 U om_ (λk l K=>?_);subst K;refine X8 3 U om_ (λw x K=>?_);subst K;refine G.perm (L':=[.arr (a r) 32 1 t.others.length ((t.line r).f.map aP).flatten,.obj b (zTb n o p k l w x t d),.arr (s_ o t.basic.length p) 3 1 t.basic.length ((t.basic).map aX).flatten,.arr (s_ k t.basic.length l) 228 2 t.basic.length ((cW t a).map bG).flatten,.arr (s_ w t.others.length x) 3 1 t.others.length ((t.others).map aX).flatten,.arr d 32 1 t.others.length ((t.worth.f).map aP).flatten]++((List.range t.basic.length).erase r).map (stE t a r s 0)) (by
  have h1:=mC range_nd (S7.2 B) (stE t a r s 0) (stE t a r s 0) (λ_ _ _=>rfl);refine(List.Perm.append_left _ h1).trans ?_;have e:stE t a r s 0 r=.arr (a r) 32 1 t.others.length ((t.line r).f.map aP).flatten:=by unfold stE;rw[uH]
  rw[e]
  (exact pkL [5] rfl)) ?_
 refine G.freezeArr 0 ((t.line r).f.map aP) U U bN (by simp[Y]) (λ_ _ L=>?_);let⟨Z,c3,au,aB,aQ,_⟩:=id L;rw[au]at L;simp only[ar]at L aB;have aC:(cW t a)[r]?=some ((t.line r).c,.slice Z (t.line r).f.length c3):=by rw[pg B,au,ar]
 refine U1 3 U λR y=>WA ah U9<|Wt U6<|WV (r*2) U10 w_ U2<|Xa (v:=.agg ⟨[ag (qtx (t.line r).c),.slice Z (t.line r).f.length c3]⟩) ae U6 (λ_=>(by rw[pm aC];rfl)) U2<|WI U5 λb6=>WB (j:=0) U12<|Ww [0,1,2,6] y U<|G.freeze 0 U λ_ _ ai=>U1 1 U λR y=>Ws (bkT ai 1) U8<|Wt U6<|WG L.m_ U10 om_ (dT ad) fl_ λaR aD=>Ws aD U8<|C6 1 [0,1,2,6,7] y U<|WQ [(5,3)] U λR y=>Wv 3 U<|WA ah U9<|Wt U6<|D.call (gY _ t.others.length om_) U (.inr dc_) U6 (SQ _) fl_ (λaS _ aU _ aE=>?_);obtain⟨z,rfl,rfl⟩:=aE;refine WL [ag [],s_ z t.others.length t.others.length] U8<|WI U5 λE=>WB (j:=0) U12<|Ww [0,1,2,6,7,8] y U<|U1 1 U λR y=>Ws (bkT ai 1) U8<|WC (fu _ (t.line r).c (SV (aV J.1 dc_) dc_)) U7 fl_<|Wt U6<|WC (iv _ Q.m_ (-(t.line r).c) ((t.line r).g s) 20 dc_ dc_ (eQ J.1) ap hk) U7 fl_<|Wv 4 U<|WB (j:=0) U12<|Ww [0,1,2,6,7,8] y U<|U1 1 U λR y=>Ws (bkT ai 1) U8<|C6 2 [0,1,2,7,8,41,42,43] y U<|WK (L':=[.obj E (.cells ⟨[ag (qtx (Lp.byL (t.line r) s).c),s_ z t.others.length t.others.length]⟩ 228 (0,0)),.arr (s_ z t.others.length t.others.length) 32 1 t.others.length ((byF (t.line r) s 0).map aP).flatten,.obj b (zTb n o p k l w x t d),.arr (s_ o t.basic.length p) 3 1 t.basic.length ((t.basic).map aX).flatten,.arr (s_ k t.basic.length l) 228 2 t.basic.length ((cW t a).map bG).flatten,.arr (s_ w t.others.length x) 3 1 t.others.length ((t.others).map aX).flatten,.arr d 32 1 t.others.length ((t.worth.f).map aP).flatten]++((List.range t.basic.length).erase r).map (stE t a r s 0)) (by rw[<- Ms,Y,<- uR];rfl)<|G.loop (λfr C' A M=>∃(j:Nat),(j<=(t.line r).f.length)/\fr=[(0,[],p_ b),(1,[],i_ r),(2,[],i_ s),(7,[],ag (qtx ((t.line r).g s))),(8,[],p_ E),(41,[],.slice Z (t.line r).f.length c3),(42,[],i_ (t.line r).f.length),(43,[],i_ j)]/\A=[.obj E (.cells ⟨[ag (qtx (Lp.byL (t.line r) s).c),s_ z t.others.length t.others.length]⟩ 228 (0,0)),.arr (s_ z t.others.length t.others.length) 32 1 t.others.length ((byF (t.line r) s j).map aP).flatten,.obj b (zTb n o p k l w x t d),.arr (s_ o t.basic.length p) 3 1 t.basic.length ((t.basic).map aX).flatten,.arr (s_ k t.basic.length l) 228 2 t.basic.length ((cW t a).map bG).flatten,.arr (s_ w t.others.length x) 3 1 t.others.length ((t.others).map aX).flatten,.arr d 32 1 t.others.length ((t.worth.f).map aP).flatten]++((List.range t.basic.length).erase r).map (stE t a r s 0)/\M=(t.line r).f.length-j) (hn_ [0,1,2,7,8,41,42,43] U) ⟨0,SM _,U,U,U⟩ (λfr aW aY m _ O=>?_);obtain⟨j,hj,rfl,rfl,rfl⟩:=O;refine U0 1 [0,1,2,7,8,41,42,43,44] U<|G.cd (λaj=>?_) λaj=>?_
 .have I:j<(t.line r).f.length:=by
   have:=aT aj;omega
  have av:QB 20 (if j=s then (-1:Rat) else (t.line r).g j):=by
   split
   .exact⟨by decide,by decide⟩
   exact J.g I
  refine U1 1 U λR y=>WG L.m_ U10 om_ (show((t.line r).f.map aP)[j]?=some (aP ((t.line r).g j)) from dT I) fl_ λaZ aG=>Ws aG U8<|C6 2 [0,1,2,7,8,9,10,41,42,43] y U<|U0 3 [0,1,2,7,8,9,10,41,42,43,50] U<|G.cut (λfr C' A M=>(True)/\fr=[(0,[],p_ b),(1,[],i_ r),(2,[],i_ s),(7,[],ag (qtx ((t.line r).g s))),(8,[],p_ E),(9,[],i_ j),(10,[],ag (qtx (if j=s then (-1:Rat) else (t.line r).g j))),(41,[],.slice Z (t.line r).f.length c3),(42,[],i_ (t.line r).f.length),(43,[],i_ j)]/\A=[.obj E (.cells ⟨[ag (qtx (Lp.byL (t.line r) s).c),s_ z t.others.length t.others.length]⟩ 228 (0,0)),.arr (s_ z t.others.length t.others.length) 32 1 t.others.length ((byF (t.line r) s j).map aP).flatten,.obj b (zTb n o p k l w x t d),.arr (s_ o t.basic.length p) 3 1 t.basic.length ((t.basic).map aX).flatten,.arr (s_ k t.basic.length l) 228 2 t.basic.length ((cW t a).map bG).flatten,.arr (s_ w t.others.length x) 3 1 t.others.length ((t.others).map aX).flatten,.arr d 32 1 t.others.length ((t.worth.f).map aP).flatten]++((List.range t.basic.length).erase r).map (stE t a r s 0)) ?_ (λfr _ a0 M _ O=>?_)
  .refine G.cd (λak=>?_) λak=>?_
   .have al:j=s:=by
     have aa:((j:Int) == (s:Int))=true:=ak;have:=eq_of_beq aa;omega
    refine U0 1 [0,1,2,7,8,9,10,41,42,43] U<|WJ 0 l_ (hn_ [0,1,2,7,8,9,10,41,42,43] U) ⟨trivial,by rw[aL al,fe];rfl,U⟩
   have al:¬ j=s:=by
    have aa:((j:Int) == (s:Int))=false:=ak;intro h;rw[h]at aa;simp at aa
   refine WJ 0 l_ (hn_ [0,1,2,7,8,9,10,41,42,43] U) ⟨trivial,by rw[aF al],U⟩
  obtain⟨a1,rfl,rfl⟩:=O;refine WM [0,1,2,3,4,5,6,7,8,9,10,11] [(4,1),(6,1)] U kr_ λR hB y=>Wt U6<|WA ah U9<|Wv 2 U<|WN (λ_=>(fu _ (if j=s then (-1:Rat) else (t.line r).g j) (SV (aV av dc_) dc_))) U9<|Wt U6<|WN (λ_=>(iv _ Q.m_ (-(if j=s then (-1:Rat) else (t.line r).g j)) ((t.line r).g s) 20 dc_ dc_ (eQ av) ap hk)) U9<|Wv 3 U<|WV (j*1) U10 w_ U2<|WZ (j:=1) U11 (by show j*1+1<=_;rw[bK bH,lI];omega)<|Ww [0,1,2,7,8,41,42,43] y U<|Wu λR y=>Wz _ U U6<|C6 1 [0,1,2,7,8,41,42,43] y U<|G.perm (L':=[.obj E (.cells ⟨[ag (qtx (Lp.byL (t.line r) s).c),s_ z t.others.length t.others.length]⟩ 228 (0,0)),.arr (s_ z t.others.length t.others.length) 32 1 t.others.length ((byF (t.line r) s (j+1)).map aP).flatten,.obj b (zTb n o p k l w x t d),.arr (s_ o t.basic.length p) 3 1 t.basic.length ((t.basic).map aX).flatten,.arr (s_ k t.basic.length l) 228 2 t.basic.length ((cW t a).map bG).flatten,.arr (s_ w t.others.length x) 3 1 t.others.length ((t.others).map aX).flatten,.arr d 32 1 t.others.length ((t.worth.f).map aP).flatten]++((List.range t.basic.length).erase r).map (stE t a r s 0)) (by rw[<- PR I,<- bE bH _ (by rw[lI];exact I)];exact List.Perm.swap _ _ _)<|WF (m':=(t.line r).f.length-(j+1)) om_ mup (hn_ [0,1,2,7,8,41,42,43] U) ⟨j+1,om_,U,U,U⟩
 have I:j=(t.line r).f.length:=by
  have:=SJ aj;omega
 rw[I,PS];refine G.freeze 0 U λ_ _ am=>U1 3 U λR y=>WA af U9<|C6 2 [0,1,2,8,67,68] y U<|G.perm (L':=[.arr (s_ z t.others.length t.others.length) 32 1 t.others.length (((Lp.byL (t.line r) s).f).map aP).flatten,.arr (s_ k t.basic.length l) 228 2 t.basic.length ((stV t a r s 0).map bG).flatten,.obj b (zTb n o p k l w x t d),.arr (s_ o t.basic.length p) 3 1 t.basic.length ((t.basic).map aX).flatten,.arr (s_ w t.others.length x) 3 1 t.others.length ((t.others).map aX).flatten,.arr d 32 1 t.others.length ((t.worth.f).map aP).flatten]++((List.range t.basic.length).erase r).map (stE t a r s 0)) (by rw[Kl];(exact pkL [0,2] U))<|G.loop (λfr C' A M=>∃(i:Nat),(i<=t.basic.length)/\fr=[(0,[],p_ b),(1,[],i_ r),(2,[],i_ s),(8,[],p_ E),(67,[],i_ t.basic.length),(68,[],i_ i)]/\A=[.arr (s_ z t.others.length t.others.length) 32 1 t.others.length (((Lp.byL (t.line r) s).f).map aP).flatten,.arr (s_ k t.basic.length l) 228 2 t.basic.length ((stV t a r s i).map bG).flatten,.obj b (zTb n o p k l w x t d),.arr (s_ o t.basic.length p) 3 1 t.basic.length ((t.basic).map aX).flatten,.arr (s_ w t.others.length x) 3 1 t.others.length ((t.others).map aX).flatten,.arr d 32 1 t.others.length ((t.worth.f).map aP).flatten]++((List.range t.basic.length).erase r).map (stE t a r s i)/\M=t.basic.length-i) (hn_ [0,1,2,8,67,68] U) ⟨0,SM _,U,U,U⟩ (λfr a2 a3 m _ O=>?_);obtain⟨i,hi,rfl,rfl,rfl⟩:=O;refine U0 1 [0,1,2,8,67,68,69] U<|G.cd (λan=>?_) λan=>?_
 .have F:i<t.basic.length:=by
   have:=aT an;omega
  refine U0 2 [0,1,2,8,11,67,68] U<|U0 3 [0,1,2,8,11,67,68,73] U<|G.cd (λao=>?_) λao=>?_
  .have H:i≠r:=by
    have ab:(!((i:Int) == (r:Int)))=true:=ao;intro h;rw[h]at ab;simp at ab
   have aw:i∈(List.range t.basic.length).erase r:=(List.Nodup.mem_erase_iff range_nd).2 ⟨H,S7.2 F⟩;have ax:=mC (range_nd.erase r) aw (stE t a r s i) (stE t a r s (i+1)) (λq _ aH=>by unfold stE;rw[qo aH]);have he:stE t a r s i i=.arr (a i) 32 1 t.others.length ((t.line i).f.map aP).flatten:=by unfold stE;rw[(pd H).1]
   have aI:stE t a r s (i+1) i=.arr (a i) 32 1 t.others.length ((Lp.putL (t.line i) s (Lp.byL (t.line r) s)).f.map aP).flatten:=by unfold stE;rw[(pd H).2]
   have aJ:(stV t a r s i)[i]?=some ((t.line i).c,a i):=by rw[CE F,(pd H).1]
   rw[he]at ax;refine G.perm (L':=[.arr (s_ z t.others.length t.others.length) 32 1 t.others.length (((Lp.byL (t.line r) s).f).map aP).flatten,.arr (s_ k t.basic.length l) 228 2 t.basic.length ((stV t a r s i).map bG).flatten,.arr (a i) 32 1 t.others.length ((t.line i).f.map aP).flatten,.obj b (zTb n o p k l w x t d),.arr (s_ o t.basic.length p) 3 1 t.basic.length ((t.basic).map aX).flatten,.arr (s_ w t.others.length x) 3 1 t.others.length ((t.others).map aX).flatten,.arr d 32 1 t.others.length ((t.worth.f).map aP).flatten]++(((List.range t.basic.length).erase r).erase i).map (stE t a r s (i+1))) ((List.Perm.append_left _ ax).trans (pkL [0,0,4] U))<|WM [0,1,2,3,4,5,6,7,8] [(8,3)] U kr_ λR hB y=>Wv 3 U<|WA ac U9<|Wt U6<|WV (i*2) U10 w_ U2<|Wt U6<|Ws (bkT am 2) U8<|D.call (KV _ Q.m_ k t.basic.length l i t.others.length s (a i) (s_ z t.others.length t.others.length) (stV t a r s i) (t.line i) (Lp.byL (t.line r) s) jq aJ (iE W F) (by rw[wm];exact Y) X ((hq i F).le dc_) (aq.le dc_)) U (.inr dc_) U6 (pkL [0,0,0] U) fl_ λa4 _ a5 _ aK=>Ww [0,1,2,8,67,68] y U ?_;obtain⟨-,rfl⟩:=aK;refine G.perm (L':=[.arr (s_ z t.others.length t.others.length) 32 1 t.others.length (((Lp.byL (t.line r) s).f).map aP).flatten,.arr (s_ k t.basic.length l) 228 2 t.basic.length ((stV t a r s (i+1)).map bG).flatten,.obj b (zTb n o p k l w x t d),.arr (s_ o t.basic.length p) 3 1 t.basic.length ((t.basic).map aX).flatten,.arr (s_ w t.others.length x) 3 1 t.others.length ((t.others).map aX).flatten,.arr d 32 1 t.others.length ((t.worth.f).map aP).flatten]++((List.range t.basic.length).erase r).map (stE t a r s (i+1))) (by
    rw[<- N5 F H];refine List.Perm.trans (l₂:=[.arr (s_ z t.others.length t.others.length) 32 1 t.others.length (((Lp.byL (t.line r) s).f).map aP).flatten,.arr (s_ k t.basic.length l) 228 2 t.basic.length (((stV t a r s i).set i ((Lp.putL (t.line i) s (Lp.byL (t.line r) s)).c,a i)).map bG).flatten,.obj b (zTb n o p k l w x t d),.arr (s_ o t.basic.length p) 3 1 t.basic.length ((t.basic).map aX).flatten,.arr (s_ w t.others.length x) 3 1 t.others.length ((t.others).map aX).flatten,.arr d 32 1 t.others.length ((t.worth.f).map aP).flatten]++(.arr (a i) 32 1 t.others.length ((Lp.putL (t.line i) s (Lp.byL (t.line r) s)).f.map aP).flatten::(((List.range t.basic.length).erase r).erase i).map (stE t a r s (i+1)))) (pkL [0,0,1,1,1,1] U) (List.Perm.append_left _ ?_);rw[<- aI];exact(mC (range_nd.erase r) aw (stE t a r s (i+1)) (stE t a r s (i+1)) (λ_ _ _=>rfl)).symm) ?_
   refine Wu λR y=>Wz _ U U6<|C6 1 [0,1,2,8,67,68] y U<|WF (m':=t.basic.length-(i+1)) om_ mup (hn_ [0,1,2,8,67,68] U) ⟨i+1,om_,U,U,U⟩
  have H:i=r:=by
   have ab:(!((i:Int) == (r:Int)))=false:=ao;simp at ab;omega
  refine WK (L':=[.arr (s_ z t.others.length t.others.length) 32 1 t.others.length (((Lp.byL (t.line r) s).f).map aP).flatten,.arr (s_ k t.basic.length l) 228 2 t.basic.length ((stV t a r s (i+1)).map bG).flatten,.obj b (zTb n o p k l w x t d),.arr (s_ o t.basic.length p) 3 1 t.basic.length ((t.basic).map aX).flatten,.arr (s_ w t.others.length x) 3 1 t.others.length ((t.others).map aX).flatten,.arr d 32 1 t.others.length ((t.worth.f).map aP).flatten]++((List.range t.basic.length).erase r).map (stE t a r s (i+1))) (by
   have e:stE t a r s (r+1)=stE t a r s r:=funext λq=>by unfold stE;rw[CF]
   rw[H,Km,e]) ?_
  refine Wu λR y=>Wz _ U U6<|C6 1 [0,1,2,8,67,68] y U<|WF (m':=t.basic.length-(i+1)) om_ mup (hn_ [0,1,2,8,67,68] U) ⟨i+1,om_,U,U,U⟩
 have F:i=t.basic.length:=by
  have:=SJ an;omega
 rw[F];refine G.perm (L':=[.arr (s_ z t.others.length t.others.length) 32 1 t.others.length (((Lp.byL (t.line r) s).f).map aP).flatten,.obj b (zTb n o p k l w x t d),.arr d 32 1 t.others.length ((t.worth.f).map aP).flatten,.arr (s_ k t.basic.length l) 228 2 t.basic.length ((stV t a r s t.basic.length).map bG).flatten,.arr (s_ o t.basic.length p) 3 1 t.basic.length ((t.basic).map aX).flatten,.arr (s_ w t.others.length x) 3 1 t.others.length ((t.others).map aX).flatten]++((List.range t.basic.length).erase r).map (stE t a r s t.basic.length)) (pkL [0,1,3,0,0,0] U)<|WM [0,1,2,3,4,5] [(5,3)] U kr_ λR hB y=>Wv 4 U<|Ws (bkT am 2) U8<|D.call (KT _ Q.m_ b t.others.length s (i_ n) (s_ o t.basic.length p) (s_ k t.basic.length l) (s_ w t.others.length x) d (s_ z t.others.length t.others.length) t.worth (Lp.byL (t.line r) s) aA (by rw[wm];exact Y) X (ay.le dc_) (aq.le dc_)) U (.inr dc_) U6 (pkL [0,0,0] U) fl_ λa6 _ a7 _ aM=>Ww [0,1,2,8] y U ?_;obtain⟨-,rfl⟩:=aM;refine G.perm (L':=[.obj b (.cells ⟨[i_ n,s_ o t.basic.length p,s_ k t.basic.length l,s_ w t.others.length x,ag (qtx (Lp.putL t.worth s (Lp.byL (t.line r) s)).c),d]⟩ 231 (0,0)),.arr (s_ o t.basic.length p) 3 1 t.basic.length ((t.basic).map aX).flatten,.arr (s_ k t.basic.length l) 228 2 t.basic.length ((stV t a r s t.basic.length).map bG).flatten,.arr (s_ w t.others.length x) 3 1 t.others.length ((t.others).map aX).flatten,.arr d 32 1 t.others.length (((Lp.putL t.worth s (Lp.byL (t.line r) s)).f).map aP).flatten,.arr (s_ z t.others.length t.others.length) 32 1 t.others.length (((Lp.byL (t.line r) s).f).map aP).flatten]++((List.range t.basic.length).erase r).map (stE t a r s t.basic.length)) (pkL [1,3,2,2,1] U)<|WM [0,1,2,3,4,5,6,7] [] U kr_ λR hB y=>Wv 3 U<|WA ah U9<|Wt U6<|Ws (bkT am 2) U8<|WV (r*2) U10 w_ U2<|WZ (j:=2) U11 (by show r*2+2<=_;rw[bK ii,jq];omega)<|Ww [0,1,2] y U<|WK (L':=[.arr (s_ k t.basic.length l) 228 2 t.basic.length (((stV t a r s t.basic.length).set r ((Lp.byL (t.line r) s).c,s_ z t.others.length t.others.length)).map bG).flatten,.obj b (.cells ⟨[i_ n,s_ o t.basic.length p,s_ k t.basic.length l,s_ w t.others.length x,ag (qtx (Lp.putL t.worth s (Lp.byL (t.line r) s)).c),d]⟩ 231 (0,0)),.arr (s_ o t.basic.length p) 3 1 t.basic.length ((t.basic).map aX).flatten,.arr (s_ w t.others.length x) 3 1 t.others.length ((t.others).map aX).flatten,.arr d 32 1 t.others.length (((Lp.putL t.worth s (Lp.byL (t.line r) s)).f).map aP).flatten,.arr (s_ z t.others.length t.others.length) 32 1 t.others.length (((Lp.byL (t.line r) s).f).map aP).flatten]++((List.range t.basic.length).erase r).map (stE t a r s t.basic.length)) (by rw[<- bE ii _ (by rw[jq];exact B)];rfl)<|WM [0,1,2,3,4,5,6,7,8,9,10,11,12,13,14,15,16,17,18,19,20,21,22,23,24,25,26,27] [] U kr_ λR hB y=>Wv 3 U<|WA af U9<|Wv 4 U<|WA af U9<|Wv 4 U<|WA af U9<|Wt U6<|WV (s*1) U10 w_ U2<|Xa ac U6 (λ_=>(by rw[da eC (show t.others[s]?=some (t.oth s) from AE X)];rfl)) U2<|Wv 3 U<|WA af U9<|Wt U6<|WV (r*1) U10 w_ U2<|Xa ae U6 (λ_=>(by rw[da eC (show t.basic[r]?=some (t.bas r) from AE B)];rfl)) U2<|WV (r*1) U10 w_ U2<|WZ (j:=2) U11 (by show r*1+1<=_;rw[bK eC];omega)<|WV (s*1) U10 w_ U2<|WZ (j:=3) U11 (by show s*1+1<=_;rw[bK eC];omega)<|Xp [] trivial (y _ _ _ U ?_);refine G.perm (L':=(fq b n (t.pivot r s) (s_ o t.basic.length p) (s_ k t.basic.length l) (s_ w t.others.length x) d (λq=>if q=r then (s_ z t.others.length t.others.length) else a q)).map Lent.ent) (by
  refine List.Perm.trans ?_ (N3 W B);rw[<- bE eC _ B,<- bE eC _ X]
  (exact pkL [3,1,1,0,0,0] rfl)) ?_
 exact XD U<|⟨U,_,U⟩
theorem vo (h:Lp.Inv p cc t)(b:Lp.Lim p cc 20)(a:i<t.basic.length):LineQ 20 (t.line i):=by
 refine⟨h.con b a,λx c=>?_⟩;obtain⟨s,hs,rfl⟩:=List.mem_iff_getElem.1 c;have d:=iE h.tab.ok a;have h1:=h.fac b a (s:=s) om_;unfold Lp.Line.g at h1;rw[al,aj hs]at h1;exact h1
theorem pQ (h:Lp.Inv p cc t)(a:Lp.Lim p cc 20):LineQ 20 t.worth:=by
 refine⟨h.wcon a,λx b=>?_⟩;obtain⟨s,hs,rfl⟩:=List.mem_iff_getElem.1 b;have c:=h.tab.ok.wl;have h1:=h.wfac a (s:=s) om_;unfold Lp.Line.g at h1;rw[al,aj hs]at h1;exact h1
theorem LineQ.g0 (h:LineQ k l)(a:k<=m)(b:1<=m)(j:Nat):QB m (l.g j):=by
 unfold Lp.Line.g;rw[al];by_cases c:j<l.f.length
 .rw[aj c];exact(h.2 _ (TC _)).le a
 rw[SR om_];exact Lp.qb_zero b
theorem nu {c:Nat->Prop}(h:Lp.LeastR vs q n o)(e:∀i,i<n->(q i ↔ c i)):Lp.LeastR vs c n o:=by
 cases h with
|none h=>exact .none λi a b=>h i a ((e i a).2 b)
|some i a b hm=>exact .some i a ((e i a).1 b) λj d f=>hm j d ((e j d).2 f)
theorem iG (h:Lp.LeastR vs q n o)(a:¬ o<0):∃i:Nat,o=i/\i<n/\q i/\∀j,j<n->q j->vs.getD i 0<=vs.getD j 0:=by
 cases h with
|none h=>exact absurd dc_ a
|some i b c hm=>exact⟨i,rfl,b,c,hm⟩
theorem iH (h:Lp.LeastR vs q n o)(a:o<0):∀i,i<n->¬ q i:=by
 cases h with
|none h=>exact h
|some i b c hm=>omega
section
variable {C:Mem} {a a2 b n N:Nat} {r:Int} {t:Lp.Tab} {wB wL wO wW:Value} {wF:Nat->Value}
theorem Cv (c:t.Ok N):∀x∈.obj a2 [i_ r] 3::fq b n t wB wL wO wW wF,x.wf:=λx a=>by
 rcases SY.1 a with rfl|a
 .trivial
 exact gE c x a
theorem Ip (d:t.Ok N)(j:C a=some (.cells ⟨[p_ b]⟩ 221 (0,0)))(k:∀i,i<t.basic.length->LineQ 20 (t.line i)) :
  Jog.Fn cx.P 206 [wB,.func (.func 207) #[] #[p_ a]] C ((.obj a2 [i_ r] 3::fq b n t wB wL wO wW wF).map Lent.ent)
   λu _ e=>(∃o:Int,u=i_ o/\Lp.LeastR t.basic (λi=>n<=t.bas i/\(t.line i).c<0) t.basic.length o)/\e=(.obj a2 [i_ r] 3::fq b n t wB wL wO wW wF).map Lent.ent:=by
 refine XB kr_ _ (Cv d) λl m hs=>?_;have f:=fk d λx p=>hs x (SX _ p);refine(pn l wB t.basic 207 [p_ a] (λi=>decide (n<=t.bas i) && decide ((t.line i).c<0)) f.B kr_ λi g D h =>
  LU D a b n i N t wB wL wO wW _ (f.mono h) d ((m.trans h) _ _ j) g ((k i g).1.le dc_)).mono ?_
 rintro u D e _ ⟨h1,o,rfl,h2⟩;exact⟨h1,o,U,nu h2 λi _=>by simp⟩
theorem Io {r:Nat}(c:t.Ok N)(h:C a=some (.cells ⟨[p_ b]⟩ 221 (0,0)))(j:r<t.basic.length)(k:LineQ 20 (t.line r)) :
  Jog.Fn cx.P 206 [wO,.func (.func 208) #[] #[p_ a,p_ a2]] C ((.obj a2 [i_ r] 3::fq b n t wB wL wO wW wF).map Lent.ent)
   λu _ e=>(∃o:Int,u=i_ o/\Lp.LeastR t.others (λi=>n<=t.oth i/\0<(t.line r).g i) t.others.length o)/\e=(.obj a2 [i_ r] 3::fq b n t wB wL wO wW wF).map Lent.ent:=by
 refine XB kr_ _ (Cv c) λl m hs=>?_;have f:=fk c λx p=>hs x (SX _ p);have h2:=hs _ (SK ..);refine(pn l wO t.others 208 [p_ a,p_ a2] (λi=>decide (n<=t.oth i) && decide (0<(t.line r).g i)) f.O kr_ λi q D d =>
  LS D a a2 b n i r N t wB wL wO wW _ (f.mono d) c ((m.trans d) _ _ h) (d _ _ h2) j q (k.g0 dc_ dc_ i)).mono ?_
 rintro u D e _ ⟨h1,o,rfl,h2⟩;exact⟨h1,o,U,nu h2 λi _=>by simp⟩
end
inductive FeasO (p:Lp.Sys) (t:Lp.Tab):Value->Prop where
|yes:t.Feas p.n->FeasO p t (.tuple #[.int .i64 0,.bool true])
|no (r:Nat):r<t.basic.length->p.n<=t.bas r->(t.line r).c<0->(∀s,s<t.others.length->p.n<=t.oth s->(t.line r).g s<=0)->FeasO p t (.tuple #[.int .i64 r,.bool false])
abbrev zah:=λv a=>Ent.obj v (.cells ⟨[i_ a]⟩ 3 (0,0))
theorem Bb (C:Mem)(hT:Tabs C)(p:Lp.Sys)(A:Nat->Rat)(b:Nat)(d:Lp.Tab)(e h k l:Value)(B:Nat->Value)(q:Lp.Inv p A d)(a:Lp.Rel p.n d p.n)(T:Lp.Lim p A 20)(hm:p.m<=1000000)(hn:p.n<=1000000) :
  Jog.Fn cx.P 138 [p_ b] C ((fq b p.n d e h k l B).map Lent.ent) λu _ w=>∃t wF,Lp.Inv p A t/\Lp.Rel p.n t p.n/\FeasO p t u/\w=(fq b p.n t e h k l wF).map Lent.ent:=by
 have an:=mx_
 refine Wy func138 26 U3 λw0=>?_;refine Wu λR a=>?_;refine WH U6 (λb1=>?_);refine WI U5 (λv=>?_);refine C6 1 [1,2] a U ?_;clear a R;refine G.freeze 1 U (λ_ _ x=>?_);refine WK (L':=[zah v 0,.obj b (.cells ⟨[i_ p.n,e,h,k,ag (qtx d.worth.c),l]⟩ 231 (0,0)),.arr e 3 1 d.basic.length ((d.basic).map aX).flatten,.arr h 228 2 d.basic.length ((cW d B).map bG).flatten,.arr k 3 1 d.others.length ((d.others).map aX).flatten,.arr l 32 1 d.others.length ((d.worth.f).map aP).flatten]++(List.range d.basic.length).map (stE d B 0 0 0)) (by rw[bg 0 0];rfl) ?_;refine G.loop (λfr C' w μ=>∃(t:Lp.Tab)(wF:Nat->Value)(o:Int)(E:Nat),(Lp.Inv p A t/\Lp.Rel p.n t p.n/\∀K,Lp.Reach (Lp.FeasP p.n) t K->K<=E)/\fr=[(1,[],p_ b1),(2,[],p_ v)]/\w=[zah v o,.obj b (.cells ⟨[i_ p.n,e,h,k,ag (qtx t.worth.c),l]⟩ 231 (0,0)),.arr e 3 1 t.basic.length ((t.basic).map aX).flatten,.arr h 228 2 t.basic.length ((cW t wF).map bG).flatten,.arr k 3 1 t.others.length ((t.others).map aX).flatten,.arr l 32 1 t.others.length ((t.worth.f).map aP).flatten]++(List.range t.basic.length).map (stE t wF 0 0 0)/\μ=E) (hn_ [1,2] U) ⟨d,B,0,2 ^ (p.n+p.m),⟨q,a,λK F=>Lp.feas_len q.tab.ok F⟩,U,U,U⟩ (λfr ao ap m _ q=>?_);obtain⟨t,wF,o,E,⟨q,a,F⟩,rfl,rfl,rfl⟩:=q;have ok:=q.tab.ok;have aa:t.basic.length<=1000000:=by rw[q.tab.lb];exact hm
 have ab:t.others.length<=1000000:=by rw[q.tab.lo];exact hn
 have H:∀i,i<t.basic.length->LineQ 20 (t.line i):=λi y=>vo q T y;refine WQ [(5,3)] U (λR a=>?_);refine Ws (bkT x 1) U8 ?_;refine Wv 2 U ?_;refine WA af U9 ?_;refine Wt U6 ?_;refine D.call (Ip ok (Mem.get x mup) H) U (.inr dc_) U6 (show List.Perm _ (((.obj v [i_ o] 3::fq b p.n t e h k l wF).map Lent.ent)++[]) from List.Perm.of_eq (by rw[S8,Tq,bg 0 0];rfl)) fl_ (λaq _ ar _ ac=>?_);obtain⟨⟨I,rfl,V⟩,rfl⟩:=ac;refine WB (j:=0) U12 ?_;refine Ww [1,2] a U ?_;clear a R;refine WK (L':=[zah v I,.obj b (.cells ⟨[i_ p.n,e,h,k,ag (qtx t.worth.c),l]⟩ 231 (0,0)),.arr e 3 1 t.basic.length ((t.basic).map aX).flatten,.arr h 228 2 t.basic.length ((cW t wF).map bG).flatten,.arr k 3 1 t.others.length ((t.others).map aX).flatten,.arr l 32 1 t.others.length ((t.worth.f).map aP).flatten]++(List.range t.basic.length).map (stE t wF 0 0 0)) (by rw[S8,Tq,bg 0 0];rfl) ?_;refine Wu λR a=>?_;refine WA ah U9 ?_;refine C6 1 [1,2,12] a U ?_;clear a R;refine G.cd (λJ=>?_) λJ=>?_
 .have L:I<0:=aT J;have M:=iH V L;refine Wu λR a=>?_;refine WB (j:=0) U12 ?_;refine C6 1 [2,3] a U ?_;clear a R;refine WE (Yr 0 U U U U U U ?_);exact⟨t,wF,q,a,.yes (λi y z=>by have:=M i y;grind),by rw[bg 0 0];rfl⟩
 have L:¬ I<0:=SJ J;obtain⟨r,rfl,hr,⟨N,W⟩,ad⟩:=iG V L;refine WQ [(5,3)] U (λR a=>?_);refine Ws (bkT x 1) U8 ?_;refine Wv 2 U ?_;refine WA af U9 ?_;refine Wt U6 ?_;refine D.call (Io ok (Mem.get x mup) hr (H r hr)) U (.inr dc_) U6 (show List.Perm _ (((.obj v [i_ (r:Nat)] 3::fq b p.n t e h k l wF).map Lent.ent)++[]) from List.Perm.of_eq (by rw[S8,Tq,bg 0 0];rfl)) fl_ (λau _ av _ ae=>?_);refine C6 1 [1,2,4] a U ?_;clear a R;obtain⟨⟨X,rfl,Y⟩,rfl⟩:=ae;refine WK (L':=[.obj v (.cells ⟨[i_ (r:Nat)]⟩ 3 (0,0)),.obj b (.cells ⟨[i_ p.n,e,h,k,ag (qtx t.worth.c),l]⟩ 231 (0,0)),.arr e 3 1 t.basic.length ((t.basic).map aX).flatten,.arr h 228 2 t.basic.length ((cW t wF).map bG).flatten,.arr k 3 1 t.others.length ((t.others).map aX).flatten,.arr l 32 1 t.others.length ((t.worth.f).map aP).flatten]++(List.range t.basic.length).map (stE t wF 0 0 0)) (by rw[S8,Tq,bg 0 0];rfl) ?_;refine U0 2 [1,2,4,20] U ?_;refine G.cd (λO=>?_) λO=>?_
 .have Q:X<0:=aT O;have M:=iH Y Q;refine Wu λR a=>?_;refine WA ah U9 ?_;refine WB (j:=0) U12 ?_;refine C6 1 [2,3] a U ?_;clear a R;refine WE (Yr 0 U U U U U U ?_);exact⟨t,wF,q,a,.no r hr N W (λs hs z=>by have:=M s hs;grind),by rw[bg 0 0];rfl⟩
 have Q:¬ X<0:=SJ O;obtain⟨s,rfl,hs,⟨ai,aj⟩,ak⟩:=iG Y Q;have hP:Lp.FeasP p.n t r s:=⟨hr,hs,N,ai,W,λi y z hc=>ad i y ⟨z,hc⟩,aj,λj hj z hg=>ak j hj ⟨z,hg⟩⟩;have Z:(t.line r).g s≠0:=by grind
 let⟨aw,al⟩:=Lp.Reach.fall hP F;refine WQ [(3,3)] U (λR a=>?_);refine Ws (bkT x 1) U8 ?_;refine WA ah U9 ?_;refine Wt U6 ?_;refine D.call (ve _ hT.m_ b p.n r s (p.n+p.m) t e h k l wF ok aa ab hr hs Z H (pQ q T)) U (.inr dc_) U6 (by rw[bg 0 0];exact(List.perm_append_singleton _ _).symm) fl_ (λax _ ay _ am=>?_);refine Ww [1,2] a U ?_;clear a R;obtain⟨-,S,rfl⟩:=am;refine G.perm (L':=[.obj v (.cells ⟨[i_ (r:Nat)]⟩ 3 (0,0)),.obj b (.cells ⟨[i_ p.n,e,h,k,ag (qtx (t.pivot r s).worth.c),l]⟩ 231 (0,0)),.arr e 3 1 (t.pivot r s).basic.length (((t.pivot r s).basic).map aX).flatten,.arr h 228 2 (t.pivot r s).basic.length ((cW (t.pivot r s) S).map bG).flatten,.arr k 3 1 (t.pivot r s).others.length (((t.pivot r s).others).map aX).flatten,.arr l 32 1 (t.pivot r s).others.length (((t.pivot r s).worth.f).map aP).flatten]++(List.range (t.pivot r s).basic.length).map (stE (t.pivot r s) S 0 0 0)) (by rw[bg 0 0];exact List.perm_append_singleton _ _) ?_;refine WF (m':=m-1) om_ mup (hn_ [1,2] U) ⟨t.pivot r s,S,(r:Int),m-1,⟨q.pivot hr hs Z,Lp.rel_pivot ok a hr hs N,al⟩,U,U,U⟩
section
variable {C:Mem} {a b n N:Nat} {t:Lp.Tab} {wB wL wO wW:Value} {wF:Nat->Value}
theorem Im (c:t.Ok N)(h:C a=some (.cells ⟨[p_ b]⟩ 221 (0,0))) :
  Jog.Fn cx.P 206 [wO,.func (.func 209) #[] #[p_ a]] C ((fq b n t wB wL wO wW wF).map Lent.ent)
   λu _ d=>(∃o:Int,u=i_ o/\Lp.LeastR t.others (λi=>¬ n<=t.oth i/\¬ t.worth.g i=0) t.others.length o)/\d=(fq b n t wB wL wO wW wF).map Lent.ent:=by
 refine XB kr_ _ (gE c) λj k hs=>?_;have e:=fk c hs;refine(pn j wO t.others 209 [p_ a] (λi=>!decide (n<=t.oth i) && !decide (t.worth.g i=0)) e.O kr_ λi l D f =>
  Pc D a b n i N t wB wL wO wW _ (e.mono f) c ((k.trans f) _ _ h) l).mono ?_
 rintro u D d _ ⟨h1,o,rfl,h2⟩;exact⟨h1,o,U,nu h2 λi _=>by simp⟩
theorem Il (c:t.Ok N)(h:C a=some (.cells ⟨[p_ b]⟩ 221 (0,0)))(j:LineQ 20 t.worth) :
  Jog.Fn cx.P 206 [wO,.func (.func 210) #[] #[p_ a]] C ((fq b n t wB wL wO wW wF).map Lent.ent)
   λu _ d=>(∃o:Int,u=i_ o/\Lp.LeastR t.others (λi=>n<=t.oth i/\t.worth.g i<0) t.others.length o)/\d=(fq b n t wB wL wO wW wF).map Lent.ent:=by
 refine XB kr_ _ (gE c) λk l hs=>?_;have e:=fk c hs;refine(pn k wO t.others 210 [p_ a] (λi=>decide (n<=t.oth i) && decide (t.worth.g i<0)) e.O kr_ λi m D f =>
  Pb D a b n i N t wB wL wO wW _ (e.mono f) c ((l.trans f) _ _ h) m (j.g0 dc_ dc_ i)).mono ?_
 rintro u D d _ ⟨h1,o,rfl,h2⟩;exact⟨h1,o,U,nu h2 λi _=>by simp⟩
theorem Ik {s:Nat}(f:Tabs C)(a:t.Ok N)(d:s<t.others.length)(e:∀i,i<t.basic.length->LineQ 20 (t.line i)) :
  Jog.Fn cx.P 211 [p_ b,i_ s] C ((fq b n t wB wL wO wW wF).map Lent.ent)
   λu _ h=>(∃o:Int,u=i_ o/\Lp.LeaveR n t s t.basic.length o)/\h=(fq b n t wB wL wO wW wF).map Lent.ent :=
 XB kr_ _ (gE a) λj k l=>Lv j (f.mono k) b n s N t wB wL wO wW _ (fk a l) a d λi c=>⟨(e i c).1,(e i c).g (by rw[iE a c];exact d)⟩
end
theorem AN (h:Lp.LeaveR F t s n o)(a:o<0):∀i,i<n->F<=t.bas i->0<=(t.line i).g s:=by
 cases h with
|none h=>exact h
|some r _ _ _ _=>omega
theorem AM (h:Lp.LeaveR F t s n o)(a:¬ o<0):∃r:Nat,o=r/\r<n/\F<=t.bas r/\(t.line r).g s<0 /\
  ∀i,i<n->F<=t.bas i->(t.line i).g s<0->(t.line r).c / -(t.line r).g s<(t.line i).c / -(t.line i).g s∨(t.line r).c / -(t.line r).g s=(t.line i).c / -(t.line i).g s/\t.bas r<=t.bas i:=by
 cases h with
|none h=>exact absurd dc_ a
|some r h1 h2 h3 h4=>exact⟨r,rfl,h1,h2,h3,h4⟩
inductive MinO (p:Lp.Sys) (t:Lp.Tab):Value->Prop where
|yes:Lp.RelW p.n t->(∀s,s<t.others.length->p.n<=t.oth s->0<=t.worth.g s)->MinO p t (.tuple #[.int .i64 0,.bool true])
|no (s:Nat):s<t.others.length->lL t s*t.worth.g s<0->(∀i,i<t.basic.length->p.n<=t.bas i->0<=lL t s*(t.line i).g s)->(p.n<=t.oth s->0<=lL t s)->MinO p t (.tuple #[.int .i64 s,.bool false])
theorem AG (C:Mem)(V:Tabs C)(p:Lp.Sys)(F:Nat->Rat)(b:Nat)(a:Lp.Tab)(e k l o:Value)(v:Nat->Value)(q:Lp.Inv p F a)(d:Lp.Rel p.n a p.n)(A:a.Feas p.n)(W:Lp.Lim p F 20)(hm:p.m<=1000000)(hn:p.n<=1000000) :
  Jog.Fn cx.P 140 [p_ b] C ((fq b p.n a e k l o v).map Lent.ent) λu _ w=>∃t wF,Lp.Inv p F t/\t.Feas p.n/\MinO p t u/\w=(fq b p.n t e k l o wF).map Lent.ent:=by
 have aw:=mx_
 refine Wy func140 32 U3 λw0=>?_;refine Wu λR d=>?_;refine WH U6 (λb1=>?_);refine C6 2 [1] d U ?_;clear d R;refine G.freeze 0 U (λ_ _ B=>?_);refine WK (L':=[.obj b (.cells ⟨[i_ p.n,e,k,l,ag (qtx a.worth.c),o]⟩ 231 (0,0)),.arr e 3 1 a.basic.length ((a.basic).map aX).flatten,.arr k 228 2 a.basic.length ((cW a v).map bG).flatten,.arr l 3 1 a.others.length ((a.others).map aX).flatten,.arr o 32 1 a.others.length ((a.worth.f).map aP).flatten]++(List.range a.basic.length).map (stE a v 0 0 0)) (by rw[bg 0 0];rfl) ?_;refine WQ [(5,3)] U (λR d=>?_);refine Ws (bkT B 1) U8 ?_;refine Wv 2 U ?_;refine WA ah U9 ?_;refine Wt U6 ?_;refine D.call (Im q.tab.ok (Mem.get B mup)) U (.inr dc_) U6 (show List.Perm _ (((fq b p.n a e k l o v).map Lent.ent)++[]) from List.Perm.of_eq (by rw[S8,bg 0 0])) fl_ (λax _ ay _ af=>?_);refine C6 1 [1,2] d U ?_;clear d R;obtain⟨⟨X,rfl,Y⟩,rfl⟩:=af;refine WK (L':=[.obj b (.cells ⟨[i_ p.n,e,k,l,ag (qtx a.worth.c),o]⟩ 231 (0,0)),.arr e 3 1 a.basic.length ((a.basic).map aX).flatten,.arr k 228 2 a.basic.length ((cW a v).map bG).flatten,.arr l 3 1 a.others.length ((a.others).map aX).flatten,.arr o 32 1 a.others.length ((a.worth.f).map aP).flatten]++(List.range a.basic.length).map (stE a v 0 0 0)) (by rw[S8,bg 0 0]) ?_;refine U0 2 [1,2,12] U ?_;refine G.cd (λH=>?_) λH=>?_
 .have y:¬ X<0:=by
   have:=aT H;omega
  obtain⟨s,rfl,hs,⟨I,Z⟩,_⟩:=iG Y y;have ai:lL a s*a.worth.g s<0:=by
   unfold lL;split <;> grind
  refine U0 3 [2,3] U ?_;refine WE (WS U3 ?_);refine⟨a,v,q,A,.no s hs ai (λi z x=>?_) (λh=>absurd h I),by rw[bg 0 0]⟩;rw[d s (by rw[<- q.tab.lo];exact hs) hs om_ i z x,Rat.mul_zero];exact Rat.le_refl
 have y:X<0:=by
  have:=SJ H;omega
 have E:=iH Y y;have aj:Lp.RelW p.n a:=λs hs az=>by
  have:=E s hs;have h2:¬ p.n<=a.oth s:=by omega
  grind
 refine G.loop (λfr C' w μ=>∃(t:Lp.Tab)(wF:Nat->Value)(J:Nat),(Lp.Inv p F t/\Lp.Rel p.n t p.n/\t.Feas p.n/\Lp.RelW p.n t/\∀K,Lp.Reach (Lp.MinP p.n) t K->K<=J)/\fr=[(1,[],p_ b1)]/\w=[.obj b (.cells ⟨[i_ p.n,e,k,l,ag (qtx t.worth.c),o]⟩ 231 (0,0)),.arr e 3 1 t.basic.length ((t.basic).map aX).flatten,.arr k 228 2 t.basic.length ((cW t wF).map bG).flatten,.arr l 3 1 t.others.length ((t.others).map aX).flatten,.arr o 32 1 t.others.length ((t.worth.f).map aP).flatten]++(List.range t.basic.length).map (stE t wF 0 0 0)/\μ=J) (hn_ [1] U) ⟨a,v,2 ^ (p.n+p.m),⟨q,d,A,aj,λK L=>Lp.min_len q.tab.ok L⟩,U,U,U⟩ (λfr aA aB m _ q=>?_);obtain⟨t,wF,J,⟨q,d,A,hW,L⟩,rfl,rfl,rfl⟩:=q;have ok:=q.tab.ok;have ak:t.basic.length<=1000000:=by rw[q.tab.lb];exact hm
 have al:t.others.length<=1000000:=by rw[q.tab.lo];exact hn
 have hq:∀i,i<t.basic.length->LineQ 20 (t.line i):=λi z=>vo q W z;have aa:=pQ q W;refine WQ [(5,3)] U (λR d=>?_);refine Ws (bkT B 1) U8 ?_;refine Wv 2 U ?_;refine WA ah U9 ?_;refine Wt U6 ?_;refine D.call (Il ok (Mem.get B mup) aa) U (.inr dc_) U6 (show List.Perm _ (((fq b p.n t e k l o wF).map Lent.ent)++[]) from List.Perm.of_eq (by rw[S8,bg 0 0])) fl_ (λaC _ aD _ am=>?_);refine C6 1 [1,2] d U ?_;clear d R;obtain⟨⟨o1,rfl,ab⟩,rfl⟩:=am;refine WK (L':=[.obj b (.cells ⟨[i_ p.n,e,k,l,ag (qtx t.worth.c),o]⟩ 231 (0,0)),.arr e 3 1 t.basic.length ((t.basic).map aX).flatten,.arr k 228 2 t.basic.length ((cW t wF).map bG).flatten,.arr l 3 1 t.others.length ((t.others).map aX).flatten,.arr o 32 1 t.others.length ((t.worth.f).map aP).flatten]++(List.range t.basic.length).map (stE t wF 0 0 0)) (by rw[S8,bg 0 0]) ?_;refine U0 2 [1,2,21] U ?_;refine G.cd (λM=>?_) λM=>?_
 .have y:o1<0:=aT M;have E:=iH ab y;refine U0 2 [2,3] U ?_;refine WE (WS U3 ?_);exact⟨t,wF,q,A,.yes hW (λs hs x=>by have:=E s hs;grind),by rw[bg 0 0]⟩
 have y:¬ o1<0:=SJ M;obtain⟨s,rfl,hs,⟨I,Z⟩,an⟩:=iG ab y;refine WQ [(2,3)] U (λR d=>?_);refine Ws (bkT B 1) U8 ?_;refine Wt U6 ?_;refine D.call (Ik V.m_ ok hs hq) U (.inr dc_) U6 (show List.Perm _ (((fq b p.n t e k l o wF).map Lent.ent)++[]) from List.Perm.of_eq (by rw[S8,bg 0 0])) fl_ (λaE _ aG _ ao=>?_);refine C6 1 [1,2,4] d U ?_;clear d R;obtain⟨⟨o2,rfl,ac⟩,rfl⟩:=ao;refine WK (L':=[.obj b (.cells ⟨[i_ p.n,e,k,l,ag (qtx t.worth.c),o]⟩ 231 (0,0)),.arr e 3 1 t.basic.length ((t.basic).map aX).flatten,.arr k 228 2 t.basic.length ((cW t wF).map bG).flatten,.arr l 3 1 t.others.length ((t.others).map aX).flatten,.arr o 32 1 t.others.length ((t.worth.f).map aP).flatten]++(List.range t.basic.length).map (stE t wF 0 0 0)) (by rw[S8,bg 0 0]) ?_;refine U0 2 [1,2,4,26] U ?_;refine G.cd (λN=>?_) λN=>?_
 .have O:o2<0:=aT N;have E:=AN ac O;have Q:lL t s=1:=by
   unfold lL;rw[aF (by grind)]
  refine U0 3 [2,3] U ?_;refine WE (WS U3 ?_);refine⟨t,wF,q,A,.no s hs (by rw[Q];grind) (λi z x=>?_) (λ_=>by rw[Q];decide),by rw[bg 0 0]⟩;rw[Q];have:=E i z x;grind
 have O:¬ o2<0:=SJ N;obtain⟨r,rfl,hr,S,ap,aq⟩:=AM ac O;have hP:Lp.MinP p.n t r s:=⟨hr,hs,S,I,Z,λj hj x hg=>an j hj ⟨x,hg⟩,ap,aq,A⟩;have ad:(t.line r).g s≠0:=by grind
 let⟨aH,ar⟩:=Lp.Reach.fall hP L;refine WQ [(3,3)] U (λR d=>?_);refine Ws (bkT B 1) U8 ?_;refine Wv 2 U ?_;refine D.call (ve _ V.m_ b p.n r s (p.n+p.m) t e k l o wF ok ak al hr hs ad hq aa) U (.inr dc_) U6 (show List.Perm _ (((fq b p.n t e k l o wF).map Lent.ent)++[]) from List.Perm.of_eq (by rw[S8,bg 0 0])) fl_ (λaI _ aJ _ au=>?_);refine Ww [1] d U ?_;clear d R;obtain⟨-,T,rfl⟩:=au;refine WK (L':=[.obj b (.cells ⟨[i_ p.n,e,k,l,ag (qtx (t.pivot r s).worth.c),o]⟩ 231 (0,0)),.arr e 3 1 (t.pivot r s).basic.length (((t.pivot r s).basic).map aX).flatten,.arr k 228 2 (t.pivot r s).basic.length ((cW (t.pivot r s) T).map bG).flatten,.arr l 3 1 (t.pivot r s).others.length (((t.pivot r s).others).map aX).flatten,.arr o 32 1 (t.pivot r s).others.length (((t.pivot r s).worth.f).map aP).flatten]++(List.range (t.pivot r s).basic.length).map (stE (t.pivot r s) T 0 0 0)) (by rw[S8,bg 0 0]) ?_;refine WF (m':=m-1) om_ mup (hn_ [1] U) ⟨t.pivot r s,T,m-1,⟨q.pivot hr hs ad,Lp.rel_pivot ok d hr hs S,Lp.min_feas ok hP,Lp.relw_pivot ok (λs' ae av i z x=>d s' (by rw[<- q.tab.lo];exact ae) ae av i z x) hW hr hs S,ar⟩,U,U,U⟩
theorem RH (C:Mem)(v:Value)(l:List Nat)(b:Sl C 1 v (l.map aX))(t:l.length<=1000000):Jog.Fn cx.P 200 [v] C [] λu _w e=>∃A n c,u=.slice A n c/\e=[.arr (.slice A n c) 3 1 l.length (l.map aX).flatten]:=by
 obtain⟨f,c0,rfl,m,x,y,o⟩:=id b;have z:=mx_
 simp only[ar]at b m⊢;refine Wy func200 8 U3 λw0=>U0 1 [0] U<|U1 1 U λR d=>XH U9<|Ww [0,4] d U<|G.cd (λh4=>?_) λh4=>?_
 .have p:f=none:=by
   cases f with
  |none=>rfl
  |some a=>cases h4
  have s:l=[]:=by
   cases l with
  |nil=>rfl
  |cons q r =>
    let⟨a,g,_⟩:=o 0 (aX q) rfl;rw[p]at g;cases g
  refine U0 1 [2] U<|G.nilArr 3 1<|WE (W6 U U ?_);exact⟨none,0,0,U,by rw[s];rfl⟩
 refine Wu λR d=>Xu [] U12 fl_ λB=>Wt U6<|W0 (j:=0) U11 b.m_ (by simp[aX,kS]) (by simp only[ar,Tp,maxLen];omega) (by simp only[ar,Tp];omega) fl_ λh i k=>C6 1 [2] d U<|WK (L':=[.arr (.slice h i k) 3 1 l.length (l.map aX).flatten]) am<|WE (W6 U U ?_);exact⟨h,i,k,U,U⟩
theorem OD (C:Mem)(b s:Nat)(q:Rat)(w:Value)(l:List Rat)(c:Sl C 1 w (l.map aP))(d:C b=some (.cells ⟨[i_ s]⟩ 3 (0,0)))(e:s<l.length) :
  Gives cx.P 202 [.agg ⟨[ag (qtx q),w]⟩,p_ b] C (.bool (!decide (l.getD s 0=0))):=by
 obtain⟨h,i,rfl,j,k,_⟩:=id c;have m:=mx_
 refine Wy func202 10 U3 λw0=>Wu λR a=>WH U6 λn=>C6 1 [1,2] a U<|G.freeze 0 U λ_ _ f=>U1 1 U λR a=>Ws (bkT f 1) U8<|Ws (bkT d 1) U8<|WG c.m_ U10 om_ (dT e) fl_ λo g=>Ws g U8<|C6 2 [3] a U<|Wx U2<|⟨?_,U⟩;show Value.bool _=Value.bool _;congr 1;show(!((⟨(qtx (l.getD s 0)).toArray⟩:ByteArray).data.toList == (⟨#[48]⟩:ByteArray).data.toList))=_;rw[eV]
theorem OC (C:Mem)(b s:Nat)(q:Rat)(w:Value)(l:List Rat)(c:Sl C 1 w (l.map aP))(d:C b=some (.cells ⟨[i_ s]⟩ 3 (0,0)))(e:s<l.length) :
  Gives cx.P 204 [.agg ⟨[ag (qtx q),w]⟩,p_ b] C (.bool (!decide (l.getD s 0=0))):=by
 obtain⟨h,i,rfl,j,k,_⟩:=id c;have m:=mx_
 refine Wy func204 10 U3 λw0=>Wu λR a=>WH U6 λn=>C6 1 [1,2] a U<|G.freeze 0 U λ_ _ f=>U1 1 U λR a=>Ws (bkT f 1) U8<|Ws (bkT d 1) U8<|WG c.m_ U10 om_ (dT e) fl_ λo g=>Ws g U8<|C6 2 [3] a U<|Wx U2<|⟨?_,U⟩;show Value.bool _=Value.bool _;congr 1;show(!((⟨(qtx (l.getD s 0)).toArray⟩:ByteArray).data.toList == (⟨#[48]⟩:ByteArray).data.toList))=_;rw[eV]
inductive FirstR (q:Nat->Prop) (n:Nat):Int->Prop where
|none:(∀i,i<n->¬ q i)->FirstR q n (-1)
|some (r:Nat):r<n->q r->(∀i,i<r->¬ q i)->FirstR q n r
theorem Ih (C:Mem)(v:Value)(a:List (Rat × Value))(g:Nat)(c:List Value)(q:Nat->Prop)[DecidablePred q](d:Sl C 2 v (a.map bG))(_E:Jog.Enters cx.P g=true)
  (p:∀i x,a[i]?=some x->∀D:Mem,C.le D->Gives cx.P g (.agg ⟨bG x⟩::c) D (.bool (decide (q i)))) :
  Pur cx.P 201 [v,.func (.func g) #[] ⟨c⟩] C λu _=>∃o:Int,u=i_ o/\FirstR q a.length o:=by
 obtain⟨r,c0,rfl,s,F,_⟩:=id d;have H:=mx_
 simp only[ar]at d s⊢;refine Wy func201 19 U3 λw0=>U0 1 [0,1] U<|U0 3 [0,1,7,8] U<|G.loop (λfr I t w=>∃(i:Nat),(i<=a.length/\∀j,j<i->¬ q j)/\fr=[(0,[],.slice r a.length c0),(1,[],.func (.func g) #[] ⟨c⟩),(7,[],i_ a.length),(8,[],i_ i)]/\t=[]/\w=a.length-i) (hn_ [0,1,7,8] U) ⟨0,⟨SM _,λj e=>absurd e (Nat.not_lt_zero _)⟩,U,U,U⟩ (λfr J K m _ y=>?_);obtain⟨i,⟨L,f⟩,rfl,rfl,rfl⟩:=y;refine U0 1 [0,1,7,8,9] U<|G.cd (λh=>?_) λh=>?_
 .have b:i<a.length:=by simpa using h
  let⟨x,n⟩:∃x,a[i]?=some x:=⟨a[i],aj b⟩;refine U0 2 [0,1,5,7,8] U<|U1 3 U λR k=>WG d.m_ U10 om_ (show(a.map bG)[i]?=some [ag (qtx x.1),x.2] from dL n) fl_ λM z=>Ws z U8<|WD (p i x n _ mup) U7<|Ww [0,1,5,7,8,16] k U<|G.cd (λl=>?_) λl=>?_
  .have A:q i:=aT l;exact U0 2 [4] U<|Wx U2<|⟨U,(i:Int),U,.some i b A f⟩
  have B:¬ q i:=SJ l;refine Wu λR k=>Wz _ U U6<|C6 1 [0,1,7,8] k U<|WF (m':=a.length-(i+1)) om_ mup (hn_ [0,1,7,8] U) ⟨i+1,⟨by omega,λj e=>by
   rcases Nat.lt_or_eq_of_le (Nat.le_of_lt_succ e) with h1|h1
   .exact f j h1
   rw[h1];exact B⟩,rfl,rfl,rfl⟩
 have b:i=a.length:=by
  have:¬ i<a.length:=by simpa using h
  omega
 exact U0 1 [4] U<|Wx U2<|⟨U, -1,U,.none (by rw[<- b];exact f)⟩
theorem GS (C:Mem)(b n v:Nat)(a:List Value)(c:C b=some (.cells ⟨i_ n::a⟩ 231 (0,0))) :
  Gives cx.P 203 [p_ b,i_ v] C (.bool (decide (n<=v))):=by
 refine Wy func203 11 U3 λw0=>U0 1 [0,1] U<|U1 4 U λR d=>Ws (bkT c 1) U8<|C6 2 [4] d U<|Wx U2<|⟨?_,U⟩;congr 1;rw[Tx];omega
theorem qw (C:Mem)(b n v:Nat)(a:List Value):Jog.Fn cx.P 203 [p_ b,i_ v] C [.obj b (.cells ⟨i_ n::a⟩ 231 (0,0))]
   λu _ d=>u=.bool (decide (n<=v))/\d=[.obj b (.cells ⟨i_ n::a⟩ 231 (0,0))]:=by
 have h:=XB (P:=cx.P) (f:=203) (args:=[p_ b,i_ v]) (C:=C) (q:=λu=>u=.bool (decide (n<=v))) kr_ [.obj b (i_ n::a) 231] (λx c=>by
  rcases SY.1 c with rfl|c
  .trivial
  cases c) λe g hs=>(GS e b n v a (hs _ (SK ..))).mono λu _ i _ ⟨h1,h2⟩=>⟨h2,h1⟩
 exact h
theorem qe {C:Mem}(h:∀x∈fq b n t wB wL wO wW wF,x.seen C):Sl C 1 wO (t.others.map aX)/\Sl C 2 wL ((cW t wF).map bG)/\∀i,i<t.basic.length->Sl C 1 (wF i) ((t.line i).f.map aP) :=
 ⟨h _ (SX _ (SX _ (SX _ (SK ..)))),h _ (SX _ (SX _ (SK ..))),λi a =>
  h (MZ t wF i) (SX _ (SX _ (SX _ (SX _ (SX _ (SL.2 ⟨i,S7.2 a,rfl⟩))))))⟩
section
variable {C:Mem} {a2 b n N s:Nat} {t:Lp.Tab} {wB wO wW:Value} {wF:Nat->Value}
theorem RG {d:Value}(i:t.Ok N)(j:t.others.length<=1000000):Jog.Fn cx.P 200 [wO] C ((fq b n t wB d wO wW wF).map Lent.ent)
   λu _ a=>∃A n2 c,u=.slice A n2 c/\a=.arr (.slice A n2 c) 3 1 t.others.length (t.others.map aX).flatten::(fq b n t wB d wO wW wF).map Lent.ent:=by
 have h:=XR (P:=cx.P) (f:=200) (args:=[wO]) (L:=[]) (C:=C) (post:=λu a=>∃A n2 c,u=.slice A n2 c/\a=[.arr (.slice A n2 c) 3 1 t.others.length (t.others.map aX).flatten]) kr_ (fq b n t wB d wO wW wF) (gE i) λg o hs=>RH g wO t.others (qe hs).1 j;rw[S8]at h;refine⟨h.1,λw k=>(h.2 w k).mono ?_⟩;rintro e w' ⟨v,g,a,l,m,p,rfl,A,n2,c,rfl,rfl⟩;exact⟨_,g,_,l,St.perm m (List.perm_append_singleton _ _),A,n2,c,U,U⟩
theorem Pk {a:Value}(h:t.Ok N)(l:C a2=some (.cells ⟨[i_ s]⟩ 3 (0,0)))(m:s<t.others.length) :
  Jog.Fn cx.P 201 [a,.func (.func 202) #[] #[p_ a2]] C ((fq b n t wB a wO wW wF).map Lent.ent)
   λu _ j=>(∃o:Int,u=i_ o/\FirstR (λi=>¬ (t.line i).g s=0) t.basic.length o)/\j=(fq b n t wB a wO wW wF).map Lent.ent:=by
 refine XB kr_ _ (gE h) λp q r=>?_;let⟨_,v,w⟩:=qe r;refine(Ih p a (cW t wF) 202 [p_ a2] (λi=>¬ (t.line i).g s=0) v kr_ λi x d D k=>?_).mono ?_
 .have e:i<t.basic.length:=by rw[<- fP (wF:=wF)];exact(R0.1 d).1
  rw[pg e]at d;cases d
  rw[decide_not];exact OD D a2 s (t.line i).c (wF i) (t.line i).f ((w i e).mono k) ((q.trans k) _ _ l) (by rw[iE h e];exact m)
 rintro u D j _ ⟨h1,o,rfl,h2⟩;rw[fP]at h2;exact⟨h1,o,U,h2⟩
theorem Pj {A:Option Addr}{c r M:Nat}(v:t.basic.length=M)(j:t.Ok N)(w:C a2=some (.cells ⟨[i_ s]⟩ 3 (0,0)))(y:s<t.others.length)(J:r<t.basic.length)(z:M<=c) :
  Jog.Fn cx.P 201 [.slice (if c=r+1 then A else A.map (·.add ((r+1)*2))) (M-(r+1)) (c-(r+1)),.func (.func 204) #[] #[p_ a2]] C ((fq b n t wB (.slice A M c) wO wW wF).map Lent.ent)
   λu _ k=>(∃o:Int,u=i_ o/\FirstR (λi=>¬ (t.line (r+1+i)).g s=0) (t.basic.length-(r+1)) o)/\k=(fq b n t wB (.slice A M c) wO wW wF).map Lent.ent:=by
 subst v;refine XB kr_ _ (gE j) λB E F=>?_;let⟨_,G,H⟩:=qe F;have p:=Sl.sub (l:=r+1) (h:=t.basic.length) (m:=c) G om_ (by rw[ar,fP];exact SH _) z (SH _);have e:((cW t wF).map bG).take t.basic.length=(cW t wF).map bG:=Td (by rw[ar,fP];exact SH _);rw[e,<- List.map_drop]at p;have I:((cW t wF).drop (r+1)).length=t.basic.length-(r+1):=by rw[UI,fP]
 refine(Ih B _ ((cW t wF).drop (r+1)) 204 [p_ a2] (λi=>¬ (t.line (r+1+i)).g s=0) p kr_ λi x a D q=>?_).mono ?_
 .have d:r+1+i<t.basic.length:=by have:=(R0.1 a).1;omega
  rw[List.getElem?_drop,pg d]at a;cases a
  rw[decide_not];exact OC D a2 s (t.line (r+1+i)).c (wF (r+1+i)) (t.line (r+1+i)).f ((H _ d).mono q) ((E.trans q) _ _ w) (by rw[iE j d];exact y)
 rintro u D k _ ⟨h1,o,rfl,h2⟩;rw[I]at h2;exact⟨h1,o,U,h2⟩
end
def SG (p:Lp.Sys)(t:Lp.Tab)(s:Nat)(o:Int):Prop:=(o=-1/\∀i,i<t.basic.length->p.n<=t.bas i->(t.line i).g s=0)∨∃r:Nat,o=r/\r<t.basic.length/\¬ (t.line r).g s=0/\∀i,i<r->p.n<=t.bas i->(t.line i).g s=0
theorem AZ (h:FirstR q n o)(a:o<0):∀i,i<n->¬ q i:=by
 cases h with
|none h=>exact h
|some r _ _ _=>omega
theorem AY (h:FirstR q n o)(a:¬ o<0):∃r:Nat,o=r/\r<n/\q r/\∀i,i<r->¬ q i:=by
 cases h with
|none h=>exact absurd dc_ a
|some r h1 h2 h3=>exact⟨r,rfl,h1,h2,h3⟩
theorem EH (h:FirstR (λi=>¬ (t.line i).g s=0) t.basic.length o):SG p t s o:=by
 cases h with
|none h=>exact .inl ⟨rfl,λi a _=>Decidable.not_not.1 (h i a)⟩
|some r h1 h2 h3=>exact .inr ⟨r,rfl,h1,h2,λi a _=>Decidable.not_not.1 (h3 i a)⟩
theorem EX (C:Mem)(hT:Tabs C)(p:Lp.Sys)(M:Nat->Rat)(b:Nat)(a:Lp.Tab)(N O e l:Value)(A:Nat->Value)(q:Lp.Inv p M a)(ho:a.others=List.range p.n)(hl:Lp.Lim p M 20)(hm:p.m<=1000000)(hn:p.n<=1000000) :
  Jog.Fn cx.P 137 [p_ b] C ((fq b p.n a N O e l A).map Lent.ent) λu _ z=>u=.tuple #[]/\∃t wF,Lp.Inv p M t/\Lp.Rel p.n t p.n/\z=(fq b p.n t N O e l wF).map Lent.ent:=by
 have aM:=mx_
 have au:a.others.length=p.n:=q.tab.lo;refine Wy func137 65 U3 λw0=>?_;refine WK (L':=[.obj b (.cells ⟨[i_ p.n,N,O,e,ag (qtx a.worth.c),l]⟩ 231 (0,0)),.arr N 3 1 a.basic.length ((a.basic).map aX).flatten,.arr O 228 2 a.basic.length ((cW a A).map bG).flatten,.arr e 3 1 a.others.length ((a.others).map aX).flatten,.arr l 32 1 a.others.length ((a.worth.f).map aP).flatten]++(List.range a.basic.length).map (stE a A 0 0 0)) (by rw[bg 0 0]) ?_;refine Yq 1 U (λw y I S av _=>?_);rw[q.tab.lb]at I S av;subst I;refine Yq 2 U (λAL x I _ T _=>?_);rw[q.tab.lb]at I T;subst I;refine WK (L':=[.obj b (.cells ⟨[i_ p.n,(.slice w p.m y),(.slice AL p.m x),e,ag (qtx a.worth.c),l]⟩ 231 (0,0)),.arr (.slice w p.m y) 3 1 a.basic.length ((a.basic).map aX).flatten,.arr (.slice AL p.m x) 228 2 a.basic.length ((cW a A).map bG).flatten,.arr e 3 1 a.others.length ((a.others).map aX).flatten,.arr l 32 1 a.others.length ((a.worth.f).map aP).flatten]++(List.range a.basic.length).map (stE a A 0 0 0)) U ?_;refine WQ [(4,3)] U (λR d=>?_);refine Wv 3 U ?_;refine WA ah U9 ?_;refine D.call (RG q.tab.ok om_) U (.inr dc_) U6 (show List.Perm _ (((fq b p.n a (.slice w p.m y) (.slice AL p.m x) e l A).map Lent.ent)++[]) from List.Perm.of_eq (by rw[S8,bg 0 0] <;> rfl)) fl_ (λaN aw aO _ ax=>?_);obtain⟨Ac,n2,c2,rfl,rfl⟩:=ax;refine C6 2 [0,10,11,12] d U ?_;clear d R;refine G.freezeArr 0 (a.others.map aX) U U vO am (λaw _ an=>?_);have ay:n2=p.n:=by
  let⟨A9,c9,az,_⟩:=id an;injection az with e1 e2 e3;rw[e2,ar,au]
 subst ay;refine WK (L':=[.obj b (.cells ⟨[i_ p.n,(.slice w p.m y),(.slice AL p.m x),e,ag (qtx a.worth.c),l]⟩ 231 (0,0)),.arr (.slice w p.m y) 3 1 a.basic.length ((a.basic).map aX).flatten,.arr (.slice AL p.m x) 228 2 a.basic.length ((cW a A).map bG).flatten,.arr e 3 1 a.others.length ((a.others).map aX).flatten,.arr l 32 1 a.others.length ((a.worth.f).map aP).flatten]++(List.range a.basic.length).map (stE a A 0 0 0)) (by rw[bg 0 0,S8];rfl) ?_;refine G.loop (λfr C' z V=>∃(k:Nat)(t:Lp.Tab)(wF:Nat->Value),(k<=p.n/\Lp.Inv p M t/\Lp.Rel p.n t k)/\fr=[(0,[],p_ b),(10,[],.slice Ac p.n c2),(11,[],i_ p.n),(12,[],i_ k)]/\z=[.obj b (.cells ⟨[i_ p.n,(.slice w p.m y),(.slice AL p.m x),e,ag (qtx t.worth.c),l]⟩ 231 (0,0)),.arr (.slice w p.m y) 3 1 t.basic.length ((t.basic).map aX).flatten,.arr (.slice AL p.m x) 228 2 t.basic.length ((cW t wF).map bG).flatten,.arr e 3 1 t.others.length ((t.others).map aX).flatten,.arr l 32 1 t.others.length ((t.worth.f).map aP).flatten]++(List.range t.basic.length).map (stE t wF 0 0 0)/\V=p.n-k) (hn_ [0,10,11,12] U) ⟨0,a,A,⟨SM _,q,λs hs=>absurd hs (Nat.not_lt_zero _)⟩,U,U,U⟩ (λfr aQ aR m _ q=>?_);obtain⟨k,t,wF,⟨hk,q,d⟩,rfl,rfl,rfl⟩:=q;refine U0 1 [0,10,11,12,13] U ?_;refine G.cd (λW=>?_) λW=>?_
 .have ao:k<p.n:=by
   have:=aT W;omega
  have ok:=q.tab.ok;have aA:=q.tab.lb;have aB:t.basic.length<=1000000:=by rw[q.tab.lb];exact hm
  have aC:t.others.length<=1000000:=by rw[q.tab.lo];exact hn
  have hq:∀i,i<t.basic.length->LineQ 20 (t.line i):=λi X=>vo q hl X;have J:k<t.others.length:=by rw[q.tab.lo];exact ao
  refine U1 1 U λR d=>?_;refine WG an.m_ U10 om_ (show(a.others.map aX)[k]?=some (aX k) from vj (by rw[ho,Tl ao])) fl_ (λaS aD=>?_);refine Ws aD U8 ?_;refine WI U5 (λb2=>?_);refine WB (j:=0) U12 ?_;refine C6 1 [0,2,3,10,11,12] d U ?_;clear d R;refine G.freeze 0 U (λ_ _ Y=>?_);refine WQ [(5,3)] U (λR d=>?_);refine Wv 3 U ?_;refine WA ah U9 ?_;refine Wt U6 ?_;refine D.call (Pk ok (Mem.get Y mup) J) U (.inr dc_) U6 (show List.Perm _ (((fq b p.n t (.slice w p.m y) (.slice AL p.m x) e l wF).map Lent.ent)++[]) from List.Perm.of_eq (by rw[S8,bg 0 0] <;> rfl)) fl_ (λaU _ aV _ aE=>?_);refine C6 1 [0,2,3,4,10,11,12] d U ?_;clear d R;obtain⟨⟨o0,rfl,aF⟩,rfl⟩:=aE;refine WK (L':=[.obj b (.cells ⟨[i_ p.n,(.slice w p.m y),(.slice AL p.m x),e,ag (qtx t.worth.c),l]⟩ 231 (0,0)),.arr (.slice w p.m y) 3 1 t.basic.length ((t.basic).map aX).flatten,.arr (.slice AL p.m x) 228 2 t.basic.length ((cW t wF).map bG).flatten,.arr e 3 1 t.others.length ((t.others).map aX).flatten,.arr l 32 1 t.others.length ((t.worth.f).map aP).flatten]++(List.range t.basic.length).map (stE t wF 0 0 0)) (by rw[S8,bg 0 0]) ?_;refine G.loop (λfr C' z V=>∃(o:Int),(SG p t k o)/\fr=[(0,[],p_ b),(2,[],p_ b2),(3,[],i_ k),(4,[],i_ o),(10,[],.slice Ac p.n c2),(11,[],i_ p.n),(12,[],i_ k)]/\z=[.obj b (.cells ⟨[i_ p.n,(.slice w p.m y),(.slice AL p.m x),e,ag (qtx t.worth.c),l]⟩ 231 (0,0)),.arr (.slice w p.m y) 3 1 t.basic.length ((t.basic).map aX).flatten,.arr (.slice AL p.m x) 228 2 t.basic.length ((cW t wF).map bG).flatten,.arr e 3 1 t.others.length ((t.others).map aX).flatten,.arr l 32 1 t.others.length ((t.worth.f).map aP).flatten]++(List.range t.basic.length).map (stE t wF 0 0 0)/\V=t.basic.length-o.toNat) (hn_ [0,2,3,4,10,11,12] U) ⟨o0,EH aF,U,U,U⟩ (λfr aW aY m _ q=>?_);obtain⟨o,K,rfl,rfl,rfl⟩:=q;refine U1 7 U λR d=>?_;refine WA ah U9 ?_;refine Wt U6 ?_;refine YK (w.getD ⟨0,0,none⟩).block (o.toNat*1) U U U U U U U U U U (λZ=>by
   have h:decide (o ≥ 0)=true:=Z.1;have h2:=aT h;let⟨r,L,B,_⟩:=K.resolve_left om_;exact⟨S om_,by omega,by omega,U⟩) U U ?_
  refine YF (v:=i_ (t.bas o.toNat)) af U U U U U U (λZ=>by
   have h:decide (o ≥ 0)=true:=Z.1;have h2:=aT h;let⟨r,L,B,_⟩:=K.resolve_left om_;refine⟨S om_, ?_⟩;rw[da eC (show t.basic[o.toNat]?=some (t.bas o.toNat) from AE om_)];rfl) rfl rfl ?_
  refine X3 ah (λ_=>qw _ b p.n (t.bas o.toNat) _) U9 ?_;refine Wt U6 ?_;refine WR U8 ?_;refine Ww [0,2,3,4,10,11,12,36] d U ?_;clear d R;refine G.cd (λaa=>?_) λaa=>?_
  .have Q:o ≥ 0/\¬ p.n<=t.bas o.toNat:=by simpa using aa
   let⟨aZ,ab⟩:=Q;let⟨r,L,B,ac,ad⟩:=K.resolve_left om_;subst L;rw[UD]at ab;refine WQ [(8,3)] U (λR d=>?_);refine Wv 3 U ?_;refine WA ah U9 ?_;refine Wt U6 ?_;refine Wz _ U U6 ?_;refine Xd (r+1) p.m x U12 (λ_=>⟨.inr ⟨_,U⟩,.inl ⟨U,U⟩,.inl ⟨U,U⟩,by omega,T,SH _⟩) U2 ?_;refine Wt U6 ?_;refine D.call (Pj aA ok (Mem.get Y mup) J B T) U (.inr dc_) U6 (show List.Perm _ (((fq b p.n t (.slice w p.m y) (.slice AL p.m x) e l wF).map Lent.ent)++[]) from List.Perm.of_eq (by rw[S8,bg 0 0] <;> rfl)) fl_ (λa0 _ a1 _ aG=>?_);refine C6 1 [0,2,3,4,5,10,11,12] d U ?_;clear d R;obtain⟨⟨o2,rfl,ap⟩,rfl⟩:=aG;refine WK (L':=[.obj b (.cells ⟨[i_ p.n,(.slice w p.m y),(.slice AL p.m x),e,ag (qtx t.worth.c),l]⟩ 231 (0,0)),.arr (.slice w p.m y) 3 1 t.basic.length ((t.basic).map aX).flatten,.arr (.slice AL p.m x) 228 2 t.basic.length ((cW t wF).map bG).flatten,.arr e 3 1 t.others.length ((t.others).map aX).flatten,.arr l 32 1 t.others.length ((t.worth.f).map aP).flatten]++(List.range t.basic.length).map (stE t wF 0 0 0)) (by rw[S8,bg 0 0]) ?_;refine U0 2 [0,2,3,4,5,10,11,12,47] U ?_;refine G.cd (λae=>?_) λae=>?_
   .have ai:o2<0:=aT ae;have hz:∀i,i<t.basic.length->p.n<=t.bas i->(t.line i).g k=0:=λi X E=>by
     rcases Nat.lt_trichotomy i r with h1|h1|h1
     .exact ad i h1 E
     .rw[h1]at E;exact absurd E ab
     have:=AZ ap ai (i-(r+1)) om_;rw[show r+1+(i-(r+1))=i by omega]at this;exact Decidable.not_not.1 this
    refine U0 1 [0,2,3,4,10,11,12] U ?_;refine U1 5 U λR d=>?_;refine X3 ah (λ_=>qw _ b p.n k _) U9 ?_;refine Wt U6 ?_;refine WR U8 ?_;refine Ww [0,2,4,10,11,12,59] d U ?_;clear d R;refine G.cd (λaq=>?_) λaq=>?_
    .exact absurd aq am
    refine Wu λR d=>?_;refine Wz _ U U6 ?_;refine C6 1 [0,10,11,12] d U ?_;clear d R;refine WF (m':=p.n-(k+1)) om_ mup (hn_ [0,10,11,12] U) ⟨k+1,t,wF,⟨by omega,q,Lp.rel_none d hz⟩,U,U,U⟩
   have ai:¬ o2<0:=SJ ae;obtain⟨F,rfl,a2,aH,aI⟩:=AY ap ai;have aJ:SG p t k ((r+(1+F):Nat):Int):=.inr ⟨r+(1+F),rfl,by omega,by rw[show r+(1+F)=r+1+F by omega];exact aH,λi X E=>by
    rcases Nat.lt_trichotomy i r with h1|h1|h1
    .exact ad i h1 E
    .rw[h1]at E;exact absurd E ab
    have:=aI (i-(r+1)) om_;rw[show r+1+(i-(r+1))=i by omega]at this;exact Decidable.not_not.1 this⟩
   refine U1 2 U λR d=>?_;refine Wz _ U U6 ?_;refine Wz _ U U6 ?_;refine C6 1 [0,2,3,4,10,11,12] d U ?_;clear d R;refine WF (m':=t.basic.length-((r+(1+F):Nat):Int).toNat) om_ mup (hn_ [0,2,3,4,10,11,12] U) ⟨((r+(1+F):Nat):Int),aJ,U,U,U⟩
  have Q:¬ (o ≥ 0/\¬ p.n<=t.bas o.toNat):=by simpa using aa
  refine U1 5 U λR d=>?_;refine X3 ah (λ_=>qw _ b p.n k _) U9 ?_;refine Wt U6 ?_;refine WR U8 ?_;refine Ww [0,2,4,10,11,12,59] d U ?_;clear d R;refine G.cd (λaj=>?_) λaj=>?_
  .have H:0<=o:=by
    have H:(decide (0<=o) && !decide (p.n<=k))=true:=aj;simp only[S1,SS]at H;exact H.1
   let⟨r,L,B,ac,ad⟩:=K.resolve_left om_;subst L;rw[UD]at Q;have aK:p.n<=t.bas r:=by
    apply Decidable.byContradiction;intro h;exact Q ⟨by omega,h⟩
   refine WQ [(3,3)] U (λR d=>?_);refine Wv 2 U ?_;refine Ws (bkT Y 1) U8 ?_;refine D.call (ve _ hT.m_ b p.n r k (p.n+p.m) t (.slice w p.m y) (.slice AL p.m x) e l wF ok aB aC B J ac hq (pQ q hl)) U (.inr dc_) U6 (show List.Perm _ (((fq b p.n t (.slice w p.m y) (.slice AL p.m x) e l wF).map Lent.ent)++[]) from List.Perm.of_eq (by rw[S8,bg 0 0] <;> rfl)) fl_ (λa3 _ a4 _ aL=>?_);refine Ww [0,10,11,12] d U ?_;clear d R;refine Wu λR d=>?_;refine Wz _ U U6 ?_;refine C6 1 [0,10,11,12] d U ?_;clear d R;obtain⟨-,ak,rfl⟩:=aL;refine WK (L':=[.obj b (.cells ⟨[i_ p.n,(.slice w p.m y),(.slice AL p.m x),e,ag (qtx (t.pivot r k).worth.c),l]⟩ 231 (0,0)),.arr (.slice w p.m y) 3 1 (t.pivot r k).basic.length (((t.pivot r k).basic).map aX).flatten,.arr (.slice AL p.m x) 228 2 (t.pivot r k).basic.length ((cW (t.pivot r k) ak).map bG).flatten,.arr e 3 1 (t.pivot r k).others.length (((t.pivot r k).others).map aX).flatten,.arr l 32 1 (t.pivot r k).others.length (((t.pivot r k).worth.f).map aP).flatten]++(List.range (t.pivot r k).basic.length).map (stE (t.pivot r k) ak 0 0 0)) (by rw[S8,bg 0 0]) ?_;refine WF (m':=p.n-(k+1)) om_ mup (hn_ [0,10,11,12] U) ⟨k+1,t.pivot r k,ak,⟨by omega,q.pivot B J ac,Lp.rel_next ok d B J aK⟩,U,U,U⟩
  have H:¬ 0<=o:=by
   have H:(decide (0<=o) && !decide (p.n<=k))=false:=aj;have al:¬ p.n<=k:=by omega
   simpa [al] using H
  have hz:∀i,i<t.basic.length->p.n<=t.bas i->(t.line i).g k=0:=by
   rcases K with⟨_,h2⟩|⟨r,h1,_⟩
   .exact h2
   omega
  refine Wu λR d=>?_;refine Wz _ U U6 ?_;refine C6 1 [0,10,11,12] d U ?_;clear d R;refine WF (m':=p.n-(k+1)) om_ mup (hn_ [0,10,11,12] U) ⟨k+1,t,wF,⟨by omega,q,Lp.rel_none d hz⟩,U,U,U⟩
 have al:k=p.n:=by
  have:=SJ W;omega
 refine XD U ?_;exact⟨U,t,wF,q,by rw[al]at d;exact d,by rw[bg 0 0]⟩
theorem D7 (C:Mem)(v:Value)(l:List Rat)(b:Sl C 1 v (l.map aP))(t:l.length<=1000000):Jog.Fn cx.P 50 [v] C [] λu _w e=>∃A n c,u=.slice A n c/\e=[.arr (.slice A n c) 32 1 l.length (l.map aP).flatten]:=by
 obtain⟨f,c0,rfl,m,x,y,o⟩:=id b;have z:=mx_
 simp only[ar]at b m⊢;refine Wy func50 8 U3 λw0=>U0 1 [0] U<|U1 1 U λR d=>XH U9<|Ww [0,4] d U<|G.cd (λh4=>?_) λh4=>?_
 .have p:f=none:=by
   cases f with
  |none=>rfl
  |some a=>cases h4
  have s:l=[]:=by
   cases l with
  |nil=>rfl
  |cons q r =>
    let⟨a,g,_⟩:=o 0 (aP q) rfl;rw[p]at g;cases g
  refine U0 1 [2] U<|G.nilArr 32 1<|WE (W6 U U ?_);exact⟨none,0,0,U,by rw[s];rfl⟩
 refine Wu λR d=>Xu [] U12 fl_ λB=>Wt U6<|W0 (j:=0) U11 b.m_ (by simp[aP,kS,ag]) (by simp only[ar,Tp,maxLen];omega) (by simp only[ar,Tp];omega) fl_ λh i k=>C6 1 [2] d U<|WK (L':=[.arr (.slice h i k) 32 1 l.length (l.map aP).flatten]) am<|WE (W6 U U ?_);exact⟨h,i,k,U,U⟩
def bQ (n:Nat)(rs:List (List Rat × Rat)):Lp.Sys:=⟨n,rs.length,λr j=>(rs.getD r ([],0)).1.getD j 0,λr=>(rs.getD r ([],0)).2⟩
abbrev sA (A:Option Addr)(n c:Nat):Value:=.slice A n c
abbrev sB (A:Option Addr)(n c:Nat):Value:=.slice A n c
abbrev sO (A:Option Addr)(n c:Nat):Value:=.slice A n c
abbrev sW (A:Option Addr)(n c:Nat):Value:=.slice A n c
abbrev sF (A:Option Addr)(n c:Nat):Value:=.slice A n c
def lbF (n i:Nat):List Nat:=(List.range i).map λq=>n+q
def lvF (rs:List (List Rat × Rat))(wF:Nat->Value)(i:Nat):List (Rat × Value):=(List.range i).map λq=>((rs.getD q ([],0)).2,wF q)
def opE (n:Nat)(rs:List (List Rat × Rat))(wF:Nat->Value)(q:Nat):Ent:=.arr (wF q) 32 1 n (((List.range n).map λj=>-(rs.getD q ([],0)).1.getD j 0).map aP).flatten
def Kb (wF:Nat->Value)(i:Nat)(w:Value):Nat->Value:=λq=>if q=i then w else wF q
theorem Gv :Kb wF i w i=w:=aL rfl
theorem Gu {q:Nat}(h:q≠i):Kb wF i w q=wF q:=aF h
theorem Ly :lbF n (i+1)=lbF n i++[n+i]:=by unfold lbF;rw[T1,Tm];rfl
theorem Ln {r:List Rat × Rat}(h:rs.getD i ([],0)=r):lvF rs (Kb wF i w) (i+1)=lvF rs wF i++[(r.2,w)]:=by
 unfold lvF;rw[T1,Tm,List.map_singleton,h,Gv];congr 1;refine List.map_congr_left λq a=>?_;rw[Gu (by have:=S7.1 a;omega)]
theorem La {r:List Rat × Rat}(h:rs.getD i ([],0)=r):(List.range (i+1)).map (opE n rs (Kb wF i w))=(List.range i).map (opE n rs wF)++[.arr w 32 1 n (((List.range n).map λj=>-r.1.getD j 0).map aP).flatten]:=by
 rw[T1,Tm,List.map_singleton];congr 1
 .refine List.map_congr_left λq a=>?_;unfold opE;rw[Gu (by have:=S7.1 a;omega)]
 unfold opE;rw[h,Gv]
theorem EZ {l:List Rat}(h:l.length=n):(List.range n).map (λj=>l.getD j 0)=l:=by
 refine List.ext_getElem? λj=>?_;rw[SI];by_cases a:j<n
 .rw[Tl a,aj om_];show some (l.getD j 0)=_;rw[al,aj om_];rfl
 rw[SR (show(List.range n).length<=j by simp;omega),SR om_];rfl
theorem HN (g:ob.length=n) :
  (fq b n (Lp.openT (bQ n rs) λj=>ob.getD j 0) wB wL wO wW wF).map Lent.ent=[.obj b (.cells ⟨[i_ n,wB,wL,wO,ag [48],wW]⟩ 231 (0,0)),.arr wB 3 1 rs.length ((lbF n rs.length).map aX).flatten,.arr wL 228 2 rs.length ((lvF rs wF rs.length).map bG).flatten,.arr wO 3 1 n ((List.range n).map aX).flatten,.arr wW 32 1 n (ob.map aP).flatten]++(List.range rs.length).map (opE n rs wF):=by
 have d:(Lp.openT (bQ n rs) λj=>ob.getD j 0).basic.length=rs.length:=Lp.openT_lb;have e:(Lp.openT (bQ n rs) λj=>ob.getD j 0).others.length=n:=Lp.openT_lo;have h1:cW (Lp.openT (bQ n rs) λj=>ob.getD j 0) wF=lvF rs wF rs.length:=by
  unfold cW lvF;rw[d];refine List.map_congr_left λq a=>?_;rw[Lp.openT_line (p:=bQ n rs) (S7.1 a)];rfl
 have h2:(List.range rs.length).map (Lent.ent ∘ MZ (Lp.openT (bQ n rs) λj=>ob.getD j 0) wF)=(List.range rs.length).map (opE n rs wF):=by
  refine List.map_congr_left λq a=>?_;show Ent.arr _ _ 1 _ _=_;rw[Lp.openT_line (p:=bQ n rs) (S7.1 a),e];rfl
 have h3:(Lp.openT (bQ n rs) λj=>ob.getD j 0).worth.f=ob:=EZ g;have h4:(Lp.openT (bQ n rs) λj=>ob.getD j 0).worth.c=0:=rfl;unfold fq;rw[h1,h3,h4,d,e,qtx_zero];simp only[Tq,TH,h2];rfl
def So (n:Nat)(rs:List (List Rat × Rat))(ob:List Rat)(b17:Nat)(Aw:Option Addr)(nw cw:Nat)(A1:Option Addr)(n1 c1:Nat)(i:Nat)(wF:Nat->Value)(r:List Rat × Rat)(A4:Option Addr)(n4 c4:Nat)(A71:Option Addr)(n71 c71:Nat)(A78:Option Addr)(n78 c78:Nat):List Ent:=[.arr (sA A71 n71 c71) 3 1 (i+1) (((lbF n i).map aX).flatten++[[.int .i64 ((n:Int)+(i:Int))]].flatten),.arr (sB A78 n78 c78) 228 2 (i+1) (((lvF rs wF i).map bG).flatten++[[ag (qtx r.2),.slice A4 n4 c4]].flatten),.obj b17 (.cells ⟨[.int .i64 n,.slice A71 n71 c71,.slice A78 n78 c78,.slice A1 n1 c1,ag [48],.slice Aw nw cw]⟩ 231 (0,0)),.arr (sO A1 n1 c1) 3 1 n (((List.range n)).map aX).flatten,.arr (sW Aw nw cw) 32 1 n (ob.map aP).flatten,.arr (sF A4 n4 c4) 32 1 n (((List.range n).map λq=>-r.1.getD q 0).map aP).flatten]++(List.range i).map (opE n rs wF)
def opX1 (n:Nat)(rs:List (List Rat × Rat))(ob:List Rat)(b17:Nat)(Aw:Option Addr)(nw cw:Nat)(A1:Option Addr)(n1 c1:Nat)(i:Nat)(wF:Nat->Value)(A4:Option Addr)(n4 c4:Nat)(A71:Option Addr)(n71 c71:Nat)(A78:Option Addr)(n78 c78:Nat):List Ent:=[.arr (sA A71 n71 c71) 3 1 (i+1) ((lbF n (i+1)).map aX).flatten,.arr (sB A78 n78 c78) 228 2 (i+1) ((lvF rs (Kb wF i (.slice A4 n4 c4)) (i+1)).map bG).flatten,.obj b17 (.cells ⟨[.int .i64 n,.slice A71 n71 c71,.slice A78 n78 c78,.slice A1 n1 c1,ag [48],.slice Aw nw cw]⟩ 231 (0,0)),.arr (sO A1 n1 c1) 3 1 n (((List.range n)).map aX).flatten,.arr (sW Aw nw cw) 32 1 n (ob.map aP).flatten]++(List.range (i+1)).map (opE n rs (Kb wF i (.slice A4 n4 c4)))
theorem HM {a:Nat}{b:Option Addr}{c d:Nat}{e:Option Addr}{f g:Nat}{r:List Rat × Rat}{h:Option Addr}{j k:Nat}{l:Option Addr}{m o:Nat}{p:Option Addr}{q s:Nat}(t:rs.getD i ([],0)=r):(So n rs ob a b c d e f g i wF r h j k l m o p q s).Perm (opX1 n rs ob a b c d e f g i wF h j k l m o p q s):=by
 unfold So opX1;rw[Ly,Ln t,La t];simp only[Tm,Ta];exact List.Perm.append_left [_,_,_,_,_] (List.perm_append_singleton _ _).symm
theorem K1 (C:Mem)(_aZ:Tabs C)(n:Nat)(rv T:Value)(c:List (List Rat × Rat))(p:List Rat)(hr:RowsT C rv (c.map dw))(ho:Sl C 1 T (p.map aP))(V:RowsQ n c)(hn:n<=1000)(ap:p.length=n) :
  Jog.Fn cx.P 136 [.agg ⟨[i_ n,rv,T]⟩] C [] λu _a0 k=>∃b wB wL wO wW wF,u=p_ b/\k=(fq b n (Lp.openT (bQ n c) λj=>p.getD j 0) wB wL wO wW wF).map Lent.ent:=by
 let⟨vs,aq,aF,H⟩:=hr;obtain⟨W,X,rfl,au,a1,_⟩:=id H;have hm:=V.m;have a2:=mx_
 rw[jS aq]at H au⊢;simp only[ar]at H au aq⊢;refine Wy func136 85 U3 λw0=>?_;refine Wu λR a=>?_;refine WH U6 (λI=>?_);refine C6 1 [1] a U ?_;clear a R;refine G.freeze 0 U (λ_ _ F=>?_);refine WM [0,1,2,3,4,5,6,7,8] [(4,3),(1,0)] U kr_ (λR A a=>?_);refine Wt U6 ?_;refine W9 (λ_=>((PtrTo.blockT F _ 1).mono A)) U9 ?_;refine Wt U6 ?_;refine Ws (bkT F 1) U8 ?_;refine D.call (D7 _ T p ho.m_ om_) U (.inr dc_) U6 (SQ _) fl_ (λa3 _ a4 _ aG=>?_);obtain⟨d,e,f,rfl,rfl⟩:=aG;refine WL [ag [48],.slice d e f] U8 ?_;refine WL [i_ n,.slice none 0 0,.slice none 0 0,.slice none 0 0,ag [48],.slice d e f] U8 ?_;refine WH U6 (λo=>?_);refine Wt U6 ?_;refine Ww [1,3] a U ?_;clear a A R;refine U1 1 U λR a=>?_;refine Ws (bkT F 1) U8 ?_;refine C6 1 [1,3,19,20] a U ?_;clear a R;refine G.nilArr 3 1 ?_;refine WK (L':=[.arr (sO none 0 0) 3 1 0 (((List.range 0)).map aX).flatten,.obj o (.cells ⟨[i_ n,.slice none 0 0,.slice none 0 0,.slice none 0 0,ag [48],.slice d e f]⟩ 231 (0,0)),.arr (sW d e f) 32 1 n (p.map aP).flatten]) (by rw[ap];rfl) ?_;refine G.loop (λfr Y k B=>∃(i:Nat)(g:Option Addr)(n1 h:Nat),(i<=n)/\fr=[(1,[],p_ I),(3,[],p_ o),(19,[],i_ n),(20,[],i_ i)]/\k=[.arr (sO g n1 h) 3 1 i (((List.range i)).map aX).flatten,.obj o (.cells ⟨[i_ n,.slice none 0 0,.slice none 0 0,.slice g n1 h,ag [48],.slice d e f]⟩ 231 (0,0)),.arr (sW d e f) 32 1 n (p.map aP).flatten]/\B=n-i) (hn_ [1,3,19,20] U) ⟨0,none,0,0,SM _,U,U,U⟩ (λfr a5 a6 m _ E=>?_);obtain⟨i,g,n1,h,hi,rfl,rfl,rfl⟩:=E;refine U0 1 [1,3,19,20,21] U ?_;refine G.cd (λZ=>?_) λZ=>?_
 .have av:i<n:=by
   have:=aT Z;omega
  refine U0 2 [1,3,4,19,20] U ?_;refine U1 4 U λR a=>?_;refine WA af U9 ?_;refine Wt U6 ?_;refine WP [[i_ i]] U12 (λa7 _ _ aH=>?_);refine W0 (j:=0) U11 aH U ay (by show(i+1)*8<=_;omega) fl_ (λaa ab ad=>?_);refine Wv 2 U ?_;refine WB (j:=1) U12 ?_;refine Ww [1,3,19,20] a U ?_;clear a R;refine Wu λR a=>?_;refine Wz _ U U6 ?_;refine C6 1 [1,3,19,20] a U ?_;clear a R;refine G.perm (L':=[.arr (sO aa ab ad) 3 1 (i+1) (((List.range (i+1))).map aX).flatten,.obj o (.cells ⟨[i_ n,.slice none 0 0,.slice none 0 0,.slice aa ab ad,ag [48],.slice d e f]⟩ 231 (0,0)),.arr (sW d e f) 32 1 n (p.map aP).flatten]) (by rw[T1,Tm,Ta];exact List.Perm.swap _ _ _) ?_;refine WF (m':=n-(i+1)) om_ mup (hn_ [1,3,19,20] U) ⟨i+1,aa,ab,ad,om_,U,U,U⟩
 have ae:i=n:=by
  have:=SJ Z;omega
 rw[ae];refine U1 1 U λR a=>?_;refine Ws (bkT F 1) U8 ?_;refine C6 2 [1,3,35,36,37] a U ?_;clear a R;refine G.nilArr 228 2 ?_;refine G.nilArr 3 1 ?_;refine G.perm (L':=[.arr (sA none 0 0) 3 1 0 ((lbF n 0).map aX).flatten,.arr (sB none 0 0) 228 2 0 ((lvF c (λ_=>.slice none 0 0) 0).map bG).flatten,.obj o (.cells ⟨[i_ n,.slice none 0 0,.slice none 0 0,.slice g n1 h,ag [48],.slice d e f]⟩ 231 (0,0)),.arr (sO g n1 h) 3 1 n (((List.range n)).map aX).flatten,.arr (sW d e f) 32 1 n (p.map aP).flatten]++(List.range 0).map (opE n c (λ_=>.slice none 0 0))) (by
  show List.Perm ([_,_,_,_,_]++[]) _
  (exact pkL [0,0,1,0,0] rfl)) ?_
 refine G.loop (λfr Y k B=>∃(i:Nat)(A2:Option Addr)(n2 c2:Nat)(s:Option Addr)(t v:Nat)(wF:Nat->Value),(i<=c.length)/\fr=[(1,[],p_ I),(3,[],p_ o),(35,[],.slice W c.length X),(36,[],i_ c.length),(37,[],i_ i)]/\k=[.arr (sA A2 n2 c2) 3 1 i ((lbF n i).map aX).flatten,.arr (sB s t v) 228 2 i ((lvF c wF i).map bG).flatten,.obj o (.cells ⟨[i_ n,.slice A2 n2 c2,.slice s t v,.slice g n1 h,ag [48],.slice d e f]⟩ 231 (0,0)),.arr (sO g n1 h) 3 1 n (((List.range n)).map aX).flatten,.arr (sW d e f) 32 1 n (p.map aP).flatten]++(List.range i).map (opE n c wF)/\B=c.length-i) (hn_ [1,3,35,36,37] U) ⟨0,none,0,0,none,0,0,λ_=>.slice none 0 0,SM _,U,U,U⟩ (λfr a8 a9 m _ E=>?_);obtain⟨i,A2,n2,c2,s,t,v,wF,hi,rfl,rfl,rfl⟩:=E;refine U0 1 [1,3,35,36,37,38] U ?_;refine G.cd (λah=>?_) λah=>?_
 .have av:i<c.length:=by
   have:=aT ah;omega
  let⟨r,J⟩:∃r,c[i]?=some r:=⟨c[i],aj av⟩;have aI:c.getD i ([],0)=r:=by rw[al,J];rfl
  have ba:r.1.length=n:=V.l r (aK J);let⟨aJ,bb⟩:=V.q r (aK J);let⟨w,hw⟩:∃w,vs[i]?=some w:=⟨vs[i]'om_,aj om_⟩;have aw:(c.map dw)[i]?=some (dw r):=by rw[SI,J];rfl
  have hx:=aF i w (dw r) hw aw;have ai:Sl C 1 w (r.1.map aP):=by rw[fy];exact hx
  obtain⟨Ax,aL,rfl,aM,bc,_⟩:=id ai;simp only[ar]at ai aM hw;refine U1 1 U λR a=>?_;refine WG H.m_ U10 om_ (pL hw aw) fl_ (λbd aN=>?_);refine Ws aN U8 ?_;refine WI U5 (λb6=>?_);refine Wt U6 ?_;refine WB (j:=0) U12 ?_;refine Ww [1,3,5,6,35,36,37] a U ?_;clear a R;refine G.freeze 0 U (λ_ _ ax=>?_);refine U1 1 U λR a=>?_;refine Ws (bkT ax 1) U8 ?_;refine WL [ag (qtx r.2),.slice none 0 0] U8 ?_;refine WI U5 (λK=>?_);refine WB (j:=0) U12 ?_;refine Ww [1,3,5,6,7,35,36,37] a U ?_;clear a R;refine U1 1 U λR a=>?_;refine Ws (bkT ax 1) U8 ?_;refine C6 2 [1,3,5,7,35,36,37,46,47,48] a U ?_;clear a R;refine G.nilArr 32 1 ?_;refine WK (L':=[.arr (sF none 0 0) 32 1 0 (((List.range 0).map λq=>-r.1.getD q 0).map aP).flatten,.obj K (.cells ⟨[ag (qtx r.2),.slice none 0 0]⟩ 228 (0,0)),.arr (sA A2 n2 c2) 3 1 i ((lbF n i).map aX).flatten,.arr (sB s t v) 228 2 i ((lvF c wF i).map bG).flatten,.obj o (.cells ⟨[i_ n,.slice A2 n2 c2,.slice s t v,.slice g n1 h,ag [48],.slice d e f]⟩ 231 (0,0)),.arr (sO g n1 h) 3 1 n (((List.range n)).map aX).flatten,.arr (sW d e f) 32 1 n (p.map aP).flatten]++(List.range i).map (opE n c wF)) U ?_;refine G.loop (λfr Y k B=>∃(j:Nat)(x:Option Addr)(y z:Nat),(j<=n)/\fr=[(1,[],p_ I),(3,[],p_ o),(5,[],i_ i),(7,[],p_ K),(35,[],.slice W c.length X),(36,[],i_ c.length),(37,[],i_ i),(46,[],.slice Ax r.1.length aL),(47,[],i_ r.1.length),(48,[],i_ j)]/\k=[.arr (sF x y z) 32 1 j (((List.range j).map λq=>-r.1.getD q 0).map aP).flatten,.obj K (.cells ⟨[ag (qtx r.2),.slice x y z]⟩ 228 (0,0)),.arr (sA A2 n2 c2) 3 1 i ((lbF n i).map aX).flatten,.arr (sB s t v) 228 2 i ((lvF c wF i).map bG).flatten,.obj o (.cells ⟨[i_ n,.slice A2 n2 c2,.slice s t v,.slice g n1 h,ag [48],.slice d e f]⟩ 231 (0,0)),.arr (sO g n1 h) 3 1 n (((List.range n)).map aX).flatten,.arr (sW d e f) 32 1 n (p.map aP).flatten]++(List.range i).map (opE n c wF)/\B=n-j) (hn_ [1,3,5,7,35,36,37,46,47,48] U) ⟨0,none,0,0,SM _,U,U,U⟩ (λfr be bf m _ E=>?_);obtain⟨j,x,y,z,hj,rfl,rfl,rfl⟩:=E;refine U0 1 [1,3,5,7,35,36,37,46,47,48,49] U ?_;refine G.cd (λak=>?_) λak=>?_
  .have bg:j<n:=by
    have:=aT ak;omega
   have aO:QB 23 (r.1.getD j 0):=tO aJ;refine Wu λR a=>?_;refine WG ai.m_ U10 om_ (dT om_) fl_ (λbh aQ=>?_);refine Ws aQ U8 ?_;refine C6 1 [1,3,5,7,9,35,36,37,46,47,48] a U ?_;clear a R;refine WM [0,1,2,3,4,5,6,7] [(3,1)] U kr_ (λR A a=>?_);refine Wt U6 ?_;refine WA af U9 ?_;refine Wt U6 ?_;refine WN (λ_=>(fu _ (r.1.getD j 0) (SV (aV aO dc_) dc_))) U9 ?_;refine WP [[ag (qtx (-(r.1.getD j 0)))]] U12 (λbi _ _ aR=>?_);refine W0 (j:=0) U11 aR U ay (by show(j+1)*16<=_;omega) fl_ (λam an ao=>?_);refine Wt U6 ?_;refine WB (j:=1) U12 ?_;refine Ww [1,3,5,7,35,36,37,46,47,48] a U ?_;clear a A R;refine Wu λR a=>?_;refine Wz _ U U6 ?_;refine C6 1 [1,3,5,7,35,36,37,46,47,48] a U ?_;clear a R;refine G.perm (L':=[.arr (sF am an ao) 32 1 (j+1) (((List.range (j+1)).map λq=>-r.1.getD q 0).map aP).flatten,.obj K (.cells ⟨[ag (qtx r.2),.slice am an ao]⟩ 228 (0,0)),.arr (sA A2 n2 c2) 3 1 i ((lbF n i).map aX).flatten,.arr (sB s t v) 228 2 i ((lvF c wF i).map bG).flatten,.obj o (.cells ⟨[i_ n,.slice A2 n2 c2,.slice s t v,.slice g n1 h,ag [48],.slice d e f]⟩ 231 (0,0)),.arr (sO g n1 h) 3 1 n (((List.range n)).map aX).flatten,.arr (sW d e f) 32 1 n (p.map aP).flatten]++(List.range i).map (opE n c wF)) (by rw[T1,Tm,Tm,Ta];exact List.Perm.swap _ _ _) ?_;refine WF (m':=n-(j+1)) om_ mup (hn_ [1,3,5,7,35,36,37,46,47,48] U) ⟨j+1,am,an,ao,om_,U,U,U⟩
  have aS:j=n:=by
   have:=SJ ak;omega
  rw[aS];refine G.freeze 1 U (λ_ _ aU=>?_);refine WK (L':=[.arr (sF x y z) 32 1 n (((List.range n).map λq=>-r.1.getD q 0).map aP).flatten,.arr (sA A2 n2 c2) 3 1 i ((lbF n i).map aX).flatten,.arr (sB s t v) 228 2 i ((lvF c wF i).map bG).flatten,.obj o (.cells ⟨[i_ n,.slice A2 n2 c2,.slice s t v,.slice g n1 h,ag [48],.slice d e f]⟩ 231 (0,0)),.arr (sO g n1 h) 3 1 n (((List.range n)).map aX).flatten,.arr (sW d e f) 32 1 n (p.map aP).flatten]++(List.range i).map (opE n c wF)) U ?_;refine G.cut (λfr Y k B=>∃(L:Option Addr)(M N:Nat)(O:Option Addr)(Q S:Nat),(True)/\fr=[(1,[],p_ I),(3,[],p_ o),(35,[],.slice W c.length X),(36,[],i_ c.length),(37,[],i_ i)]/\k=[.arr (sA L M N) 3 1 (i+1) ((lbF n (i+1)).map aX).flatten,.arr (sB O Q S) 228 2 (i+1) ((lvF c (Kb wF i (.slice x y z)) (i+1)).map bG).flatten,.obj o (.cells ⟨[i_ n,.slice L M N,.slice O Q S,.slice g n1 h,ag [48],.slice d e f]⟩ 231 (0,0)),.arr (sO g n1 h) 3 1 n (((List.range n)).map aX).flatten,.arr (sW d e f) 32 1 n (p.map aP).flatten]++(List.range (i+1)).map (opE n c (Kb wF i (.slice x y z)))) ?_ (λfr bj bk B bl E=>?_)
  .refine Xt (.cut [0,1,2,3,4,5,6,7,8,9,12,13,14,16] (.alt 10 (.cut [] (.alt 11 (.fin [15,17,18,19,20,21,22,23,24]) (.alt 15 (.cut [] (.alt 11 (.fin [17,18,19,20,21,22,23,24]) (.alt 17 (.fin [11,18,19,20,21,22,23,24]) .stop))) (.alt 17 (.cut [] (.alt 11 (.fin [15,18,19,20,21,22,23,24]) (.alt 15 (.fin [11,18,19,20,21,22,23,24]) .stop))) .stop)))) (.alt 15 (.cut [] (.alt 10 (.cut [] (.alt 11 (.fin [17,18,19,20,21,22,23,24]) (.alt 17 (.fin [11,18,19,20,21,22,23,24]) .stop))) (.alt 17 (.fin [10,11,18,19,20,21,22,23,24]) .stop))) (.alt 17 (.cut [] (.alt 10 (.cut [] (.alt 11 (.fin [15,18,19,20,21,22,23,24]) (.alt 15 (.fin [11,18,19,20,21,22,23,24]) .stop))) (.alt 15 (.fin [10,11,18,19,20,21,22,23,24]) .stop))) .stop)))) [(16,0)] U U kr_ (λR A a hH=>?_);refine Wv 5 U ?_;refine WA ac U9 ?_;refine Wt U6 ?_;refine Ws (bkT F 1) U8 ?_;refine Wt U6 ?_;refine Wz _ U U6 ?_;refine Wv 3 U ?_;refine W9 (λ_=>((bkT aU 2).mono A)) U9 ?_
   repeat' first
   |(refine Xh hH rfl ⟨?_, ?_,trivial⟩)
   |(refine Xh hH rfl ⟨?_, ?_, ?_,trivial⟩)
   |(refine D.buildSlice [[i_ ((n:Int)+(i:Int))]] rfl rfl rfl rfl rfl rfl rfl rfl rfl rfl rfl rfl fl_ (λbm _ _ aW=>?_))
   |(refine W0 (j:=1) U11 aW.m_ rfl ay (by show(i+1)*8<=_;omega) fl_ (λaz aA aB=>?_))
   |(refine Xo ac U9 ?_)
   |(refine D.buildSlice [[ag (qtx r.2),.slice x y z]] rfl rfl rfl rfl rfl rfl rfl rfl rfl rfl rfl rfl fl_ (λbn _ _ aY=>?_))
   |(refine W0 (j:=2) U11 aY.m_ rfl ay (by show(i+1)*40<=_;omega) fl_ (λaC aD aE=>?_))
   |(refine D.pure rfl rfl rfl rfl rfl rfl ?_)
   |(refine XC (j:=3) U12 ?_)
   |(refine XC (j:=0) U12 ?_)
   |(refine Xp [(1,[],_),(3,[],_),(35,[],_),(36,[],_),(37,[],_)] ⟨rfl,rfl,rfl,rfl,rfl,trivial⟩ (a _ _ _ rfl ?_);clear a A hH R;refine G.perm (L':=So n c p o d e f g n1 h i wF r x y z az aA aB aC aD aE) (pkL [2,1,0,1,1,0] rfl) ?_;refine G.perm _ (HM aI) ?_;exact WJ 0 mup (hn_ [1,3,35,36,37] rfl) ⟨az,aA,aB,aC,aD,aE,trivial,rfl,rfl⟩)
  obtain⟨L,M,N,O,Q,S,_,rfl,rfl⟩:=E;refine Wu λR a=>?_;refine Wz _ U U6 ?_;refine C6 1 [1,3,35,36,37] a U ?_;clear a R;refine WF (m':=c.length-(i+1)) om_ mup (hn_ [1,3,35,36,37] U) ⟨i+1,L,M,N,O,Q,S,(Kb wF i (.slice x y z)),om_,U,U,U⟩
 have ae:i=c.length:=by
  have:=SJ ah;omega
 refine U0 2 [2] U ?_;rw[ae];refine G.perm (L':=(fq o n (Lp.openT (bQ n c) λj=>p.getD j 0) (.slice A2 n2 c2) (.slice s t v) (.slice g n1 h) (.slice d e f) wF).map Lent.ent) (by rw[HN ap];(exact pkL [2,0,0,0] U)) ?_;refine WE (W6 U U ?_);exact⟨o,.slice A2 n2 c2,.slice s t v,.slice g n1 h,.slice d e f,wF,U,U⟩
def Wl (D:Int)(q:Rat):Prop:=∃z:Int,q*(D:Rat)=(z:Rat)/\z.natAbs<=999999999
def RowI (r:RowQ):Prop:=∃D:Int,D≠0/\D.natAbs<=999999999/\(∀q∈r.f,Wl D q)/\Wl D r.b
def dS (rows:List RowQ):List (List Rat × Rat):=rows.map λr=>(r.f,r.b)
theorem Wl.zero (D:Int):Wl D 0:=⟨0,by grind,by decide⟩
theorem Wl.neg {D:Int}{q:Rat}(h:Wl D q):Wl D (-q):=by
 let⟨z,h1,h2⟩:=h;exact⟨-z,by rw[Rat.intCast_neg,<- h1];grind,by omega⟩
theorem Wl.sg {D:Int}{q a:Rat}(h:Wl D q)(b:a=1∨a=-1):Wl D (a*q):=by
 rcases b with rfl|rfl
 .rw[Rat.one_mul];exact h
 rw[show(-1:Rat)*q=-q by grind];exact h.neg
theorem nN (h:i<rows.length):(dS rows).getD i ([],0)=(rows[i].f,rows[i].b):=by
 unfold dS;rw[al,SI,aj h];rfl
theorem Ig {d:Nat}(g:n<=12)(h:∀r∈rows,RowI r)(k:∃D:Int,D≠0/\D.natAbs<=d/\∀j,j<n->∃z:Int,cc j*(D:Rat)=(z:Rat)/\z.natAbs<=d)(l:∀n,n<=12->(n+1)*(d*Lp.fctM (2*999999999) n)<B9 ^ 20):Lp.Lim (bQ n (dS rows)) cc 20:=by
 have o:∀r:Nat,∃D:Int,∀hr:r<rows.length,D≠0/\D.natAbs<=999999999/\(∀q∈rows[r].f,Wl D q)/\Wl D rows[r].b:=λr=>by
  by_cases hr:r<rows.length
  .let⟨D,c⟩:=h rows[r] (TC hr);exact⟨D,λ_=>c⟩
  exact⟨0,λh=>absurd h hr⟩
 let⟨D,c⟩:=Classical.axiomOfChoice o;let⟨p,s,c2,t⟩:=k;have hm:(bQ n (dS rows)).m=rows.length:=ar _;have u:Lp.bdQ (bQ n (dS rows)) 999999999<B9 ^ 20:=by
  unfold Lp.bdQ Lp.bdT;have:∀n,n<=12->(n+1)*(999999999*Lp.fctM (2*999999999) n)<B9 ^ 20:=by decide +kernel
  exact this _ g
 refine⟨⟨D,999999999,d,p,by decide,⟨λr hr=>?_,λr j hr i=>?_,λr hr=>?_⟩,⟨s,c2⟩,λj i=>?_,u,by unfold Lp.bdW Lp.bdT;exact l _ g⟩⟩
 .rw[hm]at hr;exact⟨(c r hr).1,(c r hr).2.1⟩
 .rw[hm]at hr;have e:(bQ n (dS rows)).a r j=rows[r].f.getD j 0:=by show((dS rows).getD r ([],0)).1.getD j 0=_;rw[nN hr]
  have v:Wl (D r) (rows[r].f.getD j 0):=by
   rw[al];cases w:rows[r].f[j]? with
  |none=>exact Wl.zero _
  |some q=>exact(c r hr).2.2.1 q (aK w)
  let⟨z,h1,h2⟩:=v;exact⟨z,by rw[e,Wm];exact h1,h2⟩
 .rw[hm]at hr;have e:(bQ n (dS rows)).b r=rows[r].b:=by show((dS rows).getD r ([],0)).2=_;rw[nN hr]
  let⟨z,h1,h2⟩:=(c r hr).2.2.2;exact⟨z,by rw[e,Wm];exact h1,h2⟩
 let⟨z,h1,h2⟩:=t j i;exact⟨z,by rw[Wm];exact h1,h2⟩
theorem vu (a:n<=12)(h:∀r∈rows,RowI r)(b:∃D:Int,D≠0/\D.natAbs<=999999999/\∀j,j<n->Wl D (cc j)):Lp.Lim (bQ n (dS rows)) cc 20:=Ig a h b aq
theorem Lu (a:n<=12)(h:∀r∈rows,RowI r):Lp.Lim (bQ n (dS rows)) (λ_=>0) 20:=vu a h ⟨1,by decide,by decide,λ_ _=>Wl.zero _⟩
theorem xF {p:Nat}{c:List (Nat × Rat)}{b a:Rat}{D:Int}(d:a=1∨a=-1)(e:D≠0)(f:D.natAbs<=999999999)(g:∀x∈c,Wl D x.2)(h:Wl D b):RowI (ir s p k c b a):=by
 refine⟨D,e,f,uM (Wl.zero _) (λx i=>?_),h.sg d⟩;obtain⟨y,hy,rfl⟩:=SL.1 i;exact(g y hy).sg d
theorem NZ {pts:List Pt}{t:Tri}{fs:List Rat}{p:Pt}(e:∀j,Qtr (cor pts t j))(f:dQ (cor pts t 0) (cor pts t 1) (cor pts t 2)≠0)(g:∀j,Hlf (fz fs t j))(z:Qtr p) :
  ∃W:Int,W≠0/\W.natAbs<=2880000/\(∀j,∃N:Int,wgt pts t p j*W=N/\N.natAbs<=2880000)/\(∃N:Int,onQ pts fs t p*((2*W:Int):Rat)=N/\N.natAbs<=600000000) /\
   ∀j,(∃N:Int,(slf pts t j).1*W=N/\N.natAbs<=400000)/\∃N:Int,(slf pts t j).2*W=N/\N.natAbs<=400000:=by
 let⟨x0,y0,h0,m,o⟩:=e 0;let⟨x1,y1,h1,q,r⟩:=e 1;let⟨x2,y2,h2,s,u⟩:=e 2;let⟨x3,y3,h3,h⟩:=id z;let⟨k0,v,A⟩:=g 0;let⟨k1,w,B⟩:=g 1;let⟨k2,x,C⟩:=g 2;have D:=AS (x0:=x0) (y0:=y0) (x1:=x1) (y1:=y1) (x2:=x2) (y2:=y2) ⟨m,o,q,r,s,u⟩;refine⟨iA x0 y0 x1 y1 x2 y2,(jr h0 h1 h2 v w x f).1,D,λj=>?_,⟨_,Nc h0 h1 h2 h3 v w x f,Rb ⟨m,o,q,r,s,u⟩ h ⟨A,B,C⟩⟩,λj=>?_⟩
 .let⟨M,O,h4,E,F⟩:=e ((j+1) % 3);let⟨P,Q,h5,G,H⟩:=e ((j+2) % 3);exact⟨_,(xU (nt h3 h4 h5) (nt h0 h1 h2) f).2,AS ⟨h.1,h.2,E,F,G,H⟩⟩
 have l:=λi=>Cd (n:=pts.length) (k:=pY t j) (t:=t) i;let⟨u0,g0,R⟩:=l 0;let⟨u1,I,l1⟩:=l 1;let⟨y,J,l2⟩:=l 2;let⟨_,K,L⟩:=jr h0 h1 h2 g0 I J f;have S:=kA (a:=u1-u0) (b:=y2-y0) (c:=y1-y0) (d:=y-u0) ⟨by omega,by omega,by omega,by omega⟩;have T:=kA (a:=u1-u0) (b:=x2-x0) (c:=x1-x0) (d:=y-u0) ⟨by omega,by omega,by omega,by omega⟩;exact⟨⟨_,K,by omega⟩,⟨_,L,by omega⟩⟩
theorem Qu {W:Int}{q:Rat}{N:Int}(h:q*(W:Rat)=N)(a:N.natAbs<=400000000):Wl (2*W) q:=⟨2*N,by rw[TF,TF,<- h];grind,by omega⟩
theorem JG {t:Tri}{f:Nat->Rat}{P:Rat->Prop}(h:∀j,P (f j)):∀x∈atT t f,P x.2:=gN (P:=λx=>P x.2) (h 0) (h 1) (h 2)
theorem Mc (n:Nat):kV ((n % 12:Nat):Int) 2*2=(((n % 12:Nat):Int):Rat):=mV dc_
theorem Om (S:Sht)(H:Hts)(B:Bk)(s:Sgt)(i:Nat)(n:SgtR s)(o:B.pts=cI (S.kd % 8) S.a S.b S.h):∀r∈rowsO B (eW S s i) (mj S s) (tK S s) (zK S H s),RowI r:=by
 obtain⟨pts,tris,terr,col,obs⟩:=B;simp only at o;subst o;obtain⟨z,_⟩:=gW (S.kd % 8) (Ts _ dc_) S.a S.b S.h;obtain⟨_,ht⟩:=locK S s n;have A:=kr z.ok (aK ht);obtain⟨W,C,f,D,⟨d,p,K⟩,u⟩:=NZ (pts:=cI (S.kd % 8) S.a S.b S.h) (t:=tK S s) (fs:=fsK (cI (S.kd % 8) S.a S.b S.h).length H) (λj=>vY j) A (λj=>No j) (Dc S s n);have g:∀j,Wl (2*W) (wgt (cI (S.kd % 8) S.a S.b S.h) (tK S s) (mj S s) j):=λj=>by
  obtain⟨N,e,b⟩:=D j;exact Qu e om_
 have l:Wl (2*W) (lM (eW S s i) (zK S H s)):=by
  unfold lM;split
  .rename_i E;rw[Dp S s i E,de (ok1 (ue s.depth))];have hd:=Mc s.depth;have F:zK S H s*((2*W:Int):Rat)=d:=p;refine⟨d-((s.depth % 12:Nat):Int)*W, ?_, ?_⟩
   .simp only[Vc,TF,<- hd];rw[show((d:Int):Rat)=zK S H s*((2*W:Int):Rat) from F.symm];simp only[TF];grind
   have:=jb (a:=((s.depth % 12:Nat):Int)) (b:=W) (M:=11) om_ f;omega
  exact⟨d,p,by omega⟩
 have m:∀sg∈([1, -1]:List Rat),sg=1∨sg=-1:=by simp
 intro r hr;unfold rowsO at hr;split at hr
 .rcases SZ.1 hr with h|h <;> split at h
  .rw[S6.1 h];exact xF (.inl rfl) om_ om_ (JG g) l
  .simp at h
  .rw[S6.1 h];exact xF (.inr rfl) om_ om_ (JG g) l
  simp at h
 rename_i h1;split at hr
 .obtain⟨k,_,h⟩:=List.mem_flatMap.1 hr;obtain⟨sg,c,rfl⟩:=SL.1 h;exact xF (m sg c) om_ om_ (JG g) l
 rename_i h2;have L:=oQ s.n0;have O:=oQ s.n1;have P:=pp s.n2;have v:=vx s.n2;have hd:rN (eW S s i)*(fw s.n2:Int)=((-(s.n0.tmod 5):Int):Rat)/\jz (eW S s i)*(fw s.n2:Int)=((-(s.n1.tmod 5):Int):Rat):=by
  have G:=eB (s.n0.tmod 5) om_;have l1:=eB (s.n1.tmod 5) om_;have l2:=eB (fw s.n2) om_;have Q:((fw s.n2:Int):Rat)≠0:=by exact_mod_cast v
  revert h1 h2;unfold rN jz eW;split
  .intro h1;exact absurd rfl h1
  split
  .intro _ h2;exact absurd rfl h2
  intro _ _;simp only;rw[de (ok1 G),de (ok1 l1),de (ok1 l2),Rat.intCast_neg,Rat.intCast_neg];constructor <;> grind
 have hm:(W*fw s.n2).natAbs<=2880000*4:=jb f om_;have w:W*fw s.n2≠0:=Int.mul_ne_zero C v;have x:∀{q:Rat}{N:Int},q*(W:Rat)=N->N.natAbs<=400000->Wl (W*fw s.n2) q:=fun {q N} e b=>⟨N*fw s.n2,by rw[TF,TF,<- e];grind,by have:=jb b (show(fw s.n2).natAbs<=4 by omega);omega⟩;have I:∀j,Wl (W*fw s.n2) (slf (cI (S.kd % 8) S.a S.b S.h) (tK S s) j).1:=λj=>by
  obtain⟨N,e,b⟩:=(u j).1;exact x e b
 have J:∀j,Wl (W*fw s.n2) (slf (cI (S.kd % 8) S.a S.b S.h) (tK S s) j).2:=λj=>by
  obtain⟨N,e,b⟩:=(u j).2;exact x e b
 have y:∀{q:Rat}{N:Int},q*((fw s.n2:Int):Rat)=N->N.natAbs<=4->Wl (W*fw s.n2) q:=fun {q N} e b=>⟨N*W,by rw[TF,TF,<- e];grind,by have:=jb b f;omega⟩;obtain⟨k,_,h⟩:=List.mem_flatMap.1 hr;rcases SZ.1 h with h|h
 .obtain⟨sg,c,rfl⟩:=SL.1 h;exact xF (m sg c) w om_ (JG I) (y hd.1 om_)
 obtain⟨sg,c,rfl⟩:=SL.1 h;exact xF (m sg c) w om_ (JG J) (y hd.2 om_)
def RX (x:Lay):Prop:=(∃z:Int,x.min=z/\z.natAbs<=1000)/\∀m,x.max=some m->∃z:Int,m=z/\z.natAbs<=1000
theorem BZ {q:Rat}{z:Int}(e:q=z)(h:z.natAbs<=1000):Wl 1 q:=⟨z,by rw[e];show _*(1:Rat)=_;grind,by omega⟩
theorem QA {a:Nat}{u v:Rat}{c:Rat}(f:u=1∨u=-1)(g:v=1∨v=-1)(i:Wl 1 c):RowI ⟨tm n [(a,u),(b,v)],c⟩:=by
 have d:∀q:Rat,q=1∨q=-1->Wl 1 q:=λq h=>by
  rcases h with rfl|rfl
  .exact BZ (z:=1) aq dc_
  exact BZ (z:=-1) aq dc_
 refine⟨1,by decide,by decide,uM (Wl.zero _) (λx e=>?_),i⟩;simp only[SY,TQ,Vf]at e;rcases e with rfl|rfl
 .exact d _ f
 exact d _ g
theorem Kg {p:Nat}{x:Lay}(h:RX x):∀r∈kP s p x i k,RowI r:=by
 let⟨z,a,b⟩:=h.1;intro r hr;unfold kP at hr;rcases SY.1 hr with rfl|hr
 .exact QA (.inr U) (.inl U) (BZ a b).neg
 split at hr
 .cases hr
 rename_i m hm;let⟨z,a,b⟩:=h.2 m hm;rw[S6.1 hr];exact QA (.inl U) (.inr U) (BZ a b)
theorem Ct {s p:Nat}{x:Lay}{i:Nat}(h:RX x):∀k,∀r∈ci s p x i k,RowI r
|0,r,hr=>by cases hr
|k+1,r,hr=>by
  rcases SZ.1 hr with h1|h1
  .exact Ct h k r h1
  exact Kg h r h1
theorem Cp {s p:Nat}{a:List Lay}(h:∀x∈a,RX x):∀n,∀r∈bR s p a n,RowI r
|0,r,hr=>by cases hr
|n+1,r,hr=>by
  rcases SZ.1 hr with h1|h1
  .exact Cp h n r h1
  refine Ct ?_ _ r h1;rw[al];cases b:a[n+1]? with
 |none=>exact⟨⟨0,rfl,by decide⟩,λm hm=>by cases hm⟩
 |some x=>exact h x (aK b)
theorem SC:∀x∈colK,RX x:=by
 intro x a;simp only[colK,SY,TQ,Vf]at a;rcases a with rfl|rfl|rfl
 .exact⟨⟨0,U,by decide⟩,λm hm=>by cases hm⟩
 .exact⟨⟨0,U,by decide⟩,λm hm=>by cases hm;exact⟨5,U,by decide⟩⟩
 exact⟨⟨1,U,by decide⟩,λm hm=>by cases hm⟩
theorem FA (h:FeasO p t u):∃(row:Int)(a:Bool),u=.tuple #[i_ row,.bool a]/\(a=true->t.Feas p.n) /\
  (a=false->∃r:Nat,row=r/\r<t.basic.length/\p.n<=t.bas r/\(t.line r).c<0/\∀s,s<t.others.length->p.n<=t.oth s->(t.line r).g s<=0):=by
 cases h with
|yes h=>exact⟨0,true,rfl,λ_=>h,λh=>by cases h⟩
|no r h1 h2 h3 h4=>exact⟨r,false,rfl,λh=>(by cases h),λ_=>⟨r,rfl,h1,h2,h3,h4⟩⟩
theorem HZ (h:MinO p t u):∃(b:Int)(a:Bool),u=.tuple #[i_ b,.bool a]/\(a=true->Lp.RelW p.n t/\∀s,s<t.others.length->p.n<=t.oth s->0<=t.worth.g s) /\
  (a=false->∃s:Nat,b=s/\s<t.others.length/\lL t s*t.worth.g s<0/\(∀i,i<t.basic.length->p.n<=t.bas i->0<=lL t s*(t.line i).g s)/\(p.n<=t.oth s->0<=lL t s)):=by
 cases h with
|yes h1 h2=>exact⟨0,true,rfl,λ_=>⟨h1,h2⟩,λh=>by cases h⟩
|no s h1 h2 h3 h4=>exact⟨s,false,rfl,λh=>(by cases h),λ_=>⟨s,rfl,h1,h2,h3,h4⟩⟩
inductive SolO (p:Lp.Sys) (cc:Nat->Rat) (D:Mem):Value->Prop where
|opt (val:Rat) (pt du:Nat->Rat) (vp vd:Value):Lp.OptR p cc 20 val pt du->Sl D 1 vp (((List.range p.n).map pt).map aP)->Sl D 1 vd (((List.range p.m).map du).map aP)->SolO p cc D (.agg ⟨[.int .i64 1,ag (qtx val),vp,vd,.slice none 0 0]⟩)
|inf (du:Nat->Rat) (vd:Value):Lp.InfR p 20 du->Sl D 1 vd (((List.range p.m).map du).map aP)->SolO p cc D (.agg ⟨[.int .i64 2,ag [],.slice none 0 0,vd,.slice none 0 0]⟩)
|unb (pt ra:Nat->Rat) (vp vr:Value):Lp.UnbR p cc 20 pt ra->Sl D 1 vp (((List.range p.n).map pt).map aP)->Sl D 1 vr (((List.range p.n).map ra).map aP)->SolO p cc D (.agg ⟨[.int .i64 3,ag [],vp,.slice none 0 0,vr]⟩)
theorem KP :lL t s=1∨lL t s=-1:=by unfold lL;split <;> simp
theorem CH (C:Mem)(x:Tabs C)(n:Nat)(V F:Value)(k:List (List Rat × Rat))(l:List Rat)(H:RowsT C V (k.map dw))(ho:Sl C 1 F (l.map aP))(X:RowsQ n k)(Y:n<=1000)(ai:l.length=n)(f:Lp.Lim (bQ n k) (λj=>l.getD j 0) 20) :
  Pur cx.P 74 [.agg ⟨[i_ n,V,F]⟩] C λu D=>SolO (bQ n k) (λj=>l.getD j 0) D u:=by
 have aS:=mx_
 have hm:=X.m;have aj:=H;let⟨vs,ak,_,al⟩:=aj;obtain⟨Ar,cr,rfl,_⟩:=id al;rw[jS ak,ar]at H⊢;let⟨p,hp⟩:∃p,bQ n k=p:=⟨_,rfl⟩;let⟨cc,an⟩:∃cc:Nat->Rat,(λj=>l.getD j 0)=cc:=⟨_,rfl⟩;have ao:p.n=n:=by rw[<- hp];rfl
 have ap:p.m=k.length:=by rw[<- hp];rfl
 have z:=λ(D:Mem)(I:C.le D)=>K1 D (x.mono I) n (.slice Ar k.length cr) F k l (H.mono I) (ho.mono I) X Y ai;rw[hp,an]at f z⊢;rw[<- ao]at z Y⊢;rw[<- ap]at z⊢;refine Wy func74 57 U3 λw0=>Wu λR a=>WH U6 λb1=>WI U5 λb2=>Ww [1,2] a U<|G.freeze 1 U λ_ _ J=>WQ [(1,3)] U λR a=>Ws (bkT J 3) U8<|D.call (z _ mup) U (.inr dc_) U6 (SQ _) fl_ (λv9 Z L9 _ aq=>?_);obtain⟨b,wB,wL,wO,wW,wF,rfl,rfl⟩:=aq;refine C6 1 [1,2,3] a U<|WQ [(1,3)] U λR a=>Wt U6<|D.call (EX _ x.m_ p cc b _ wB wL wO wW wF Lp.openT_inv U f om_ om_) U (.inr dc_) U6 (SQ _) fl_ λaT _ aU _ au=>Ww [1,2,3] a U ?_;clear a R;obtain⟨-,t1,av,aw,ax,rfl⟩:=au;refine WQ [(1,3)] U λR a=>Wt U6<|D.call (Bb _ x.m_ p cc b t1 wB wL wO wW av aw ax f om_ om_) U (.inr dc_) U6 (SQ _) fl_ (λaV _ aW _ ay=>?_);obtain⟨t,aa,w,ab,hF,rfl⟩:=ay;obtain⟨row,is,rfl,az,aA⟩:=FA hF;refine C6 5 [1,2,3,4,5] a U<|U0 2 [1,2,3,4,18] U<|G.cd (λK=>?_) λK=>?_
 .have L:is=false:=by simpa using K
  obtain⟨r,rfl,M,ac,aB,aC⟩:=aA L;refine XJ (fq b p.n t wB wL wO wW aa) (gE w.tab.ok) (λC5 _ y=>?_);have h:=fk w.tab.ok y;refine U1 3 U λR a=>Ws (bkT J 1) U8<|Wt U6<|WT (KO _ p b r t wB wL wO wW _ h.m_ w.tab om_ M ac (λq=>(w.dualQ f dc_ M q).le dc_)) U7 fl_ (λaX _ _ aD=>?_);obtain⟨g,rfl,hg⟩:=aD;refine WL [i_ 2,ag [],.slice none 0 0,s_ g p.m p.m,.slice none 0 0] U8<|WB (j:=0) U12<|Ww [2] a U<|WE (Xi ah U4 ?_);exact⟨U,.inf _ _ (w.inf f dc_ ab M ac aB aC) hg.m_⟩
 have L:is=true:=by simpa using K
 have aE:=az L;refine WQ [(1,3)] U λR a=>Wt U6<|D.call (AG _ x.m_ p cc b t wB wL wO wW aa w ab aE f om_ om_) U (.inr dc_) U6 (SQ _) fl_ (λaY _ aZ _ aF=>?_);obtain⟨d,ad,e,ae,hM,rfl⟩:=aF;obtain⟨a0,af,rfl,aG,aH⟩:=HZ hM;refine C6 5 [1,2,3,6,7] a U<|U0 2 [1,2,3,6,32] U<|G.cd (λN=>?_) λN=>?_
 .have O:af=false:=by simpa using N
  obtain⟨s,rfl,A,aI,aJ,aK⟩:=aH O;refine XJ (fq b p.n d wB wL wO wW ad) (gE e.tab.ok) (λC5 _ y=>?_);have h:=fk e.tab.ok y;refine WQ [(1,3),(4,3)] U λR a=>Wt U6<|D.call (Dg _ b p.n (p.n+p.m) d wB wL wO wW _ h.m_ e.tab.ok om_) U (.inr dc_) U6 (SQ _) fl_ (λa1 _ a2 _ aL=>?_);obtain⟨Q,rfl,rfl⟩:=aL;refine Wv 2 U<|D.call (Q2 _ x.m_ p b s d wB wL wO wW _ h.m_ e.tab A om_ (λi hi=>e.fac f hi A) (e.wfac f A)) U (.inr dc_) U6 (SQ _) fl_ (λa3 _ a4 _ aM=>?_);obtain⟨B,rfl,rfl⟩:=aM;refine WL [i_ 3,ag [],s_ Q p.n p.n,.slice none 0 0,s_ B p.n p.n] U8<|WB (j:=2) U12<|Ww [2] a U<|G.freezeArr 1 (((List.range p.n).map λv=>lL d s*d.dir s v).map aP) U U bN am λC8 _ S=>G.freezeArr 1 (((List.range p.n).map d.sol).map aP) U U bN am λZ _ T=>WE (Xi ah U4 ?_);exact⟨U,.unb _ _ _ _ (e.unb f dc_ ae A KP aI aJ aK) T S.m_⟩
 have O:af=true:=by simpa using N
 let⟨aN,aO⟩:=aG O;refine XJ (fq b p.n d wB wL wO wW ad) (gE e.tab.ok) (λC5 _ y=>?_);have h:=fk e.tab.ok y;refine WM [0,1,2,3,4,5,7,8,9,10,11,12,13,14,6,15,16,17,18] [(6,3),(15,3),(4,0),(11,0),(13,0)] U kr_ λR E a=>Wv 4 U<|W9 (λ_=>((PtrTo.blockT h.o _ 1).mono E)) U9<|Wv 5 U<|W9 (λ_=>((PtrTo.blockT h.o _ 2).mono E)) U9<|Wt U6<|W9 (λ_=>((bkT J 1).mono E)) U9<|Wt U6<|D.call (Dg _ b p.n (p.n+p.m) d wB wL wO wW _ h.m_ e.tab.ok om_) U (.inr dc_) U6 (SQ _) fl_ λa5 _ a6 _ aQ=>D.call (I1 _ p b d d.worth wB wL wO wW wW _ h.m_ e.tab om_ h.W.m_ e.tab.ok.wl) U (.inr dc_) U6 (SQ _) fl_ (λa7 _ a8 _ aR=>?_);obtain⟨B,rfl,rfl⟩:=aR;obtain⟨Q,rfl,rfl⟩:=aQ;refine WL [s_ B p.m p.m] U8<|WL [i_ 1,ag (qtx d.worth.c),s_ Q p.n p.n,s_ B p.m p.m,.slice none 0 0] U8<|WB (j:=2) U12<|Ww [2] a U<|G.freezeArr 1 (((List.range p.m).map (Lp.dualV p d d.worth)).map aP) U U bN am λC8 _ S=>G.freezeArr 1 (((List.range p.n).map d.sol).map aP) U U bN am λZ _ T=>WE (Xi ah U4 ?_);exact⟨U,.opt _ _ _ _ _ (e.opt f dc_ ae aN aO) T S.m_⟩
theorem Pq (C:Mem)(n:Nat)(j:n<=1000000):Jog.Fn cx.P 212 [.slice none 0 0,i_ n] C [] λu _ h=>∃A n2 c,u=.slice A n2 c/\h=[.arr u 32 1 0 []]:=by
 have k:=mx_
 refine Wy func212 27 U3 λw0=>U0 1 [0,1] U<|U0 2 [0,1,6] U<|G.cd (λd=>?_) λd=>?_
 .simp at d;omega
 refine U1 2 U λR a=>XK U9<|Wv 2 U<|Wz _ U U6<|Wz _ U U6<|C6 1 [0,1] a U<|U0 2 [0,1,16] U<|G.cd (λf=>?_) λf=>?_
 .have i:0<n:=by
   simp at f;omega
  refine U1 2 U λR a=>XK U9<|Xd 0 0 0 U12 (λ_=>⟨.inl ⟨U,U⟩,.inr ⟨_,U⟩,.inl ⟨U,U⟩,SH _,SH _,SH _⟩) U2<|Wt U6<|Yc (m:=n) U12 i (by show n*16<=_;omega) y_ fl_ λb g l=>Wv 2 U<|Xd 0 0 g U12 (λ_=>⟨.inl ⟨U,U⟩,.inr ⟨_,U⟩,.inl ⟨U,U⟩,SH _,SM _,SH _⟩) U2<|C6 1 [0] a U<|U0 2 [4] U<|Yp 0 0 U (SM _)<|WE (W6 U U ?_);refine⟨_,_,_,U, ?_⟩;have e:(if g=0 then some (⟨b,0,none⟩:Addr) else (some (⟨b,0,none⟩:Addr)).map (·.add (0*1)))=some ⟨b,0,none⟩:=by
   split
   .rfl
   simp[Addr.add_lit]
  rw[e];simp
 refine U0 2 [4] U<|G.nilArr 32 1<|WE (W6 U U ?_);exact⟨none,0,0,U,U⟩
def gR (xs:List (Value × List Rat)):List Rat:=(xs.map (·.2)).flatten
theorem nk {a:List (Value × List Rat)}{x:Value × List Rat}(h:a[i]?=some x):gR (a.take (i+1))=gR (a.take i)++x.2:=by
 unfold gR;rw[S9,h];simp
theorem wi (a:List (Value × List Rat))(i:Nat):(gR (a.take i)).length<=(gR a).length:=by
 have h:gR a=gR (a.take i)++gR (a.drop i):=by
  unfold gR;rw[<- Ta,<- Tm,TE]
 rw[h,SP];omega
def yP (x:Value × List Rat):List Value:=[x.1]
theorem Jm (C:Mem)(v:Value)(a:List (Value × List Rat))(h:Sl C 1 v (a.map yP))(B:∀x∈a,Sl C 1 x.1 (x.2.map aP))(K:(gR a).length<=1000000) :
  Jog.Fn cx.P 144 [v] C [] λu _ e=>∃A n2 c,u=.slice A n2 c/\e=[.arr u 32 1 (gR a).length ((gR a).map aP).flatten]:=by
 obtain⟨p,c0,rfl,L,Z,_⟩:=id h;have aa:=mx_
 simp only[ar]at h L⊢;refine Wy func144 36 U3 λw0=>U0 1 [0] U<|U0 1 [0,3] U<|U0 3 [0,3,9,10,11] U<|G.loop (λfr M e q=>∃(i:Nat)(z:Int),(i<=a.length/\z=(gR (a.take i)).length)/\fr=[(0,[],.slice p a.length c0),(3,[],i_ z),(9,[],.slice p a.length c0),(10,[],i_ a.length),(11,[],i_ i)]/\e=[]/\q=a.length-i) (hn_ [0,3,9,10,11] U) ⟨0,0,⟨SM _,U⟩,U,U,U⟩ (λfr ab ac m _ r=>?_);obtain⟨i,z,⟨hi,s⟩,rfl,rfl,rfl⟩:=r;refine U0 1 [0,3,9,10,11,12] U<|G.cd (λt=>?_) λt=>?_
 .have f:i<a.length:=by
   have:=aT t;omega
  let⟨x,d⟩:∃x,a[i]?=some x:=⟨a[i],aj f⟩;have g:=B x (aK d);let⟨w,l⟩:=x;simp only at g;obtain⟨Ax,ad,rfl,N,ae,_⟩:=id g;simp only[ar]at g N d;have k:=nk d;have E:=wi a (i+1);have O:(gR (a.take (i+1))).length=(gR (a.take i)).length+l.length:=by rw[k,SP]
  refine Wu λR b=>WG h.m_ U10 om_ (show(a.map yP)[i]?=some [_] from dL d) fl_ λaf Q=>Ws Q U8<|C6 1 [0,3,5,9,10,11] b U<|U1 3 U λR b=>Wz _ U U6<|C6 1 [0,3,9,10,11] b U<|U0 2 [0,3,9,10,11,20] U<|G.cd (λF=>?_) λF=>?_
  .exfalso;have ah:=aT F;omega
  refine Wu λR b=>Wz _ U U6<|C6 1 [0,3,9,10,11] b U<|WF (m':=a.length-(i+1)) om_ mup (hn_ [0,3,9,10,11] U) ⟨i+1,_,⟨by omega,by rw[s];omega⟩,U,U,U⟩
 have f:i=a.length:=by
  have:=SJ t;omega
 rw[f,SU]at s;subst s;refine WQ [(1,3)] U λR b=>Wt U6<|D.call (Pq _ (gR a).length K) U (.inr dc_) U6 (SQ _) fl_ (λai _ ak _ S=>?_);obtain⟨T,V,W,rfl,rfl⟩:=S;refine C6 1 [0,6] b U<|U0 3 [6,25,26,27] U<|G.loop (λfr M e q=>∃(i:Nat)(n:Option Addr)(n1 o:Nat),(i<=a.length)/\fr=[(6,[],.slice n n1 o),(25,[],.slice p a.length c0),(26,[],i_ a.length),(27,[],i_ i)]/\e=[.arr (.slice n n1 o) 32 1 (gR (a.take i)).length ((gR (a.take i)).map aP).flatten]/\q=a.length-i) (hn_ [6,25,26,27] U) ⟨0,T,V,W,SM _,U,U,U⟩ (λfr al am m E r=>?_);obtain⟨i,n,n1,o,an,rfl,rfl,rfl⟩:=r;refine U0 1 [6,25,26,27,28] U<|G.cd (λy=>?_) λy=>?_
 .have f:i<a.length:=by
   have:=aT y;omega
  let⟨x,d⟩:∃x,a[i]?=some x:=⟨a[i],aj f⟩;have g:=B x (aK d);have k:=nk d;have E:=wi a (i+1);have O:(gR (a.take (i+1))).length=(gR (a.take i)).length+x.2.length:=by rw[k,SP]
  refine Wu λR b=>WG h.m_ U10 om_ (show(a.map yP)[i]?=some [x.1] from dL d) fl_ λao X=>Ws X U8<|C6 1 [6,8,25,26,27] b U<|U1 2 U λR b=>W0 (j:=0) U11 g.m_ (by simp[aP,kS,ag]) (by simp only[ar,maxLen];omega) (by show((gR (a.take i)).length+(x.2.map aP).length)*16<=_;rw[ar];omega) fl_ λH I J=>C6 1 [6,25,26,27] b U<|Wu λR b=>Wz _ U U6<|C6 1 [6,25,26,27] b U<|WK (L':=[.arr (.slice H I J) 32 1 (gR (a.take (i+1))).length ((gR (a.take (i+1))).map aP).flatten]) (by rw[k,Tm,Ta,SP,ar];rfl)<|WF (m':=a.length-(i+1)) om_ mup (hn_ [6,25,26,27] U) ⟨i+1,H,I,J,om_,U,U,U⟩
 have Y:i=a.length:=by
  have:=SJ y;omega
 refine U0 2 [2] U<|WE (W6 U U ?_);exact⟨n,n1,o,U,by rw[Y,SU]⟩
theorem CL (C:Mem)(N:Tabs C)(o:Int)(y:Str)(f g i:Value)(a b c:List Rat)(z:Sl C 1 f (a.map aP))(A:Sl C 1 g (b.map aP))(B:Sl C 1 i (c.map aP))(O:∀x∈a,QB 20 x)(Q:∀x∈b,QB 20 x)(S:∀x∈c,QB 20 x)(ae:a.length<=1000)(af:b.length<=1000)(ah:c.length<=1000)
  (T:o=1->∃q,y=qtx q/\QB 20 q):Gives cx.P 75 [.agg ⟨[i_ o,ag y,f,g,i]⟩] C (.bool true):=by
 have E:gR [(f,a),(g,b),(i,c)]=a++(b++(c++[])):=rfl;have F:(gR [(f,a),(g,b),(i,c)]).length<=1000000:=by rw[E];simp;omega
 let⟨all,H⟩:∃all,gR [(f,a),(g,b),(i,c)]=all:=⟨_,rfl⟩;have I:∀x∈all,QB 20 x:=λx d=>by
  rw[<- H,E]at d;simp only[SZ,TQ,Vf]at d;rcases d with h|h|h
  .exact O x h
  .exact Q x h
  exact S x h
 have V:∀l:List Rat,(∀x∈l,QB 20 x)->((l.map qtx).any λs=>!aS s)=false:=λl W=>List.any_eq_false.2 λs hs=>by
  obtain⟨x,d,rfl⟩:=SL.1 hs;rw[bA ((W x d).le dc_)];decide
 obtain⟨p,r,rfl,_⟩:=id z;obtain⟨t,u,rfl,_⟩:=id A;obtain⟨v,w,rfl,_⟩:=id B;have X:∀D:Mem,C.le D->∀x∈[(Value.slice p (a.map aP).length r,a),(Value.slice t (b.map aP).length u,b),(Value.slice v (c.map aP).length w,c)],Sl D 1 x.1 (x.2.map aP):=λD k x d=>by
  simp only[SY,TQ,Vf]at d;rcases d with h|h|h
  .rw[h];exact z.mono k
  .rw[h];exact A.mono k
  rw[h];exact B.mono k
 refine Wy func75 24 U3 λw0=>Wu λR e=>WH U6 λb1=>C6 1 [1] e U<|G.freeze 0 U λ_ _ m=>WQ [(8,3)] U λR e=>Wt U6<|Ws (bkT m 1) U8<|Wv 2 U<|Ws (bkT m 1) U8<|Wt U6<|Ws (bkT m 1) U8<|WP [[.slice p (a.map aP).length r],[.slice t (b.map aP).length u],[.slice v (c.map aP).length w]] U12 λai _ _ Y=>D.call (Jm _ _ [(.slice p (a.map aP).length r,a),(.slice t (b.map aP).length u,b),(.slice v (c.map aP).length w,c)] Y.m_ (X _ mup) F) U (.inr dc_) U6 (SQ _) fl_ (λaj _ ak _ Z=>?_);obtain⟨A3,n3,c3,rfl,rfl⟩:=Z;rw[H]at F⊢;refine C6 1 [1,3] e U<|U1 1 U λR e=>Ws (bkT m 1) U8<|C6 1 [1,3,15] e U<|G.cut (λfr C' J μ=>∃(n:Value)(l:List Rat),(∀x∈l,QB 20 x)/\fr=[(3,[],n)]/\J=[.arr n 32 1 l.length (l.map aP).flatten]) ?_ (λfr _ al μ _ hI=>?_)
 .refine G.cd (λK=>?_) λK=>?_
  .have aa:o=1:=by simpa using K
   obtain⟨q,rfl,ab⟩:=T aa;refine U1 2 U λR e=>Ws (bkT m 1) U8<|WP [[ag (qtx q)]] U12 λan _ _ ac=>D.append (j:=0) U11 ac U ay (by show(all.length+1)*16<=_;omega) fl_ λL=>C6 1 [3] e U<|WK (L':=[.arr L 32 1 (all++[q]).length ((all++[q]).map aP).flatten]) (by rw[Tm,Ta,SP];rfl)<|WJ 0 mup (hn_ [3] U) ⟨L,all++[q],λx d=>by
    rcases SZ.1 d with h|h
    .exact I x h
    rw[S6.1 h];exact ab,rfl,rfl⟩
  refine WJ 0 l_ (hn_ [3] U) ⟨_,all,I,U,U⟩
 obtain⟨n ,l,M,rfl,rfl⟩:=hI;refine G.freezeArr 0 (l.map aP) U U bN am λ_ _ ad=>U1 1 U λR e=>WC (Ay _ n (l.map qtx) 102 [] (λs=>!aS s) (by rw[<- fy];exact ad.mono mup) kr_ (λs hs D k=>by
  obtain⟨x,d,rfl⟩:=SL.1 hs;exact mi D (N.mono (Mem.le.trans mup k)) (qtx x) (SV (aV (M x d) dc_) dc_))) U7 fl_ ?_
 exact C6 2 [2] e U<|Wx U2<|⟨by rw[V l M];rfl,U⟩
theorem SolO.mono {p:Lp.Sys}{d:Nat->Rat}{D E:Mem}{u:Value}(h:SolO p d D u)(a:D.le E):SolO p d E u:=by
 cases h with
|opt val pt du b c e h1 h2=>exact .opt val pt du b c e (h1.mono a) (h2.mono a)
|inf du c f h1=>exact .inf du c f (h1.mono a)
|unb pt ra b g i h1 h2=>exact .unb pt ra b g i (h1.mono a) (h2.mono a)
theorem SolO.m_ {D E:Mem}(h:SolO p cc D u)(a:D.le E:=by exact mup):SolO p cc E u:=SolO.mono h a
theorem xn {D:Mem}(h:SolO p cc D u):∃(kd:Int)(val:Str)(e g i:Value)(a b c:List Rat),u=.agg ⟨[i_ kd,ag val,e,g,i]⟩/\Sl D 1 e (a.map aP)/\Sl D 1 g (b.map aP)/\Sl D 1 i (c.map aP) /\
  (∀x∈a,QB 20 x)/\(∀x∈b,QB 20 x)/\(∀x∈c,QB 20 x)/\a.length<=p.n/\b.length<=p.m/\c.length<=p.n/\(kd=1->∃q,val=qtx q/\QB 20 q):=by
 have hr:∀(n:Nat)(f:Nat->Rat),(∀j,QB 20 (f j))->∀x∈(List.range n).map f,QB 20 x:=λn f o x d=>by
  obtain⟨j,_,rfl⟩:=SL.1 d;exact o j
 cases h with
|opt val pt du e g k h1 h2=>exact⟨1,qtx val,e,g,.slice none 0 0,_,_,[],rfl,h1,h2,Sl.nil _ _,hr _ _ k.qp,hr _ _ k.qd,λx d=>(by cases d),by simp,by simp,SM _,λ_=>⟨val,rfl,k.qv⟩⟩
|inf du g r h1=>exact⟨2,[],.slice none 0 0,g,.slice none 0 0,[],_,[],rfl,Sl.nil _ _,h1,Sl.nil _ _,λx d=>(by cases d),hr _ _ r.qd,λx d=>(by cases d),SM _,by simp,SM _,λh=>absurd h dc_⟩
|unb pt ra e i l h1 h2=>exact⟨3,[],e,.slice none 0 0,i,_,[],_,rfl,h1,Sl.nil _ _,h2,hr _ _ l.qp,λx d=>(by cases d),hr _ _ l.qr,by simp,SM _,by simp,λh=>absurd h dc_⟩
theorem ow {l:List Rat}(h:∀x∈l,QB 22 x):(l.map qtx).all aS=true:=S3.2 λs hs=>by
 obtain⟨x,a,rfl⟩:=SL.1 hs;exact bA (h x a)
theorem qJ {n:Nat}:∀{rs:List (List Rat × Rat)},(∀r∈rs,r.1.length=n)->(∀r∈rs,(∀x∈r.1,QB 22 x)/\QB 22 r.2)->uL n (rs.map dw)=0
|[],_,_=>rfl
|r::rs,b,a=>by
  have e:uL n ((r::rs).map dw)=if Hd n (dw r)≠0 then Hd n (dw r) else uL n (rs.map dw):=rfl;have h0:Hd n (dw r)=0:=Hc.2 ⟨fJ.2 ⟨by show((r.1.map qtx).length:Int)=n;rw[ar,b r SK],ow (a r SK).1⟩,bA (a r SK).2⟩;rw[e,aF λh=>h h0];exact qJ (λr hr=>b r (SX _ hr)) λr hr=>a r (SX _ hr)
theorem ou (e:n<=60)(f:rs.length<=300)(a:∀r∈rs,r.1.length=n)(b:∀r∈rs,(∀x∈r.1,QB 22 x)/\QB 22 r.2)(c:ob.length=n)(d:∀x∈ob,QB 22 x):D9 n (rs.map dw) (ob.map qtx)=0:=by
 unfold D9;rw[aF om_,aF (by rw[ar];omega),aF λh=>h (fJ.2 ⟨by rw[ar,c],ow d⟩)];exact qJ a b
theorem HB (C:Mem)(o:Tabs C)(n:Nat)(g i:Value)(d:List (List Rat × Rat))(f:List Rat)(k:RowsT C g (d.map dw))(v:Sl C 1 i (f.map aP))(p:RowsQ n d)(w:∀x∈f,QB 22 x)(y:∀r∈d,(∀x∈r.1,QB 22 x)/\QB 22 r.2)(L:n<=60)(z:f.length=n)(M:Lp.Lim (bQ n d) (λj=>f.getD j 0) 20) :
  Pur cx.P 21 [.agg ⟨[i_ n,g,i]⟩] C λu D=>∃r,u=.tuple #[r,i_ 0]/\SolO (bQ n d) (λj=>f.getD j 0) D r:=by
 have Z:=mx_
 have hm:=p.m;have N:D9 n (d.map dw) (f.map qtx)=0:=ou L om_ p.l y z w;have O:∀D:Mem,C.le D->Gives cx.P 73 [.agg ⟨[i_ n,g,i]⟩] D (i_ 0):=λD q=>by
  have h:=ml D (o.mono q) n g i (d.map dw) (f.map qtx) (k.mono q) (by rw[<- fy];exact v.mono q) (λr k=>by
   obtain⟨r,Q,rfl⟩:=SL.1 k;let⟨h1,h2⟩:=y r Q;refine⟨λs hs=>?_,SV (aV h2 dc_) dc_⟩;obtain⟨x,t,rfl⟩:=SL.1 hs;exact SV (aV (h1 x t) dc_) dc_) (λs hs=>by
   obtain⟨x,t,rfl⟩:=SL.1 hs;exact SV (aV (w x t) dc_) dc_)
  rw[N]at h;exact h
 refine Wy func21 19 U3 λw0=>Wu λR e=>WH U6 λb1=>WI U5 λb2=>C6 1 [1,2] e U<|G.freeze 1 U λ_ _ A=>Wu λR e=>Ws (bkT A 3) U8<|WD (O _ mup) U7<|C6 1 [1,2,4] e U<|U0 2 [1,2,4,9] U<|G.cd (λB=>?_) λB=>?_
 .exact absurd B dc_
 refine Wu λR e=>Ws (bkT A 3) U8<|WT (CH _ o.m_ n g i d f k.m_ v.m_ p om_ z M) U7 fl_ (λaa _ _ E=>?_);obtain⟨kd,val,vp,vd,vr,a,b,c,rfl,F,H,I,S,qb,T,V,W,X,Y⟩:=xn E;obtain⟨Ap,cp,rfl,_⟩:=id F;obtain⟨Ad,cd,rfl,_⟩:=id H;obtain⟨Ar,cr,rfl,_⟩:=id I;refine WI U5 λb5=>WB (j:=0) U12<|Ww [2,5] e U<|G.freeze 0 U λ_ _ J=>Wu λR e=>Ws (bkT J 5) U8<|WC (CL _ o.m_ kd val _ _ _ a b c F.m_ H.m_ I.m_ S qb T (SV V (by show n<=_;omega)) (SV W (by show d.length<=_;omega)) (SV X (by show n<=_;omega)) Y) U7 fl_<|C6 1 [2,5,16] e U<|G.cd (λK=>?_) λK=>?_
 .exact absurd K dc_
 refine Wu λR e=>Ws (bkT J 5) U8<|WB (j:=0) U12<|C6 1 [2,3] e U<|WE (XG ah U5 ?_);exact⟨U,_,U,E.mono mup⟩
inductive FeaO (p:Lp.Sys) (D:Mem):Value->Prop where
|yes (pt:Nat->Rat) (vp:Value):p.At pt->Lp.CmD p.n 20 pt->(∀j,QB 20 (pt j))->Sl D 1 vp (((List.range p.n).map pt).map aP)->FeaO p D (.tuple #[vp,.agg ⟨[.slice none 0 0]⟩,.bool true,.int .i64 0])
|no (du:Nat->Rat) (vd:Value):Lp.InfR p 20 du->Sl D 1 vd (((List.range p.m).map du).map aP)->FeaO p D (.tuple #[.slice none 0 0,.agg ⟨[vd]⟩,.bool false,.int .i64 0])
theorem Kp {D:Mem}{c:Int}{g a b f:Value}(h:SolO p cc D (.agg ⟨[i_ c,g,a,b,f]⟩)) :
  (c=2/\∃du,Lp.InfR p 20 du/\Sl D 1 b (((List.range p.m).map du).map aP))∨(c≠2/\∃pt,p.At pt/\Lp.CmD p.n 20 pt/\(∀j,QB 20 (pt j))/\Sl D 1 a (((List.range p.n).map pt).map aP)):=by
 cases h with
|opt w pt du a b d h1 h2=>exact .inr ⟨by decide,pt,d.row,d.cd,d.qp,h1⟩
|inf du b i h1=>exact .inl ⟨rfl,du,i,h1⟩
|unb pt ra a f e h1 h2=>exact .inr ⟨by decide,pt,e.row,e.cd,e.qp,h1⟩
theorem Hi (n j:Nat):(List.replicate n (0:Rat)).getD j 0=0:=by
 rw[al,T4];split <;> rfl
theorem K4 (C:Mem)(t:Tabs C)(n:Nat)(g k:Value)(f:List (List Rat × Rat))(i:List Rat)(o:RowsT C g (f.map dw))(v:Sl C 1 k (i.map aP))(w:RowsQ n f)(A:∀x∈i,QB 22 x)(B:∀r∈f,(∀x∈r.1,QB 22 x)/\QB 22 r.2)(N:n<=60)(O:i.length=n)(Q:Lp.Lim (bQ n f) (λ_=>0) 20) :
  Pur cx.P 43 [.agg ⟨[i_ n,g,k]⟩] C λu D=>FeaO (bQ n f) D u:=by
 have ag:=mx_
 have hm:=w.m;have S:D9 n (f.map dw) (i.map qtx)=0:=ou N om_ w.l B O A;have T:∀D:Mem,C.le D->Gives cx.P 73 [.agg ⟨[i_ n,g,k]⟩] D (i_ 0):=λD y=>by
  have h:=ml D (t.mono y) n g k (f.map dw) (i.map qtx) (o.mono y) (by rw[<- fy];exact v.mono y) (λr o=>by
   obtain⟨r,V,rfl⟩:=SL.1 o;let⟨h1,h2⟩:=B r V;refine⟨λs hs=>?_,SV (aV h2 dc_) dc_⟩;obtain⟨x,z,rfl⟩:=SL.1 hs;exact SV (aV (h1 x z) dc_) dc_) (λs hs=>by
   obtain⟨x,z,rfl⟩:=SL.1 hs;exact SV (aV (A x z) dc_) dc_)
  rw[S]at h;exact h
 have W:Lp.Lim (bQ n f) (λj=>(List.replicate n (0:Rat)).getD j 0) 20:=by
  have e:(λj=>(List.replicate n (0:Rat)).getD j 0)=λ_=>(0:Rat):=funext (Hi n);rw[e];exact Q
 refine Wy func43 32 U3 λw0=>Wu λR d=>WH U6 λb1=>Wt U6<|WI U5 λb3=>C6 2 [1,3] d U<|Wu λR d=>WA af U9<|WD (T _ mup) U7<|C6 1 [1,3,6] d U<|U0 2 [1,3,6,11] U<|G.cd (λE=>?_) λE=>?_
 .exact absurd E dc_
 refine WQ [(2,3)] U λR d=>Wt U6<|WA af U9<|D.call (gY _ n om_) U (.inr dc_) U6 (SQ _) fl_ (λai _ aj _ X=>?_);obtain⟨bz,rfl,rfl⟩:=X;rw[uR];refine Wt U6<|WB (j:=2) U12<|Ww [1,3] d U<|G.freezeArr 1 ((List.replicate n (0:Rat)).map aP) U U bN am λ_ _ Y=>G.freeze 0 U λ_ _ Z=>Wu λR d=>Ws (bkT Z 3) U8<|WT (CH _ t.m_ n g _ f (List.replicate n 0) o.m_ Y.m_ w om_ am W) U7 fl_ (λak _ _ F=>?_);obtain⟨kd,val,vp,vd,vr,a,b,c,rfl,H,I,J,qa,qb,qc,aa,ab,ac,hv⟩:=xn F;have K:=Kp F;obtain⟨Ap,cp,rfl,_⟩:=id H;obtain⟨Ad,cd,rfl,_⟩:=id I;obtain⟨Ar,cr,rfl,_⟩:=id J;refine WI U5 λb7=>WB (j:=0) U12<|Ww [3,7] d U<|G.freeze 0 U λ_ _ p=>Wu λR d=>Ws (bkT p 5) U8<|WC (CL _ t.m_ kd val _ _ _ a b c H.m_ I.m_ J.m_ qa qb qc (SV aa (by show n<=_;omega)) (SV ab (by show f.length<=_;omega)) (SV ac (by show n<=_;omega)) hv) U7 fl_<|C6 1 [3,7,22] d U<|G.cd (λL=>?_) λL=>?_
 .exact absurd L dc_
 refine U1 1 U λR d=>Ws (bkT p 1) U8<|C6 1 [3,7,26] d U<|G.cd (λq=>?_) λq=>?_
 .refine WM [0,1,2,3,4,5] [(1,0)] U kr_ λR M d=>Wt U6<|W9 (λ_=>((bkT p 1).mono M)) U9<|Wt U6<|WB (j:=0) U12<|Wv 2 U<|Ww [2,3,4,5] d U ?_;clear d M R;refine WE (XX ah U7 ?_);refine⟨U, ?_⟩;rcases K with⟨_,du,hi,h1⟩|⟨h,_⟩
  .exact .no du _ hi h1.m_
  exact absurd (by simpa using q) h
 refine U1 1 U λR d=>Ws (bkT p 1) U8<|WL ([.slice none 0 0]) U8<|Wt U6<|WB (j:=0) U12<|C6 2 [2,3,4,5] d U<|WE (XX ah U7 ?_);refine⟨U, ?_⟩;rcases K with⟨h,_⟩|⟨_,pt,v,ad,ae,h1⟩
 .rw[h]at q;cases q
 exact .yes pt _ v ad ae h1.m_
end Go.Proofs.YtfjcldheldflbaaGreatDoor
