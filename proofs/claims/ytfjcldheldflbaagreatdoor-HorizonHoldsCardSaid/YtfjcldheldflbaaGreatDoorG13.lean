/- Laws that the proofs of this seat share, part 13. -/
import Derived.Test.YtfjcldheldflbaaGreatDoorG12
import Derived.Test.YtfjcldheldflbaaGreatDoorShelf
set_option maxHeartbeats 4000000
namespace Go.Proofs.YtfjcldheldflbaaGreatDoor
open Go.Proofs.Tryz
open Go Go.Jog
set_option maxRecDepth 100000
variable {F N b:Nat}{cc:Nat->Rat}{i j k:Nat}{l:Lp.Line}{m n:Nat}{o:Int}{ob:List Rat}{p:Lp.Sys}{q:Nat->Prop}{r:Nat}{rows:List RowQ}{rs:List (List Rat × Rat)}{s:Nat}{t:Lp.Tab}{u:Value}{vs:List Nat}{w wB:Value}{wF:Nat->Value}{wL wO wW wy:Value}
theorem xu {y:Lp.Line}(a:s<l.f.length):kW l.f y.f s (l.f.getD s 0) l.f.length=(Lp.putL l s y).f/\l.c+l.f.getD s 0*y.c=(Lp.putL l s y).c:=by
 have h:=Gz (c:=l.c) (bc:=y.c) (bf:=y.f) a;exact⟨(congrArg Lp.Line.f h).symm,(congrArg Lp.Line.c h).symm⟩
theorem Ka (C:Mem)(k:Tabs C)(b m e i n s:Nat)(w d:Value)(a:List (Rat × Value))(l y:Lp.Line)(o:a.length=m)(p:a[i]?=some (l.c,w))(g:l.f.length=n)(q:y.f.length=n)(r:s<n)(h:QB 50 l.c/\∀ x∈l.f,QB 50 x)(j:QB 50 y.c/\∀ x∈y.f,QB 50 x) :
  Jog.Fn cx.P 262 [.pointer (some ⟨b,i*2,none⟩),i_ s,.agg ⟨[ae (qtx y.c),d]⟩] C [.arr d 32 1 n (y.f.map aQ).flatten,.arr (s_ b m e) 228 2 m (a.map bH).flatten,.arr w 32 1 n (l.f.map aQ).flatten]
   fun u _ t=>u=.tuple #[]/\t=[.arr d 32 1 n (y.f.map aQ).flatten,.arr (s_ b m e) 228 2 m ((a.set i ((Lp.putL l s y).c,w)).map bH).flatten,.arr w 32 1 n ((Lp.putL l s y).f.map aQ).flatten]:=by
 obtain⟨h1,h2⟩:=xu (l:=l) (y:=y) (s:=s) om_;rw[<- h1,<- h2,g];exact Kb C k b m e i n s w d a l.f y.f l.c y.c o p g q r h.1 h.2 j.1 j.2
theorem J8 (C:Mem)(m:Tabs C)(a n s:Nat)(d e g h w b:Value)(l y:Lp.Line)(i:l.f.length=n)(o:y.f.length=n)(p:s<n)(j:QB 50 l.c/\∀ x∈l.f,QB 50 x)(k:QB 50 y.c/\∀ x∈y.f,QB 50 x) :
  Jog.Fn cx.P 262 [.pointer (some ⟨a,4,none⟩),i_ s,.agg ⟨[ae (qtx y.c),b]⟩] C [.arr b 32 1 n (y.f.map aQ).flatten,.obj a (.cells ⟨[d,e,g,h,ae (qtx l.c),w]⟩ 231 (0,0)),.arr w 32 1 n (l.f.map aQ).flatten]
   fun u _ q=>u=.tuple #[]/\q=[.arr b 32 1 n (y.f.map aQ).flatten,.obj a (.cells ⟨[d,e,g,h,ae (qtx (Lp.putL l s y).c),w]⟩ 231 (0,0)),.arr w 32 1 n ((Lp.putL l s y).f.map aQ).flatten]:=by
 obtain⟨h1,h2⟩:=xu (l:=l) (y:=y) (s:=s) om_;rw[<- h1,<- h2,i];exact J9 C m a n s d e g h w b l.f y.f l.c y.c i o p j.1 j.2 k.1 k.2
def byF (l:Lp.Line)(s j:Nat):List Rat:=(List.range l.f.length).map fun q=>if q<j then (Lp.byL l s).g q else 0
theorem lD :(byF l s j).length=l.f.length:=by simp[byF]
theorem Du {q:Nat}(h:q<l.f.length):(byF l s j)[q]?=some (if q<j then (Lp.byL l s).g q else 0):=by
 unfold byF;rw[Rr,RY h];rfl
theorem Lv :List.replicate l.f.length 0=byF l s 0:=by
 refine List.ext_getElem? fun v=>?_;by_cases a:v<l.f.length
 ·rw[Du a,SU,aM a,aF (Nat.not_lt_zero _)]
 rw[Rx ap,Rx (by rw[lD];omega)]
theorem OP (h:j<l.f.length):(byF l s j).set j (-(if j=s then -1 else l.g j) / l.g s)=byF l s (j+1):=by
 refine List.ext_getElem? fun q=>?_;rw[List.getElem?_set,lD];by_cases a:q<l.f.length
 ·rw[Du a,Du a];by_cases e:j=q
  ·subst e;rw[aM rfl,aM a,aM (Nat.lt_succ_self j),Lp.byL_g a];congr 1;split <;> grind
  rw[aF e];by_cases h1:q<j
  ·rw[aM h1,aM om_]
  rw[aF h1,aF om_]
 rw[aF om_,Rx (by rw[lD];omega),Rx (by rw[lD];omega)]
theorem vP :(Lp.byL l s).f.length=l.f.length:=by simp[Lp.byL]
theorem OQ :byF l s l.f.length=(Lp.byL l s).f:=by
 refine List.ext_getElem? fun q=>?_;by_cases a:q<l.f.length
 ·rw[Du a,aM a];unfold Lp.Line.g;rw[am,ai (by rw[vP];exact a)];rfl
 rw[Rx (by rw[lD];omega),Rx (by rw[vP];omega)]
def stL (t:Lp.Tab)(r s i q:Nat):Lp.Line:=if q<i/\q≠r then Lp.putL (t.line q) s (Lp.byL (t.line r) s) else t.line q
def stV (t:Lp.Tab)(wF:Nat->Value)(r s i:Nat):List (Rat × Value):=(List.range t.basic.length).map fun q=>((stL t r s i q).c,wF q)
def stE (t:Lp.Tab)(wF:Nat->Value)(r s i q:Nat):Ent:=.arr (wF q) 32 1 t.others.length ((stL t r s i q).f.map aQ).flatten
theorem ja :(stV t wF r s i).length=t.basic.length:=by simp[stV]
theorem BS {q:Nat}(h:q<t.basic.length):(stV t wF r s i)[q]?=some ((stL t r s i q).c,wF q):=by
 unfold stV;rw[Rr,RY h];rfl
theorem um {q:Nat}:stL t r s 0 q=t.line q:=aF fun h=>Nat.not_lt_zero _ h.1
theorem pK {q:Nat}(h:q≠i):stL t r s (i+1) q=stL t r s i q:=by
 unfold stL;by_cases h1:q<i/\q≠r
 ·rw[aM h1,aM ⟨by omega,h1.2⟩]
 rw[aF h1,aF fun h2=>h1 ⟨by omega,h2.2⟩]
theorem oL (h:i≠r):stL t r s i i=t.line i/\stL t r s (i+1) i=Lp.putL (t.line i) s (Lp.byL (t.line r) s) :=
 ⟨aF fun h2=>Nat.lt_irrefl _ h2.1,aM ⟨Nat.lt_succ_self _,h⟩⟩
theorem BT {q:Nat}:stL t r s (r+1) q=stL t r s r q:=by
 by_cases h:q=r
 ·subst h;unfold stL;rw[aF fun h=>h.2 rfl,aF fun h=>h.2 rfl]
 exact pK h
theorem Nd (b:i<t.basic.length)(h:i≠r):(stV t wF r s i).set i ((Lp.putL (t.line i) s (Lp.byL (t.line r) s)).c,wF i)=stV t wF r s (i+1):=by
 refine List.ext_getElem? fun q=>?_;rw[List.getElem?_set,ja];by_cases a:q<t.basic.length
 ·rw[BS a,BS a];by_cases e:i=q
  ·subst e;rw[aM rfl,aM a,(oL h).2]
  rw[aF e,pK (Ne.symm e)]
 rw[aF om_,Rx (by rw[ja];omega),Rx (by rw[ja];omega)]
theorem JA :stV t wF r s (r+1)=stV t wF r s r:=by
 unfold stV;simp only[BT]
theorem Jz :stV t wF r s 0=cN t wF:=by
 unfold stV cN;simp only[um]
theorem Nf (d:t.Ok N)(f:r<t.basic.length):(stV t wF r s t.basic.length).set r ((Lp.byL (t.line r) s).c,wy)=cN (t.pivot r s) fun q=>if q=r then wy else wF q:=by
 have b:(t.pivot r s).basic.length=t.basic.length:=Sh;refine List.ext_getElem? fun q=>?_;rw[List.getElem?_set,ja];by_cases a:q<t.basic.length
 ·rw[BS a,oO (by rw[b];exact a),Lp.pivot_line (by rw[d.ll];exact a)];by_cases e:r=q
  ·subst e;rw[aM rfl,aM a,aM rfl,aM rfl]
  rw[aF e,aF (Ne.symm e),aF (Ne.symm e)];unfold stL;rw[aM ⟨a,Ne.symm e⟩]
 rw[aF om_,Rx (by rw[ja];omega),Rx (by rw[fM,b];omega)]
theorem range_nd :(List.range m).Nodup:=List.nodup_range
theorem Ng (b:t.Ok N)(c:r<t.basic.length) :
  (.arr wy 32 1 t.others.length ((Lp.byL (t.line r) s).f.map aQ).flatten::((List.range t.basic.length).erase r).map (stE t wF r s t.basic.length)).Perm (((List.range (t.pivot r s).basic.length).map (Md (t.pivot r s) fun q=>if q=r then wy else wF q)).map Lent.ent):=by
 have g:(t.pivot r s).basic.length=t.basic.length:=Sh;have d:(t.pivot r s).others.length=t.others.length:=Sh;rw[g,So];have h0:(Lent.ent ∘ Md (t.pivot r s) fun q=>if q=r then wy else wF q) r=.arr wy 32 1 t.others.length ((Lp.byL (t.line r) s).f.map aQ).flatten:=by
  show Ent.arr (if r=r then wy else wF r) _ 1 (t.pivot r s).others.length _=_;rw[aM rfl,d,Lp.pivot_line (by rw[b.ll];exact c),aM rfl]
 have h1:=mg range_nd (RL.2 c) (Lent.ent ∘ Md (t.pivot r s) fun q=>if q=r then wy else wF q) (stE t wF r s t.basic.length) (fun q h a=>by
  have e:=RL.1 h;show Ent.arr (if q=r then wy else wF q) _ 1 (t.pivot r s).others.length _=_;rw[aF a,d,Lp.pivot_line (by rw[b.ll];exact e),aF a];unfold stE stL;rw[aM ⟨e,a⟩])
 rw[h0]at h1;exact h1.symm
theorem Nc (a:t.Ok N)(d:r<t.basic.length) :
  (([.obj b (.cells ⟨[i_ n,wB,wL,wO,ae (qtx (Lp.putL t.worth s (Lp.byL (t.line r) s)).c),wW]⟩ 231 (0,0)),.arr wB 3 1 t.basic.length ((t.basic.set r (t.oth s)).map aW).flatten,.arr wL 228 2 t.basic.length (((stV t wF r s t.basic.length).set r ((Lp.byL (t.line r) s).c,wy)).map bH).flatten,.arr wO 3 1 t.others.length ((t.others.set s (t.bas r)).map aW).flatten,.arr wW 32 1 t.others.length (((Lp.putL t.worth s (Lp.byL (t.line r) s)).f).map aQ).flatten]:List Ent)++(.arr wy 32 1 t.others.length ((Lp.byL (t.line r) s).f.map aQ).flatten::((List.range t.basic.length).erase r).map (stE t wF r s t.basic.length))).Perm ((fk b n (t.pivot r s) wB wL wO wW fun q=>if q=r then wy else wF q).map Lent.ent):=by
 have e:(t.pivot r s).basic.length=t.basic.length:=Sh;have g:(t.pivot r s).others.length=t.others.length:=Sh;rw[Nf a d];refine(List.Perm.append_left _ (Ng a d)).trans (List.Perm.of_eq ?_);unfold fk;simp only[R6,Lent.ent,e,g];rfl
theorem zP {l:List Nat}(h:i<l.length):l[i]?=some (l.getD i 0):=by
 rw[am,ai h];rfl
theorem bg (r s:Nat):(fk b n t wB wL wO wW wF).map Lent.ent=[.obj b (.cells ⟨[i_ n,wB,wL,wO,ae (qtx t.worth.c),wW]⟩ 231 (0,0)),.arr wB 3 1 t.basic.length ((t.basic).map aW).flatten,.arr wL 228 2 t.basic.length ((cN t wF).map bH).flatten,.arr wO 3 1 t.others.length ((t.others).map aW).flatten,.arr wW 32 1 t.others.length ((t.worth.f).map aQ).flatten]++(List.range t.basic.length).map (stE t wF r s 0):=by
 have e:stE t wF r s 0=Lent.ent ∘ Md t wF:=funext fun q=>by
  unfold stE;rw[um];rfl
 rw[e,<- So];rfl
def LineQ (k:Nat)(l:Lp.Line):Prop:=QB k l.c/\∀ x∈l.f,QB k x
theorem LineQ.le {k m:Nat}{l:Lp.Line}(h:LineQ k l)(a:k<=m):LineQ m l:=⟨h.1.le a,fun x b=>(h.2 x b).le a⟩
theorem LineQ.g {k:Nat}{l:Lp.Line}(h:LineQ k l){j:Nat}(a:j<l.f.length):QB k (l.g j):=by
 unfold Lp.Line.g;rw[am,ai a];exact h.2 _ (Sj _)
theorem Rj (h:LineQ 20 l)(c:s<l.f.length)(a:l.g s≠0):LineQ 40 (Lp.byL l s):=by
 have b:=h.g c;refine⟨jE (eQ h.1) b a,fun x d=>?_⟩;obtain⟨q,e,rfl⟩:=Rs.1 d;have i:=RL.1 e;split
 ·exact jE ⟨by decide,by decide⟩ b a
 exact jE (eQ (h.g i)) b a
theorem uK (C:Mem)(Q:Tabs C)(b n r s N:Nat)(t:Lp.Tab)(S T V d:Value)(a:Nat->Value)(W:t.Ok N)(hm:t.basic.length<=1000000)(aN:t.others.length<=1000000)(B:r<t.basic.length)(X:s<t.others.length)(hk:(t.line r).g s≠0)(hq:∀ i,i<t.basic.length->LineQ 20 (t.line i))(ay:LineQ 20 t.worth) :
  Jog.Fn cx.P 205 [p_ b,i_ r,i_ s] C ((fk b n t S T V d a).map Lent.ent) fun u _ A=>u=.tuple #[]/\∃ az,A=(fk b n (t.pivot r s) S T V d az).map Lent.ent:=by
 have aO:=mx_
 have Y:=im W B;have aA:=W.wl;have J:=hq r B;have ah:s<(t.line r).f.length:=by omega
 have ap:=J.g ah;have aq:=Rj J ah hk;refine Vi func205 123 U3 fun w0=>?_;rw[bg r s];refine Vr (L':=[.obj b (.cells ⟨[i_ n,S,T,V,ae (qtx t.worth.c),d]⟩ 231 (0,0)),.arr S 3 1 t.basic.length ((t.basic).map aW).flatten,.arr T 228 2 t.basic.length ((cN t a).map bH).flatten,.arr V 3 1 t.others.length ((t.others).map aW).flatten,.arr d 32 1 t.others.length ((t.worth.f).map aQ).flatten]++(List.range t.basic.length).map (stE t a r s 0)) U<|WL 1 U om_ (fun o p K=>?_);subst K;refine WL 2 U om_ (fun k l K=>?_);subst K;refine WL 3 U om_ (fun w x K=>?_);subst K;refine G.perm (L':=[.arr (a r) 32 1 t.others.length ((t.line r).f.map aQ).flatten,.obj b (.cells ⟨[i_ n,s_ o t.basic.length p,s_ k t.basic.length l,s_ w t.others.length x,ae (qtx t.worth.c),d]⟩ 231 (0,0)),.arr (s_ o t.basic.length p) 3 1 t.basic.length ((t.basic).map aW).flatten,.arr (s_ k t.basic.length l) 228 2 t.basic.length ((cN t a).map bH).flatten,.arr (s_ w t.others.length x) 3 1 t.others.length ((t.others).map aW).flatten,.arr d 32 1 t.others.length ((t.worth.f).map aQ).flatten]++((List.range t.basic.length).erase r).map (stE t a r s 0)) (by
  have h1:=mg range_nd (RL.2 B) (stE t a r s 0) (stE t a r s 0) (fun _ _ _=>rfl);refine(List.Perm.append_left _ h1).trans ?_;have e:stE t a r s 0 r=.arr (a r) 32 1 t.others.length ((t.line r).f.map aQ).flatten:=by unfold stE;rw[um]
  rw[e]
  (exact pkL [5] rfl)) ?_
 refine G.freezeArr 0 ((t.line r).f.map aQ) U U bS (by simp[Y]) (fun _ _ L=>?_);obtain⟨Z,c3,ar,aB,aP,_⟩:=id L;rw[ar]at L;simp only[au]at L aB;have aC:(cN t a)[r]?=some ((t.line r).c,.slice Z (t.line r).f.length c3):=by rw[oO B,ar,au]
 refine Va 3 U fun R y=>Vj ag U9<|Vc U6<|VD (r*2) U10 w_ U2<|VT (v:=.agg ⟨[ae (qtx (t.line r).c),.slice Z (t.line r).f.length c3]⟩) ac U6 (fun _=>(by rw[oS aC];rfl)) U2<|Vt U5 fun b6=>Vk (j:=0) U12<|Vf [0,1,2,6] y U<|G.freeze 0 U fun _ _ ai=>Va 1 U fun R y=>Vb (bkT ai 1) U8<|Vc U6<|Vq L.m_ U10 om_ (dO ah) fl_ fun aR aD=>Vb aD U8<|C6 1 [0,1,2,6,7] y U<|VB [(5,3)] U fun R y=>Ve 3 U<|Vj ag U9<|Vc U6<|D.call (jh _ t.others.length om_) U (.inr dc_) U6 (Rw _) fl_ (fun aS _ aT _ aE=>?_);obtain⟨z,rfl,rfl⟩:=aE;refine Vu [ae [],s_ z t.others.length t.others.length] U8<|Vt U5 fun E=>Vk (j:=0) U12<|Vf [0,1,2,6,7,8] y U<|Va 1 U fun R y=>Vb (bkT ai 1) U8<|Vm (eK _ (t.line r).c (RD (bd J.1 dc_) dc_)) U7 fl_<|Vc U6<|Vm (ia _ Q.m_ (-(t.line r).c) ((t.line r).g s) 20 dc_ dc_ (eQ J.1) ap hk) U7 fl_<|Ve 4 U<|Vk (j:=0) U12<|Vf [0,1,2,6,7,8] y U<|Va 1 U fun R y=>Vb (bkT ai 1) U8<|C6 2 [0,1,2,7,8,41,42,43] y U<|Vr (L':=[.obj E (.cells ⟨[ae (qtx (Lp.byL (t.line r) s).c),s_ z t.others.length t.others.length]⟩ 228 (0,0)),.arr (s_ z t.others.length t.others.length) 32 1 t.others.length ((byF (t.line r) s 0).map aQ).flatten,.obj b (.cells ⟨[i_ n,s_ o t.basic.length p,s_ k t.basic.length l,s_ w t.others.length x,ae (qtx t.worth.c),d]⟩ 231 (0,0)),.arr (s_ o t.basic.length p) 3 1 t.basic.length ((t.basic).map aW).flatten,.arr (s_ k t.basic.length l) 228 2 t.basic.length ((cN t a).map bH).flatten,.arr (s_ w t.others.length x) 3 1 t.others.length ((t.others).map aW).flatten,.arr d 32 1 t.others.length ((t.worth.f).map aQ).flatten]++((List.range t.basic.length).erase r).map (stE t a r s 0)) (by rw[<- Lv,Y,<- uy];rfl)<|G.loop (fun fr C' A M=>∃ (j:Nat),(j<=(t.line r).f.length)/\fr=[(0,[],p_ b),(1,[],i_ r),(2,[],i_ s),(7,[],ae (qtx ((t.line r).g s))),(8,[],p_ E),(41,[],.slice Z (t.line r).f.length c3),(42,[],i_ (t.line r).f.length),(43,[],i_ j)]/\A=[.obj E (.cells ⟨[ae (qtx (Lp.byL (t.line r) s).c),s_ z t.others.length t.others.length]⟩ 228 (0,0)),.arr (s_ z t.others.length t.others.length) 32 1 t.others.length ((byF (t.line r) s j).map aQ).flatten,.obj b (.cells ⟨[i_ n,s_ o t.basic.length p,s_ k t.basic.length l,s_ w t.others.length x,ae (qtx t.worth.c),d]⟩ 231 (0,0)),.arr (s_ o t.basic.length p) 3 1 t.basic.length ((t.basic).map aW).flatten,.arr (s_ k t.basic.length l) 228 2 t.basic.length ((cN t a).map bH).flatten,.arr (s_ w t.others.length x) 3 1 t.others.length ((t.others).map aW).flatten,.arr d 32 1 t.others.length ((t.worth.f).map aQ).flatten]++((List.range t.basic.length).erase r).map (stE t a r s 0)/\M=(t.line r).f.length-j) (hn_ [0,1,2,7,8,41,42,43] U) ⟨0,Rv _,U,U,U⟩ (fun fr aU aV m _ O=>?_);obtain⟨j,hj,rfl,rfl,rfl⟩:=O;refine U1 1 [0,1,2,7,8,41,42,43,44] U<|G.cd (fun aj=>?_) fun aj=>?_
 ·have I:j<(t.line r).f.length:=by
   have:=QL aj;omega
  have av:QB 20 (if j=s then (-1:Rat) else (t.line r).g j):=by
   split
   ·exact⟨by decide,by decide⟩
   exact J.g I
  refine Va 1 U fun R y=>Vq L.m_ U10 om_ (show((t.line r).f.map aQ)[j]?=some (aQ ((t.line r).g j)) from dO I) fl_ fun aX aG=>Vb aG U8<|C6 2 [0,1,2,7,8,9,10,41,42,43] y U<|U1 3 [0,1,2,7,8,9,10,41,42,43,50] U<|G.cut (fun fr C' A M=>(True)/\fr=[(0,[],p_ b),(1,[],i_ r),(2,[],i_ s),(7,[],ae (qtx ((t.line r).g s))),(8,[],p_ E),(9,[],i_ j),(10,[],ae (qtx (if j=s then (-1:Rat) else (t.line r).g j))),(41,[],.slice Z (t.line r).f.length c3),(42,[],i_ (t.line r).f.length),(43,[],i_ j)]/\A=[.obj E (.cells ⟨[ae (qtx (Lp.byL (t.line r) s).c),s_ z t.others.length t.others.length]⟩ 228 (0,0)),.arr (s_ z t.others.length t.others.length) 32 1 t.others.length ((byF (t.line r) s j).map aQ).flatten,.obj b (.cells ⟨[i_ n,s_ o t.basic.length p,s_ k t.basic.length l,s_ w t.others.length x,ae (qtx t.worth.c),d]⟩ 231 (0,0)),.arr (s_ o t.basic.length p) 3 1 t.basic.length ((t.basic).map aW).flatten,.arr (s_ k t.basic.length l) 228 2 t.basic.length ((cN t a).map bH).flatten,.arr (s_ w t.others.length x) 3 1 t.others.length ((t.others).map aW).flatten,.arr d 32 1 t.others.length ((t.worth.f).map aQ).flatten]++((List.range t.basic.length).erase r).map (stE t a r s 0)) ?_ (fun fr _ aY M _ O=>?_)
  ·refine G.cd (fun ak=>?_) fun ak=>?_
   ·have al:j=s:=by
     have ab:((j:Int) == (s:Int))=true:=ak;have:=eq_of_beq ab;omega
    refine U1 1 [0,1,2,7,8,9,10,41,42,43] U<|Vp 0 l_ (hn_ [0,1,2,7,8,9,10,41,42,43] U) ⟨trivial,by rw[aM al,PV];rfl,U⟩
   have al:¬ j=s:=by
    have ab:((j:Int) == (s:Int))=false:=ak;intro h;rw[h]at ab;simp at ab
   refine Vp 0 l_ (hn_ [0,1,2,7,8,9,10,41,42,43] U) ⟨trivial,by rw[aF al],U⟩
  obtain⟨aZ,rfl,rfl⟩:=O;refine Vv [0,1,2,3,4,5,6,7,8,9,10,11] [(4,1),(6,1)] U kr_ fun R hB y=>Vc U6<|Vj ag U9<|Ve 2 U<|Vx (fun _=>(eK _ (if j=s then (-1:Rat) else (t.line r).g j) (RD (bd av dc_) dc_))) U9<|Vc U6<|Vx (fun _=>(ia _ Q.m_ (-(if j=s then (-1:Rat) else (t.line r).g j)) ((t.line r).g s) 20 dc_ dc_ (eQ av) ap hk)) U9<|Ve 3 U<|VD (j*1) U10 w_ U2<|VG (j:=1) U11 (by show j*1+1<=_;rw[bV bK,lD];omega)<|Vf [0,1,2,7,8,41,42,43] y U<|Vd fun R y=>Vh _ U U6<|C6 1 [0,1,2,7,8,41,42,43] y U<|G.perm (L':=[.obj E (.cells ⟨[ae (qtx (Lp.byL (t.line r) s).c),s_ z t.others.length t.others.length]⟩ 228 (0,0)),.arr (s_ z t.others.length t.others.length) 32 1 t.others.length ((byF (t.line r) s (j+1)).map aQ).flatten,.obj b (.cells ⟨[i_ n,s_ o t.basic.length p,s_ k t.basic.length l,s_ w t.others.length x,ae (qtx t.worth.c),d]⟩ 231 (0,0)),.arr (s_ o t.basic.length p) 3 1 t.basic.length ((t.basic).map aW).flatten,.arr (s_ k t.basic.length l) 228 2 t.basic.length ((cN t a).map bH).flatten,.arr (s_ w t.others.length x) 3 1 t.others.length ((t.others).map aW).flatten,.arr d 32 1 t.others.length ((t.worth.f).map aQ).flatten]++((List.range t.basic.length).erase r).map (stE t a r s 0)) (by rw[<- OP I,<- bM bK _ (by rw[lD];exact I)];exact List.Perm.swap _ _ _)<|Vn (m':=(t.line r).f.length-(j+1)) om_ mup (hn_ [0,1,2,7,8,41,42,43] U) ⟨j+1,om_,U,U,U⟩
 have I:j=(t.line r).f.length:=by
  have:=Rt aj;omega
 rw[I,OQ];refine G.freeze 0 U fun _ _ am=>Va 3 U fun R y=>Vj af U9<|C6 2 [0,1,2,8,67,68] y U<|G.perm (L':=[.arr (s_ z t.others.length t.others.length) 32 1 t.others.length (((Lp.byL (t.line r) s).f).map aQ).flatten,.arr (s_ k t.basic.length l) 228 2 t.basic.length ((stV t a r s 0).map bH).flatten,.obj b (.cells ⟨[i_ n,s_ o t.basic.length p,s_ k t.basic.length l,s_ w t.others.length x,ae (qtx t.worth.c),d]⟩ 231 (0,0)),.arr (s_ o t.basic.length p) 3 1 t.basic.length ((t.basic).map aW).flatten,.arr (s_ w t.others.length x) 3 1 t.others.length ((t.others).map aW).flatten,.arr d 32 1 t.others.length ((t.worth.f).map aQ).flatten]++((List.range t.basic.length).erase r).map (stE t a r s 0)) (by rw[Jz];(exact pkL [0,2] U))<|G.loop (fun fr C' A M=>∃ (i:Nat),(i<=t.basic.length)/\fr=[(0,[],p_ b),(1,[],i_ r),(2,[],i_ s),(8,[],p_ E),(67,[],i_ t.basic.length),(68,[],i_ i)]/\A=[.arr (s_ z t.others.length t.others.length) 32 1 t.others.length (((Lp.byL (t.line r) s).f).map aQ).flatten,.arr (s_ k t.basic.length l) 228 2 t.basic.length ((stV t a r s i).map bH).flatten,.obj b (.cells ⟨[i_ n,s_ o t.basic.length p,s_ k t.basic.length l,s_ w t.others.length x,ae (qtx t.worth.c),d]⟩ 231 (0,0)),.arr (s_ o t.basic.length p) 3 1 t.basic.length ((t.basic).map aW).flatten,.arr (s_ w t.others.length x) 3 1 t.others.length ((t.others).map aW).flatten,.arr d 32 1 t.others.length ((t.worth.f).map aQ).flatten]++((List.range t.basic.length).erase r).map (stE t a r s i)/\M=t.basic.length-i) (hn_ [0,1,2,8,67,68] U) ⟨0,Rv _,U,U,U⟩ (fun fr a0 a1 m _ O=>?_);obtain⟨i,hi,rfl,rfl,rfl⟩:=O;refine U1 1 [0,1,2,8,67,68,69] U<|G.cd (fun an=>?_) fun an=>?_
 ·have F:i<t.basic.length:=by
   have:=QL an;omega
  refine U1 2 [0,1,2,8,11,67,68] U<|U1 3 [0,1,2,8,11,67,68,73] U<|G.cd (fun ao=>?_) fun ao=>?_
  ·have H:i≠r:=by
    have ad:(!((i:Int) == (r:Int)))=true:=ao;intro h;rw[h]at ad;simp at ad
   have aw:i∈(List.range t.basic.length).erase r:=(List.Nodup.mem_erase_iff range_nd).2 ⟨H,RL.2 F⟩;have ax:=mg (range_nd.erase r) aw (stE t a r s i) (stE t a r s (i+1)) (fun q _ aH=>by unfold stE;rw[pK aH]);have he:stE t a r s i i=.arr (a i) 32 1 t.others.length ((t.line i).f.map aQ).flatten:=by unfold stE;rw[(oL H).1]
   have aI:stE t a r s (i+1) i=.arr (a i) 32 1 t.others.length ((Lp.putL (t.line i) s (Lp.byL (t.line r) s)).f.map aQ).flatten:=by unfold stE;rw[(oL H).2]
   have aJ:(stV t a r s i)[i]?=some ((t.line i).c,a i):=by rw[BS F,(oL H).1]
   rw[he]at ax;refine G.perm (L':=[.arr (s_ z t.others.length t.others.length) 32 1 t.others.length (((Lp.byL (t.line r) s).f).map aQ).flatten,.arr (s_ k t.basic.length l) 228 2 t.basic.length ((stV t a r s i).map bH).flatten,.arr (a i) 32 1 t.others.length ((t.line i).f.map aQ).flatten,.obj b (.cells ⟨[i_ n,s_ o t.basic.length p,s_ k t.basic.length l,s_ w t.others.length x,ae (qtx t.worth.c),d]⟩ 231 (0,0)),.arr (s_ o t.basic.length p) 3 1 t.basic.length ((t.basic).map aW).flatten,.arr (s_ w t.others.length x) 3 1 t.others.length ((t.others).map aW).flatten,.arr d 32 1 t.others.length ((t.worth.f).map aQ).flatten]++(((List.range t.basic.length).erase r).erase i).map (stE t a r s (i+1))) ((List.Perm.append_left _ ax).trans (pkL [0,0,4] U))<|Vv [0,1,2,3,4,5,6,7,8] [(8,3)] U kr_ fun R hB y=>Ve 3 U<|Vj aa U9<|Vc U6<|VD (i*2) U10 w_ U2<|Vc U6<|Vb (bkT am 2) U8<|D.call (Ka _ Q.m_ k t.basic.length l i t.others.length s (a i) (s_ z t.others.length t.others.length) (stV t a r s i) (t.line i) (Lp.byL (t.line r) s) ja aJ (im W F) (by rw[vP];exact Y) X ((hq i F).le dc_) (aq.le dc_)) U (.inr dc_) U6 (pkL [0,0,0] U) fl_ fun a2 _ a3 _ aK=>Vf [0,1,2,8,67,68] y U ?_;obtain⟨-,rfl⟩:=aK;refine G.perm (L':=[.arr (s_ z t.others.length t.others.length) 32 1 t.others.length (((Lp.byL (t.line r) s).f).map aQ).flatten,.arr (s_ k t.basic.length l) 228 2 t.basic.length ((stV t a r s (i+1)).map bH).flatten,.obj b (.cells ⟨[i_ n,s_ o t.basic.length p,s_ k t.basic.length l,s_ w t.others.length x,ae (qtx t.worth.c),d]⟩ 231 (0,0)),.arr (s_ o t.basic.length p) 3 1 t.basic.length ((t.basic).map aW).flatten,.arr (s_ w t.others.length x) 3 1 t.others.length ((t.others).map aW).flatten,.arr d 32 1 t.others.length ((t.worth.f).map aQ).flatten]++((List.range t.basic.length).erase r).map (stE t a r s (i+1))) (by
    rw[<- Nd F H];refine List.Perm.trans (l₂:=[.arr (s_ z t.others.length t.others.length) 32 1 t.others.length (((Lp.byL (t.line r) s).f).map aQ).flatten,.arr (s_ k t.basic.length l) 228 2 t.basic.length (((stV t a r s i).set i ((Lp.putL (t.line i) s (Lp.byL (t.line r) s)).c,a i)).map bH).flatten,.obj b (.cells ⟨[i_ n,s_ o t.basic.length p,s_ k t.basic.length l,s_ w t.others.length x,ae (qtx t.worth.c),d]⟩ 231 (0,0)),.arr (s_ o t.basic.length p) 3 1 t.basic.length ((t.basic).map aW).flatten,.arr (s_ w t.others.length x) 3 1 t.others.length ((t.others).map aW).flatten,.arr d 32 1 t.others.length ((t.worth.f).map aQ).flatten]++(.arr (a i) 32 1 t.others.length ((Lp.putL (t.line i) s (Lp.byL (t.line r) s)).f.map aQ).flatten::(((List.range t.basic.length).erase r).erase i).map (stE t a r s (i+1)))) (pkL [0,0,1,1,1,1] U) (List.Perm.append_left _ ?_);rw[<- aI];exact(mg (range_nd.erase r) aw (stE t a r s (i+1)) (stE t a r s (i+1)) (fun _ _ _=>rfl)).symm) ?_
   refine Vd fun R y=>Vh _ U U6<|C6 1 [0,1,2,8,67,68] y U<|Vn (m':=t.basic.length-(i+1)) om_ mup (hn_ [0,1,2,8,67,68] U) ⟨i+1,om_,U,U,U⟩
  have H:i=r:=by
   have ad:(!((i:Int) == (r:Int)))=false:=ao;simp at ad;omega
  refine Vr (L':=[.arr (s_ z t.others.length t.others.length) 32 1 t.others.length (((Lp.byL (t.line r) s).f).map aQ).flatten,.arr (s_ k t.basic.length l) 228 2 t.basic.length ((stV t a r s (i+1)).map bH).flatten,.obj b (.cells ⟨[i_ n,s_ o t.basic.length p,s_ k t.basic.length l,s_ w t.others.length x,ae (qtx t.worth.c),d]⟩ 231 (0,0)),.arr (s_ o t.basic.length p) 3 1 t.basic.length ((t.basic).map aW).flatten,.arr (s_ w t.others.length x) 3 1 t.others.length ((t.others).map aW).flatten,.arr d 32 1 t.others.length ((t.worth.f).map aQ).flatten]++((List.range t.basic.length).erase r).map (stE t a r s (i+1))) (by
   have e:stE t a r s (r+1)=stE t a r s r:=funext fun q=>by unfold stE;rw[BT]
   rw[H,JA,e]) ?_
  refine Vd fun R y=>Vh _ U U6<|C6 1 [0,1,2,8,67,68] y U<|Vn (m':=t.basic.length-(i+1)) om_ mup (hn_ [0,1,2,8,67,68] U) ⟨i+1,om_,U,U,U⟩
 have F:i=t.basic.length:=by
  have:=Rt an;omega
 rw[F];refine G.perm (L':=[.arr (s_ z t.others.length t.others.length) 32 1 t.others.length (((Lp.byL (t.line r) s).f).map aQ).flatten,.obj b (.cells ⟨[i_ n,s_ o t.basic.length p,s_ k t.basic.length l,s_ w t.others.length x,ae (qtx t.worth.c),d]⟩ 231 (0,0)),.arr d 32 1 t.others.length ((t.worth.f).map aQ).flatten,.arr (s_ k t.basic.length l) 228 2 t.basic.length ((stV t a r s t.basic.length).map bH).flatten,.arr (s_ o t.basic.length p) 3 1 t.basic.length ((t.basic).map aW).flatten,.arr (s_ w t.others.length x) 3 1 t.others.length ((t.others).map aW).flatten]++((List.range t.basic.length).erase r).map (stE t a r s t.basic.length)) (pkL [0,1,3,0,0,0] U)<|Vv [0,1,2,3,4,5] [(5,3)] U kr_ fun R hB y=>Ve 4 U<|Vb (bkT am 2) U8<|D.call (J8 _ Q.m_ b t.others.length s (i_ n) (s_ o t.basic.length p) (s_ k t.basic.length l) (s_ w t.others.length x) d (s_ z t.others.length t.others.length) t.worth (Lp.byL (t.line r) s) aA (by rw[vP];exact Y) X (ay.le dc_) (aq.le dc_)) U (.inr dc_) U6 (pkL [0,0,0] U) fl_ fun a4 _ a5 _ aL=>Vf [0,1,2,8] y U ?_;obtain⟨-,rfl⟩:=aL;refine G.perm (L':=[.obj b (.cells ⟨[i_ n,s_ o t.basic.length p,s_ k t.basic.length l,s_ w t.others.length x,ae (qtx (Lp.putL t.worth s (Lp.byL (t.line r) s)).c),d]⟩ 231 (0,0)),.arr (s_ o t.basic.length p) 3 1 t.basic.length ((t.basic).map aW).flatten,.arr (s_ k t.basic.length l) 228 2 t.basic.length ((stV t a r s t.basic.length).map bH).flatten,.arr (s_ w t.others.length x) 3 1 t.others.length ((t.others).map aW).flatten,.arr d 32 1 t.others.length (((Lp.putL t.worth s (Lp.byL (t.line r) s)).f).map aQ).flatten,.arr (s_ z t.others.length t.others.length) 32 1 t.others.length (((Lp.byL (t.line r) s).f).map aQ).flatten]++((List.range t.basic.length).erase r).map (stE t a r s t.basic.length)) (pkL [1,3,2,2,1] U)<|Vv [0,1,2,3,4,5,6,7] [] U kr_ fun R hB y=>Ve 3 U<|Vj ag U9<|Vc U6<|Vb (bkT am 2) U8<|VD (r*2) U10 w_ U2<|VG (j:=2) U11 (by show r*2+2<=_;rw[bV gR,ja];omega)<|Vf [0,1,2] y U<|Vr (L':=[.arr (s_ k t.basic.length l) 228 2 t.basic.length (((stV t a r s t.basic.length).set r ((Lp.byL (t.line r) s).c,s_ z t.others.length t.others.length)).map bH).flatten,.obj b (.cells ⟨[i_ n,s_ o t.basic.length p,s_ k t.basic.length l,s_ w t.others.length x,ae (qtx (Lp.putL t.worth s (Lp.byL (t.line r) s)).c),d]⟩ 231 (0,0)),.arr (s_ o t.basic.length p) 3 1 t.basic.length ((t.basic).map aW).flatten,.arr (s_ w t.others.length x) 3 1 t.others.length ((t.others).map aW).flatten,.arr d 32 1 t.others.length (((Lp.putL t.worth s (Lp.byL (t.line r) s)).f).map aQ).flatten,.arr (s_ z t.others.length t.others.length) 32 1 t.others.length (((Lp.byL (t.line r) s).f).map aQ).flatten]++((List.range t.basic.length).erase r).map (stE t a r s t.basic.length)) (by rw[<- bM gR _ (by rw[ja];exact B)];rfl)<|Vv [0,1,2,3,4,5,6,7,8,9,10,11,12,13,14,15,16,17,18,19,20,21,22,23,24,25,26,27] [] U kr_ fun R hB y=>Ve 3 U<|Vj af U9<|Ve 4 U<|Vj af U9<|Ve 4 U<|Vj af U9<|Vc U6<|VD (s*1) U10 w_ U2<|VT aa U6 (fun _=>(by rw[eh eo (show t.others[s]?=some (t.oth s) from zP X)];rfl)) U2<|Ve 3 U<|Vj af U9<|Vc U6<|VD (r*1) U10 w_ U2<|VT ac U6 (fun _=>(by rw[eh eo (show t.basic[r]?=some (t.bas r) from zP B)];rfl)) U2<|VD (r*1) U10 w_ U2<|VG (j:=2) U11 (by show r*1+1<=_;rw[bV eo];omega)<|VD (s*1) U10 w_ U2<|VG (j:=3) U11 (by show s*1+1<=_;rw[bV eo];omega)<|V9 [] trivial (y _ _ _ U ?_);refine G.perm (L':=(fk b n (t.pivot r s) (s_ o t.basic.length p) (s_ k t.basic.length l) (s_ w t.others.length x) d (fun q=>if q=r then (s_ z t.others.length t.others.length) else a q)).map Lent.ent) (by
  refine List.Perm.trans ?_ (Nc W B);rw[<- bM eo _ B,<- bM eo _ X]
  (exact pkL [3,1,1,0,0,0] rfl)) ?_
 exact Wf U<|⟨U,_,U⟩
theorem uU (h:Lp.Inv p cc t)(b:Lp.Lim p cc 20)(a:i<t.basic.length):LineQ 20 (t.line i):=by
 refine⟨h.con b a,fun x c=>?_⟩;obtain⟨s,hs,rfl⟩:=List.mem_iff_getElem.1 c;have d:=im h.tab.ok a;have h1:=h.fac b a (s:=s) om_;unfold Lp.Line.g at h1;rw[am,ai hs]at h1;exact h1
theorem pq (h:Lp.Inv p cc t)(a:Lp.Lim p cc 20):LineQ 20 t.worth:=by
 refine⟨h.wcon a,fun x b=>?_⟩;obtain⟨s,hs,rfl⟩:=List.mem_iff_getElem.1 b;have c:=h.tab.ok.wl;have h1:=h.wfac a (s:=s) om_;unfold Lp.Line.g at h1;rw[am,ai hs]at h1;exact h1
theorem LineQ.g0 (h:LineQ k l)(a:k<=m)(b:1<=m)(j:Nat):QB m (l.g j):=by
 unfold Lp.Line.g;rw[am];by_cases c:j<l.f.length
 ·rw[ai c];exact(h.2 _ (Sj _)).le a
 rw[Rx om_];exact Lp.qb_zero b
theorem mX {c:Nat->Prop}(h:Lp.LeastR vs q n o)(e:∀ i,i<n->(q i ↔ c i)):Lp.LeastR vs c n o:=by
 cases h with
|none h=>exact .none fun i a b=>h i a ((e i a).2 b)
|some i a b hm=>exact .some i a ((e i a).1 b) fun j d f=>hm j d ((e j d).2 f)
theorem ip (h:Lp.LeastR vs q n o)(a:¬ o<0):∃ i:Nat,o=i/\i<n/\q i/\∀ j,j<n->q j->vs.getD i 0<=vs.getD j 0:=by
 cases h with
|none h=>exact absurd dc_ a
|some i b c hm=>exact⟨i,rfl,b,c,hm⟩
theorem iq (h:Lp.LeastR vs q n o)(a:o<0):∀ i,i<n->¬ q i:=by
 cases h with
|none h=>exact h
|some i b c hm=>omega
section
variable {C:Mem} {a a2 b n N:Nat} {r:Int} {t:Lp.Tab} {wB wL wO wW:Value} {wF:Nat->Value}
theorem BO (c:t.Ok N):∀ x∈.obj a2 [i_ r] 3::fk b n t wB wL wO wW wF,x.wf:=fun x a=>by
 rcases RC.1 a with rfl|a
 ·trivial
 exact gu c x a
theorem Hy (d:t.Ok N)(j:C a=some (.cells ⟨[p_ b]⟩ 221 (0,0)))(k:∀ i,i<t.basic.length->LineQ 20 (t.line i)) :
  Jog.Fn cx.P 206 [wB,.func (.func 207) #[] #[p_ a]] C ((.obj a2 [i_ r] 3::fk b n t wB wL wO wW wF).map Lent.ent)
   fun u _ e=>(∃ o:Int,u=i_ o/\Lp.LeastR t.basic (fun i=>n<=t.bas i/\(t.line i).c<0) t.basic.length o)/\e=(.obj a2 [i_ r] 3::fk b n t wB wL wO wW wF).map Lent.ent:=by
 refine We kr_ _ (BO d) fun l m hs=>?_;have f:=ff d fun x p=>hs x (RB _ p);refine(oT l wB t.basic 207 [p_ a] (fun i=>decide (n<=t.bas i) && decide ((t.line i).c<0)) f.B kr_ fun i g D h =>
  K3 D a b n i N t wB wL wO wW _ (f.mono h) d ((m.trans h) _ _ j) g ((k i g).1.le dc_)).mono ?_
 rintro u D e _ ⟨h1,o,rfl,h2⟩;exact⟨h1,o,U,mX h2 fun i _=>by simp⟩
theorem Hx {r:Nat}(c:t.Ok N)(h:C a=some (.cells ⟨[p_ b]⟩ 221 (0,0)))(j:r<t.basic.length)(k:LineQ 20 (t.line r)) :
  Jog.Fn cx.P 206 [wO,.func (.func 208) #[] #[p_ a,p_ a2]] C ((.obj a2 [i_ r] 3::fk b n t wB wL wO wW wF).map Lent.ent)
   fun u _ e=>(∃ o:Int,u=i_ o/\Lp.LeastR t.others (fun i=>n<=t.oth i/\0<(t.line r).g i) t.others.length o)/\e=(.obj a2 [i_ r] 3::fk b n t wB wL wO wW wF).map Lent.ent:=by
 refine We kr_ _ (BO c) fun l m hs=>?_;have f:=ff c fun x p=>hs x (RB _ p);have h2:=hs _ (Rq ..);refine(oT l wO t.others 208 [p_ a,p_ a2] (fun i=>decide (n<=t.oth i) && decide (0<(t.line r).g i)) f.O kr_ fun i q D d =>
  K2 D a a2 b n i r N t wB wL wO wW _ (f.mono d) c ((m.trans d) _ _ h) (d _ _ h2) j q (k.g0 dc_ dc_ i)).mono ?_
 rintro u D e _ ⟨h1,o,rfl,h2⟩;exact⟨h1,o,U,mX h2 fun i _=>by simp⟩
end
inductive FeasO (p:Lp.Sys) (t:Lp.Tab):Value->Prop where
|yes:t.Feas p.n->FeasO p t (.tuple #[.int .i64 0,.bool true])
|no (r:Nat):r<t.basic.length->p.n<=t.bas r->(t.line r).c<0->(∀ s,s<t.others.length->p.n<=t.oth s->(t.line r).g s<=0)->FeasO p t (.tuple #[.int .i64 r,.bool false])
theorem AC (C:Mem)(hT:Tabs C)(p:Lp.Sys)(A:Nat->Rat)(b:Nat)(d:Lp.Tab)(e h k l:Value)(B:Nat->Value)(q:Lp.Inv p A d)(a:Lp.Rel p.n d p.n)(T:Lp.Lim p A 20)(hm:p.m<=1000000)(hn:p.n<=1000000) :
  Jog.Fn cx.P 138 [p_ b] C ((fk b p.n d e h k l B).map Lent.ent) fun u _ w=>∃ t wF,Lp.Inv p A t/\Lp.Rel p.n t p.n/\FeasO p t u/\w=(fk b p.n t e h k l wF).map Lent.ent:=by
 have an:=mx_
 refine Vi func138 26 U3 fun w0=>?_;refine Vd fun R a=>?_;refine Vs U6 (fun b1=>?_);refine Vt U5 (fun v=>?_);refine C6 1 [1,2] a U ?_;clear a R;refine G.freeze 1 U (fun _ _ x=>?_);refine Vr (L':=[.obj v (.cells ⟨[i_ 0]⟩ 3 (0,0)),.obj b (.cells ⟨[i_ p.n,e,h,k,ae (qtx d.worth.c),l]⟩ 231 (0,0)),.arr e 3 1 d.basic.length ((d.basic).map aW).flatten,.arr h 228 2 d.basic.length ((cN d B).map bH).flatten,.arr k 3 1 d.others.length ((d.others).map aW).flatten,.arr l 32 1 d.others.length ((d.worth.f).map aQ).flatten]++(List.range d.basic.length).map (stE d B 0 0 0)) (by rw[bg 0 0];rfl) ?_;refine G.loop (fun fr C' w μ=>∃ (t:Lp.Tab)(wF:Nat->Value)(o:Int)(E:Nat),(Lp.Inv p A t/\Lp.Rel p.n t p.n/\∀ K,Lp.Reach (Lp.FeasP p.n) t K->K<=E)/\fr=[(1,[],p_ b1),(2,[],p_ v)]/\w=[.obj v (.cells ⟨[i_ o]⟩ 3 (0,0)),.obj b (.cells ⟨[i_ p.n,e,h,k,ae (qtx t.worth.c),l]⟩ 231 (0,0)),.arr e 3 1 t.basic.length ((t.basic).map aW).flatten,.arr h 228 2 t.basic.length ((cN t wF).map bH).flatten,.arr k 3 1 t.others.length ((t.others).map aW).flatten,.arr l 32 1 t.others.length ((t.worth.f).map aQ).flatten]++(List.range t.basic.length).map (stE t wF 0 0 0)/\μ=E) (hn_ [1,2] U) ⟨d,B,0,2 ^ (p.n+p.m),⟨q,a,fun K F=>Lp.feas_len q.tab.ok F⟩,U,U,U⟩ (fun fr ao ap m _ q=>?_);obtain⟨t,wF,o,E,⟨q,a,F⟩,rfl,rfl,rfl⟩:=q;have ok:=q.tab.ok;have aa:t.basic.length<=1000000:=by rw[q.tab.lb];exact hm
 have ab:t.others.length<=1000000:=by rw[q.tab.lo];exact hn
 have H:∀ i,i<t.basic.length->LineQ 20 (t.line i):=fun i y=>uU q T y;refine VB [(5,3)] U (fun R a=>?_);refine Vb (bkT x 1) U8 ?_;refine Ve 2 U ?_;refine Vj af U9 ?_;refine Vc U6 ?_;refine D.call (Hy ok (Mem.get x mup) H) U (.inr dc_) U6 (show List.Perm _ (((.obj v [i_ o] 3::fk b p.n t e h k l wF).map Lent.ent)++[]) from List.Perm.of_eq (by rw[RQ,R6,bg 0 0];rfl)) fl_ (fun aq _ ar _ ac=>?_);obtain⟨⟨I,rfl,V⟩,rfl⟩:=ac;refine Vk (j:=0) U12 ?_;refine Vf [1,2] a U ?_;clear a R;refine Vr (L':=[.obj v (.cells ⟨[i_ I]⟩ 3 (0,0)),.obj b (.cells ⟨[i_ p.n,e,h,k,ae (qtx t.worth.c),l]⟩ 231 (0,0)),.arr e 3 1 t.basic.length ((t.basic).map aW).flatten,.arr h 228 2 t.basic.length ((cN t wF).map bH).flatten,.arr k 3 1 t.others.length ((t.others).map aW).flatten,.arr l 32 1 t.others.length ((t.worth.f).map aQ).flatten]++(List.range t.basic.length).map (stE t wF 0 0 0)) (by rw[RQ,R6,bg 0 0];rfl) ?_;refine Vd fun R a=>?_;refine Vj ag U9 ?_;refine C6 1 [1,2,12] a U ?_;clear a R;refine G.cd (fun J=>?_) fun J=>?_
 ·have L:I<0:=QL J;have M:=iq V L;refine Vd fun R a=>?_;refine Vk (j:=0) U12 ?_;refine C6 1 [2,3] a U ?_;clear a R;refine Vo (W8 0 U U U U U U ?_);exact⟨t,wF,q,a,.yes (fun i y z=>by have:=M i y;grind),by rw[bg 0 0];rfl⟩
 have L:¬ I<0:=Rt J;obtain⟨r,rfl,hr,⟨N,W⟩,ad⟩:=ip V L;refine VB [(5,3)] U (fun R a=>?_);refine Vb (bkT x 1) U8 ?_;refine Ve 2 U ?_;refine Vj af U9 ?_;refine Vc U6 ?_;refine D.call (Hx ok (Mem.get x mup) hr (H r hr)) U (.inr dc_) U6 (show List.Perm _ (((.obj v [i_ (r:Nat)] 3::fk b p.n t e h k l wF).map Lent.ent)++[]) from List.Perm.of_eq (by rw[RQ,R6,bg 0 0];rfl)) fl_ (fun au _ av _ ah=>?_);refine C6 1 [1,2,4] a U ?_;clear a R;obtain⟨⟨X,rfl,Y⟩,rfl⟩:=ah;refine Vr (L':=[.obj v (.cells ⟨[i_ (r:Nat)]⟩ 3 (0,0)),.obj b (.cells ⟨[i_ p.n,e,h,k,ae (qtx t.worth.c),l]⟩ 231 (0,0)),.arr e 3 1 t.basic.length ((t.basic).map aW).flatten,.arr h 228 2 t.basic.length ((cN t wF).map bH).flatten,.arr k 3 1 t.others.length ((t.others).map aW).flatten,.arr l 32 1 t.others.length ((t.worth.f).map aQ).flatten]++(List.range t.basic.length).map (stE t wF 0 0 0)) (by rw[RQ,R6,bg 0 0];rfl) ?_;refine U1 2 [1,2,4,20] U ?_;refine G.cd (fun O=>?_) fun O=>?_
 ·have Q:X<0:=QL O;have M:=iq Y Q;refine Vd fun R a=>?_;refine Vj ag U9 ?_;refine Vk (j:=0) U12 ?_;refine C6 1 [2,3] a U ?_;clear a R;refine Vo (W8 0 U U U U U U ?_);exact⟨t,wF,q,a,.no r hr N W (fun s hs z=>by have:=M s hs;grind),by rw[bg 0 0];rfl⟩
 have Q:¬ X<0:=Rt O;obtain⟨s,rfl,hs,⟨ai,aj⟩,ak⟩:=ip Y Q;have hP:Lp.FeasP p.n t r s:=⟨hr,hs,N,ai,W,fun i y z hc=>ad i y ⟨z,hc⟩,aj,fun j hj z hg=>ak j hj ⟨z,hg⟩⟩;have Z:(t.line r).g s≠0:=by grind
 obtain⟨aw,al⟩:=Lp.Reach.fall hP F;refine VB [(3,3)] U (fun R a=>?_);refine Vb (bkT x 1) U8 ?_;refine Vj ag U9 ?_;refine Vc U6 ?_;refine D.call (uK _ hT.m_ b p.n r s (p.n+p.m) t e h k l wF ok aa ab hr hs Z H (pq q T)) U (.inr dc_) U6 (by rw[bg 0 0];exact(List.perm_append_singleton _ _).symm) fl_ (fun ax _ ay _ am=>?_);refine Vf [1,2] a U ?_;clear a R;obtain⟨-,S,rfl⟩:=am;refine G.perm (L':=[.obj v (.cells ⟨[i_ (r:Nat)]⟩ 3 (0,0)),.obj b (.cells ⟨[i_ p.n,e,h,k,ae (qtx (t.pivot r s).worth.c),l]⟩ 231 (0,0)),.arr e 3 1 (t.pivot r s).basic.length (((t.pivot r s).basic).map aW).flatten,.arr h 228 2 (t.pivot r s).basic.length ((cN (t.pivot r s) S).map bH).flatten,.arr k 3 1 (t.pivot r s).others.length (((t.pivot r s).others).map aW).flatten,.arr l 32 1 (t.pivot r s).others.length (((t.pivot r s).worth.f).map aQ).flatten]++(List.range (t.pivot r s).basic.length).map (stE (t.pivot r s) S 0 0 0)) (by rw[bg 0 0];exact List.perm_append_singleton _ _) ?_;refine Vn (m':=m-1) om_ mup (hn_ [1,2] U) ⟨t.pivot r s,S,(r:Int),m-1,⟨q.pivot hr hs Z,Lp.rel_pivot ok a hr hs N,al⟩,U,U,U⟩
section
variable {C:Mem} {a b n N:Nat} {t:Lp.Tab} {wB wL wO wW:Value} {wF:Nat->Value}
theorem Hw (c:t.Ok N)(h:C a=some (.cells ⟨[p_ b]⟩ 221 (0,0))) :
  Jog.Fn cx.P 206 [wO,.func (.func 209) #[] #[p_ a]] C ((fk b n t wB wL wO wW wF).map Lent.ent)
   fun u _ d=>(∃ o:Int,u=i_ o/\Lp.LeastR t.others (fun i=>¬ n<=t.oth i/\¬ t.worth.g i=0) t.others.length o)/\d=(fk b n t wB wL wO wW wF).map Lent.ent:=by
 refine We kr_ _ (gu c) fun j k hs=>?_;have e:=ff c hs;refine(oT j wO t.others 209 [p_ a] (fun i=>!decide (n<=t.oth i) && !decide (t.worth.g i=0)) e.O kr_ fun i l D f =>
  Oe D a b n i N t wB wL wO wW _ (e.mono f) c ((k.trans f) _ _ h) l).mono ?_
 rintro u D d _ ⟨h1,o,rfl,h2⟩;exact⟨h1,o,U,mX h2 fun i _=>by simp⟩
theorem Hv (c:t.Ok N)(h:C a=some (.cells ⟨[p_ b]⟩ 221 (0,0)))(j:LineQ 20 t.worth) :
  Jog.Fn cx.P 206 [wO,.func (.func 210) #[] #[p_ a]] C ((fk b n t wB wL wO wW wF).map Lent.ent)
   fun u _ d=>(∃ o:Int,u=i_ o/\Lp.LeastR t.others (fun i=>n<=t.oth i/\t.worth.g i<0) t.others.length o)/\d=(fk b n t wB wL wO wW wF).map Lent.ent:=by
 refine We kr_ _ (gu c) fun k l hs=>?_;have e:=ff c hs;refine(oT k wO t.others 210 [p_ a] (fun i=>decide (n<=t.oth i) && decide (t.worth.g i<0)) e.O kr_ fun i m D f =>
  Od D a b n i N t wB wL wO wW _ (e.mono f) c ((l.trans f) _ _ h) m (j.g0 dc_ dc_ i)).mono ?_
 rintro u D d _ ⟨h1,o,rfl,h2⟩;exact⟨h1,o,U,mX h2 fun i _=>by simp⟩
theorem Hu {s:Nat}(f:Tabs C)(a:t.Ok N)(d:s<t.others.length)(e:∀ i,i<t.basic.length->LineQ 20 (t.line i)) :
  Jog.Fn cx.P 211 [p_ b,i_ s] C ((fk b n t wB wL wO wW wF).map Lent.ent)
   fun u _ h=>(∃ o:Int,u=i_ o/\Lp.LeaveR n t s t.basic.length o)/\h=(fk b n t wB wL wO wW wF).map Lent.ent :=
 We kr_ _ (gu a) fun j k l=>KF j (f.mono k) b n s N t wB wL wO wW _ (ff a l) a d fun i c=>⟨(e i c).1,(e i c).g (by rw[im a c];exact d)⟩
end
theorem zW (h:Lp.LeaveR F t s n o)(a:o<0):∀ i,i<n->F<=t.bas i->0<=(t.line i).g s:=by
 cases h with
|none h=>exact h
|some r _ _ _ _=>omega
theorem zV (h:Lp.LeaveR F t s n o)(a:¬ o<0):∃ r:Nat,o=r/\r<n/\F<=t.bas r/\(t.line r).g s<0 /\
  ∀ i,i<n->F<=t.bas i->(t.line i).g s<0->(t.line r).c / -(t.line r).g s<(t.line i).c / -(t.line i).g s∨(t.line r).c / -(t.line r).g s=(t.line i).c / -(t.line i).g s/\t.bas r<=t.bas i:=by
 cases h with
|none h=>exact absurd dc_ a
|some r h1 h2 h3 h4=>exact⟨r,rfl,h1,h2,h3,h4⟩
inductive MinO (p:Lp.Sys) (t:Lp.Tab):Value->Prop where
|yes:Lp.RelW p.n t->(∀ s,s<t.others.length->p.n<=t.oth s->0<=t.worth.g s)->MinO p t (.tuple #[.int .i64 0,.bool true])
|no (s:Nat):s<t.others.length->lF t s*t.worth.g s<0->(∀ i,i<t.basic.length->p.n<=t.bas i->0<=lF t s*(t.line i).g s)->(p.n<=t.oth s->0<=lF t s)->MinO p t (.tuple #[.int .i64 s,.bool false])
theorem zR (C:Mem)(V:Tabs C)(p:Lp.Sys)(F:Nat->Rat)(b:Nat)(a:Lp.Tab)(e k l o:Value)(v:Nat->Value)(q:Lp.Inv p F a)(d:Lp.Rel p.n a p.n)(A:a.Feas p.n)(W:Lp.Lim p F 20)(hm:p.m<=1000000)(hn:p.n<=1000000) :
  Jog.Fn cx.P 140 [p_ b] C ((fk b p.n a e k l o v).map Lent.ent) fun u _ w=>∃ t wF,Lp.Inv p F t/\t.Feas p.n/\MinO p t u/\w=(fk b p.n t e k l o wF).map Lent.ent:=by
 have aw:=mx_
 refine Vi func140 32 U3 fun w0=>?_;refine Vd fun R d=>?_;refine Vs U6 (fun b1=>?_);refine C6 2 [1] d U ?_;clear d R;refine G.freeze 0 U (fun _ _ B=>?_);refine Vr (L':=[.obj b (.cells ⟨[i_ p.n,e,k,l,ae (qtx a.worth.c),o]⟩ 231 (0,0)),.arr e 3 1 a.basic.length ((a.basic).map aW).flatten,.arr k 228 2 a.basic.length ((cN a v).map bH).flatten,.arr l 3 1 a.others.length ((a.others).map aW).flatten,.arr o 32 1 a.others.length ((a.worth.f).map aQ).flatten]++(List.range a.basic.length).map (stE a v 0 0 0)) (by rw[bg 0 0];rfl) ?_;refine VB [(5,3)] U (fun R d=>?_);refine Vb (bkT B 1) U8 ?_;refine Ve 2 U ?_;refine Vj ag U9 ?_;refine Vc U6 ?_;refine D.call (Hw q.tab.ok (Mem.get B mup)) U (.inr dc_) U6 (show List.Perm _ (((fk b p.n a e k l o v).map Lent.ent)++[]) from List.Perm.of_eq (by rw[RQ,bg 0 0])) fl_ (fun ax _ ay _ ah=>?_);refine C6 1 [1,2] d U ?_;clear d R;obtain⟨⟨X,rfl,Y⟩,rfl⟩:=ah;refine Vr (L':=[.obj b (.cells ⟨[i_ p.n,e,k,l,ae (qtx a.worth.c),o]⟩ 231 (0,0)),.arr e 3 1 a.basic.length ((a.basic).map aW).flatten,.arr k 228 2 a.basic.length ((cN a v).map bH).flatten,.arr l 3 1 a.others.length ((a.others).map aW).flatten,.arr o 32 1 a.others.length ((a.worth.f).map aQ).flatten]++(List.range a.basic.length).map (stE a v 0 0 0)) (by rw[RQ,bg 0 0]) ?_;refine U1 2 [1,2,12] U ?_;refine G.cd (fun H=>?_) fun H=>?_
 ·have y:¬ X<0:=by
   have:=QL H;omega
  obtain⟨s,rfl,hs,⟨I,Z⟩,_⟩:=ip Y y;have ai:lF a s*a.worth.g s<0:=by
   unfold lF;split <;> grind
  refine U1 3 [2,3] U ?_;refine Vo (VA U3 ?_);refine⟨a,v,q,A,.no s hs ai (fun i z x=>?_) (fun h=>absurd h I),by rw[bg 0 0]⟩;rw[d s (by rw[<- q.tab.lo];exact hs) hs om_ i z x,Rat.mul_zero];exact Rat.le_refl
 have y:X<0:=by
  have:=Rt H;omega
 have E:=iq Y y;have aj:Lp.RelW p.n a:=fun s hs az=>by
  have:=E s hs;have h2:¬ p.n<=a.oth s:=by omega
  grind
 refine G.loop (fun fr C' w μ=>∃ (t:Lp.Tab)(wF:Nat->Value)(J:Nat),(Lp.Inv p F t/\Lp.Rel p.n t p.n/\t.Feas p.n/\Lp.RelW p.n t/\∀ K,Lp.Reach (Lp.MinP p.n) t K->K<=J)/\fr=[(1,[],p_ b1)]/\w=[.obj b (.cells ⟨[i_ p.n,e,k,l,ae (qtx t.worth.c),o]⟩ 231 (0,0)),.arr e 3 1 t.basic.length ((t.basic).map aW).flatten,.arr k 228 2 t.basic.length ((cN t wF).map bH).flatten,.arr l 3 1 t.others.length ((t.others).map aW).flatten,.arr o 32 1 t.others.length ((t.worth.f).map aQ).flatten]++(List.range t.basic.length).map (stE t wF 0 0 0)/\μ=J) (hn_ [1] U) ⟨a,v,2 ^ (p.n+p.m),⟨q,d,A,aj,fun K L=>Lp.min_len q.tab.ok L⟩,U,U,U⟩ (fun fr aA aB m _ q=>?_);obtain⟨t,wF,J,⟨q,d,A,hW,L⟩,rfl,rfl,rfl⟩:=q;have ok:=q.tab.ok;have ak:t.basic.length<=1000000:=by rw[q.tab.lb];exact hm
 have al:t.others.length<=1000000:=by rw[q.tab.lo];exact hn
 have hq:∀ i,i<t.basic.length->LineQ 20 (t.line i):=fun i z=>uU q W z;have aa:=pq q W;refine VB [(5,3)] U (fun R d=>?_);refine Vb (bkT B 1) U8 ?_;refine Ve 2 U ?_;refine Vj ag U9 ?_;refine Vc U6 ?_;refine D.call (Hv ok (Mem.get B mup) aa) U (.inr dc_) U6 (show List.Perm _ (((fk b p.n t e k l o wF).map Lent.ent)++[]) from List.Perm.of_eq (by rw[RQ,bg 0 0])) fl_ (fun aC _ aD _ am=>?_);refine C6 1 [1,2] d U ?_;clear d R;obtain⟨⟨o1,rfl,ab⟩,rfl⟩:=am;refine Vr (L':=[.obj b (.cells ⟨[i_ p.n,e,k,l,ae (qtx t.worth.c),o]⟩ 231 (0,0)),.arr e 3 1 t.basic.length ((t.basic).map aW).flatten,.arr k 228 2 t.basic.length ((cN t wF).map bH).flatten,.arr l 3 1 t.others.length ((t.others).map aW).flatten,.arr o 32 1 t.others.length ((t.worth.f).map aQ).flatten]++(List.range t.basic.length).map (stE t wF 0 0 0)) (by rw[RQ,bg 0 0]) ?_;refine U1 2 [1,2,21] U ?_;refine G.cd (fun M=>?_) fun M=>?_
 ·have y:o1<0:=QL M;have E:=iq ab y;refine U1 2 [2,3] U ?_;refine Vo (VA U3 ?_);exact⟨t,wF,q,A,.yes hW (fun s hs x=>by have:=E s hs;grind),by rw[bg 0 0]⟩
 have y:¬ o1<0:=Rt M;obtain⟨s,rfl,hs,⟨I,Z⟩,an⟩:=ip ab y;refine VB [(2,3)] U (fun R d=>?_);refine Vb (bkT B 1) U8 ?_;refine Vc U6 ?_;refine D.call (Hu V.m_ ok hs hq) U (.inr dc_) U6 (show List.Perm _ (((fk b p.n t e k l o wF).map Lent.ent)++[]) from List.Perm.of_eq (by rw[RQ,bg 0 0])) fl_ (fun aE _ aG _ ao=>?_);refine C6 1 [1,2,4] d U ?_;clear d R;obtain⟨⟨o2,rfl,ac⟩,rfl⟩:=ao;refine Vr (L':=[.obj b (.cells ⟨[i_ p.n,e,k,l,ae (qtx t.worth.c),o]⟩ 231 (0,0)),.arr e 3 1 t.basic.length ((t.basic).map aW).flatten,.arr k 228 2 t.basic.length ((cN t wF).map bH).flatten,.arr l 3 1 t.others.length ((t.others).map aW).flatten,.arr o 32 1 t.others.length ((t.worth.f).map aQ).flatten]++(List.range t.basic.length).map (stE t wF 0 0 0)) (by rw[RQ,bg 0 0]) ?_;refine U1 2 [1,2,4,26] U ?_;refine G.cd (fun N=>?_) fun N=>?_
 ·have O:o2<0:=QL N;have E:=zW ac O;have Q:lF t s=1:=by
   unfold lF;rw[aF (by grind)]
  refine U1 3 [2,3] U ?_;refine Vo (VA U3 ?_);refine⟨t,wF,q,A,.no s hs (by rw[Q];grind) (fun i z x=>?_) (fun _=>by rw[Q];decide),by rw[bg 0 0]⟩;rw[Q];have:=E i z x;grind
 have O:¬ o2<0:=Rt N;obtain⟨r,rfl,hr,S,ap,aq⟩:=zV ac O;have hP:Lp.MinP p.n t r s:=⟨hr,hs,S,I,Z,fun j hj x hg=>an j hj ⟨x,hg⟩,ap,aq,A⟩;have ad:(t.line r).g s≠0:=by grind
 obtain⟨aH,ar⟩:=Lp.Reach.fall hP L;refine VB [(3,3)] U (fun R d=>?_);refine Vb (bkT B 1) U8 ?_;refine Ve 2 U ?_;refine D.call (uK _ V.m_ b p.n r s (p.n+p.m) t e k l o wF ok ak al hr hs ad hq aa) U (.inr dc_) U6 (show List.Perm _ (((fk b p.n t e k l o wF).map Lent.ent)++[]) from List.Perm.of_eq (by rw[RQ,bg 0 0])) fl_ (fun aI _ aJ _ au=>?_);refine Vf [1] d U ?_;clear d R;obtain⟨-,T,rfl⟩:=au;refine Vr (L':=[.obj b (.cells ⟨[i_ p.n,e,k,l,ae (qtx (t.pivot r s).worth.c),o]⟩ 231 (0,0)),.arr e 3 1 (t.pivot r s).basic.length (((t.pivot r s).basic).map aW).flatten,.arr k 228 2 (t.pivot r s).basic.length ((cN (t.pivot r s) T).map bH).flatten,.arr l 3 1 (t.pivot r s).others.length (((t.pivot r s).others).map aW).flatten,.arr o 32 1 (t.pivot r s).others.length (((t.pivot r s).worth.f).map aQ).flatten]++(List.range (t.pivot r s).basic.length).map (stE (t.pivot r s) T 0 0 0)) (by rw[RQ,bg 0 0]) ?_;refine Vn (m':=m-1) om_ mup (hn_ [1] U) ⟨t.pivot r s,T,m-1,⟨q.pivot hr hs ad,Lp.rel_pivot ok d hr hs S,Lp.min_feas ok hP,Lp.relw_pivot ok (fun s' af av i z x=>d s' (by rw[<- q.tab.lo];exact af) af av i z x) hW hr hs S,ar⟩,U,U,U⟩
theorem Qs (C:Mem)(v:Value)(l:List Nat)(b:Sl C 1 v (l.map aW))(t:l.length<=1000000):Jog.Fn cx.P 200 [v] C [] fun u _w e=>∃ A n c,u=.slice A n c/\e=[.arr (.slice A n c) 3 1 l.length (l.map aW).flatten]:=by
 obtain⟨f,c0,rfl,m,x,y,o⟩:=id b;have z:=mx_
 simp only[au]at b m⊢;refine Vi func200 8 U3 fun w0=>U1 1 [0] U<|Va 1 U fun R d=>Wu U9<|Vf [0,4] d U<|G.cd (fun h4=>?_) fun h4=>?_
 ·have p:f=none:=by
   cases f with
  |none=>rfl
  |some a=>cases h4
  have s:l=[]:=by
   cases l with
  |nil=>rfl
  |cons q r =>
    obtain⟨a,g,_⟩:=o 0 (aW q) rfl;rw[p]at g;cases g
  refine U1 1 [2] U<|G.nilArr 3 1<|Vo (VM U U ?_);exact⟨none,0,0,U,by rw[s];rfl⟩
 refine Vd fun R d=>Wa [] U12 fl_ fun B=>Vc U6<|VF (j:=0) U11 b.m_ (by simp[aW,lG]) (by simp only[au,R5,maxLen];omega) (by simp only[au,R5];omega) fl_ fun h i k=>C6 1 [2] d U<|Vr (L':=[.arr (.slice h i k) 3 1 l.length (l.map aW).flatten]) ak<|Vo (VM U U ?_);exact⟨h,i,k,U,U⟩
theorem ND (C:Mem)(b s:Nat)(q:Rat)(w:Value)(l:List Rat)(c:Sl C 1 w (l.map aQ))(d:C b=some (.cells ⟨[i_ s]⟩ 3 (0,0)))(e:s<l.length) :
  Gives cx.P 202 [.agg ⟨[ae (qtx q),w]⟩,p_ b] C (.bool (!decide (l.getD s 0=0))):=by
 obtain⟨h,i,rfl,j,k,_⟩:=id c;have m:=mx_
 refine Vi func202 10 U3 fun w0=>Vd fun R a=>Vs U6 fun n=>C6 1 [1,2] a U<|G.freeze 0 U fun _ _ f=>Va 1 U fun R a=>Vb (bkT f 1) U8<|Vb (bkT d 1) U8<|Vq c.m_ U10 om_ (dO e) fl_ fun o g=>Vb g U8<|C6 2 [3] a U<|Vg U2<|⟨?_,U⟩;show Value.bool _=Value.bool _;congr 1;show(!((⟨(qtx (l.getD s 0)).toArray⟩:ByteArray).data.toList == (⟨#[48]⟩:ByteArray).data.toList))=_;rw[eP]
theorem NC (C:Mem)(b s:Nat)(q:Rat)(w:Value)(l:List Rat)(c:Sl C 1 w (l.map aQ))(d:C b=some (.cells ⟨[i_ s]⟩ 3 (0,0)))(e:s<l.length) :
  Gives cx.P 204 [.agg ⟨[ae (qtx q),w]⟩,p_ b] C (.bool (!decide (l.getD s 0=0))):=by
 obtain⟨h,i,rfl,j,k,_⟩:=id c;have m:=mx_
 refine Vi func204 10 U3 fun w0=>Vd fun R a=>Vs U6 fun n=>C6 1 [1,2] a U<|G.freeze 0 U fun _ _ f=>Va 1 U fun R a=>Vb (bkT f 1) U8<|Vb (bkT d 1) U8<|Vq c.m_ U10 om_ (dO e) fl_ fun o g=>Vb g U8<|C6 2 [3] a U<|Vg U2<|⟨?_,U⟩;show Value.bool _=Value.bool _;congr 1;show(!((⟨(qtx (l.getD s 0)).toArray⟩:ByteArray).data.toList == (⟨#[48]⟩:ByteArray).data.toList))=_;rw[eP]
inductive FirstR (q:Nat->Prop) (n:Nat):Int->Prop where
|none:(∀ i,i<n->¬ q i)->FirstR q n (-1)
|some (r:Nat):r<n->q r->(∀ i,i<r->¬ q i)->FirstR q n r
theorem Hr (C:Mem)(v:Value)(a:List (Rat × Value))(g:Nat)(c:List Value)(q:Nat->Prop)[DecidablePred q](d:Sl C 2 v (a.map bH))(_E:Jog.Enters cx.P g=true)
  (p:∀ i x,a[i]?=some x->∀ D:Mem,C.le D->Gives cx.P g (.agg ⟨bH x⟩::c) D (.bool (decide (q i)))) :
  Pur cx.P 201 [v,.func (.func g) #[] ⟨c⟩] C fun u _=>∃ o:Int,u=i_ o/\FirstR q a.length o:=by
 obtain⟨r,c0,rfl,s,F,_⟩:=id d;have H:=mx_
 simp only[au]at d s⊢;refine Vi func201 19 U3 fun w0=>U1 1 [0,1] U<|U1 3 [0,1,7,8] U<|G.loop (fun fr I t w=>∃ (i:Nat),(i<=a.length/\∀ j,j<i->¬ q j)/\fr=[(0,[],.slice r a.length c0),(1,[],.func (.func g) #[] ⟨c⟩),(7,[],i_ a.length),(8,[],i_ i)]/\t=[]/\w=a.length-i) (hn_ [0,1,7,8] U) ⟨0,⟨Rv _,fun j e=>absurd e (Nat.not_lt_zero _)⟩,U,U,U⟩ (fun fr J K m _ y=>?_);obtain⟨i,⟨L,f⟩,rfl,rfl,rfl⟩:=y;refine U1 1 [0,1,7,8,9] U<|G.cd (fun h=>?_) fun h=>?_
 ·have b:i<a.length:=by simpa using h
  obtain⟨x,n⟩:∃ x,a[i]?=some x:=⟨a[i],ai b⟩;refine U1 2 [0,1,5,7,8] U<|Va 3 U fun R k=>Vq d.m_ U10 om_ (show(a.map bH)[i]?=some [ae (qtx x.1),x.2] from eX n) fl_ fun M z=>Vb z U8<|Vl (p i x n _ mup) U7<|Vf [0,1,5,7,8,16] k U<|G.cd (fun l=>?_) fun l=>?_
  ·have A:q i:=QL l;exact U1 2 [4] U<|Vg U2<|⟨U,(i:Int),U,.some i b A f⟩
  have B:¬ q i:=Rt l;refine Vd fun R k=>Vh _ U U6<|C6 1 [0,1,7,8] k U<|Vn (m':=a.length-(i+1)) om_ mup (hn_ [0,1,7,8] U) ⟨i+1,⟨by omega,fun j e=>by
   rcases Nat.lt_or_eq_of_le (Nat.le_of_lt_succ e) with h1|h1
   ·exact f j h1
   rw[h1];exact B⟩,rfl,rfl,rfl⟩
 have b:i=a.length:=by
  have:¬ i<a.length:=by simpa using h
  omega
 exact U1 1 [4] U<|Vg U2<|⟨U, -1,U,.none (by rw[<- b];exact f)⟩
theorem F2 (C:Mem)(b n v:Nat)(a:List Value)(c:C b=some (.cells ⟨i_ n::a⟩ 231 (0,0))) :
  Gives cx.P 203 [p_ b,i_ v] C (.bool (decide (n<=v))):=by
 refine Vi func203 11 U3 fun w0=>U1 1 [0,1] U<|Va 4 U fun R d=>Vb (bkT c 1) U8<|C6 2 [4] d U<|Vg U2<|⟨?_,U⟩;congr 1;rw[Sf];omega
theorem pN (C:Mem)(b n v:Nat)(a:List Value):Jog.Fn cx.P 203 [p_ b,i_ v] C [.obj b (.cells ⟨i_ n::a⟩ 231 (0,0))]
   fun u _ d=>u=.bool (decide (n<=v))/\d=[.obj b (.cells ⟨i_ n::a⟩ 231 (0,0))]:=by
 have h:=We (P:=cx.P) (f:=203) (args:=[p_ b,i_ v]) (C:=C) (q:=fun u=>u=.bool (decide (n<=v))) kr_ [.obj b (i_ n::a) 231] (fun x c=>by
  rcases RC.1 c with rfl|c
  ·trivial
  cases c) fun e g hs=>(F2 e b n v a (hs _ (Rq ..))).mono fun u _ i _ ⟨h1,h2⟩=>⟨h2,h1⟩
 exact h
theorem pG {C:Mem}(h:∀ x∈fk b n t wB wL wO wW wF,x.seen C):Sl C 1 wO (t.others.map aW)/\Sl C 2 wL ((cN t wF).map bH)/\∀ i,i<t.basic.length->Sl C 1 (wF i) ((t.line i).f.map aQ) :=
 ⟨h _ (RB _ (RB _ (RB _ (Rq ..)))),h _ (RB _ (RB _ (Rq ..))),fun i a =>
  h (Md t wF i) (RB _ (RB _ (RB _ (RB _ (RB _ (Rs.2 ⟨i,RL.2 a,rfl⟩))))))⟩
section
variable {C:Mem} {a2 b n N s:Nat} {t:Lp.Tab} {wB wO wW:Value} {wF:Nat->Value}
theorem Qr {d:Value}(i:t.Ok N)(j:t.others.length<=1000000):Jog.Fn cx.P 200 [wO] C ((fk b n t wB d wO wW wF).map Lent.ent)
   fun u _ a=>∃ A n2 c,u=.slice A n2 c/\a=.arr (.slice A n2 c) 3 1 t.others.length (t.others.map aW).flatten::(fk b n t wB d wO wW wF).map Lent.ent:=by
 have h:=Ww (P:=cx.P) (f:=200) (args:=[wO]) (L:=[]) (C:=C) (post:=fun u a=>∃ A n2 c,u=.slice A n2 c/\a=[.arr (.slice A n2 c) 3 1 t.others.length (t.others.map aW).flatten]) kr_ (fk b n t wB d wO wW wF) (gu i) fun g o hs=>Qs g wO t.others (pG hs).1 j;rw[RQ]at h;refine⟨h.1,fun w k=>(h.2 w k).mono ?_⟩;rintro e w' ⟨v,g,a,l,m,p,rfl,A,n2,c,rfl,rfl⟩;exact⟨_,g,_,l,St.perm m (List.perm_append_singleton _ _),A,n2,c,U,U⟩
theorem Ol {a:Value}(h:t.Ok N)(l:C a2=some (.cells ⟨[i_ s]⟩ 3 (0,0)))(m:s<t.others.length) :
  Jog.Fn cx.P 201 [a,.func (.func 202) #[] #[p_ a2]] C ((fk b n t wB a wO wW wF).map Lent.ent)
   fun u _ j=>(∃ o:Int,u=i_ o/\FirstR (fun i=>¬ (t.line i).g s=0) t.basic.length o)/\j=(fk b n t wB a wO wW wF).map Lent.ent:=by
 refine We kr_ _ (gu h) fun p q r=>?_;obtain⟨_,v,w⟩:=pG r;refine(Hr p a (cN t wF) 202 [p_ a2] (fun i=>¬ (t.line i).g s=0) v kr_ fun i x d D k=>?_).mono ?_
 ·have e:i<t.basic.length:=by rw[<- fM (wF:=wF)];exact(aJ.1 d).1
  rw[oO e]at d;cases d
  rw[decide_not];exact ND D a2 s (t.line i).c (wF i) (t.line i).f ((w i e).mono k) ((q.trans k) _ _ l) (by rw[im h e];exact m)
 rintro u D j _ ⟨h1,o,rfl,h2⟩;rw[fM]at h2;exact⟨h1,o,U,h2⟩
theorem Oj {A:Option Addr}{c r M:Nat}(v:t.basic.length=M)(j:t.Ok N)(w:C a2=some (.cells ⟨[i_ s]⟩ 3 (0,0)))(y:s<t.others.length)(J:r<t.basic.length)(z:M<=c) :
  Jog.Fn cx.P 201 [.slice (if c=r+1 then A else A.map (·.add ((r+1)*2))) (M-(r+1)) (c-(r+1)),.func (.func 204) #[] #[p_ a2]] C ((fk b n t wB (.slice A M c) wO wW wF).map Lent.ent)
   fun u _ k=>(∃ o:Int,u=i_ o/\FirstR (fun i=>¬ (t.line (r+1+i)).g s=0) (t.basic.length-(r+1)) o)/\k=(fk b n t wB (.slice A M c) wO wW wF).map Lent.ent:=by
 subst v;refine We kr_ _ (gu j) fun B E F=>?_;obtain⟨_,G,H⟩:=pG F;have p:=Sl.sub (l:=r+1) (h:=t.basic.length) (m:=c) G om_ (by rw[au,fM];exact Ro _) z (Ro _);have e:((cN t wF).map bH).take t.basic.length=(cN t wF).map bH:=RN (by rw[au,fM];exact Ro _);rw[e,<- List.map_drop]at p;have I:((cN t wF).drop (r+1)).length=t.basic.length-(r+1):=by rw[Th,fM]
 refine(Hr B _ ((cN t wF).drop (r+1)) 204 [p_ a2] (fun i=>¬ (t.line (r+1+i)).g s=0) p kr_ fun i x a D q=>?_).mono ?_
 ·have d:r+1+i<t.basic.length:=by have:=(aJ.1 a).1;omega
  rw[List.getElem?_drop,oO d]at a;cases a
  rw[decide_not];exact NC D a2 s (t.line (r+1+i)).c (wF (r+1+i)) (t.line (r+1+i)).f ((H _ d).mono q) ((E.trans q) _ _ w) (by rw[im j d];exact y)
 rintro u D k _ ⟨h1,o,rfl,h2⟩;rw[I]at h2;exact⟨h1,o,U,h2⟩
end
def Rn (p:Lp.Sys)(t:Lp.Tab)(s:Nat)(o:Int):Prop:=(o=-1/\∀ i,i<t.basic.length->p.n<=t.bas i->(t.line i).g s=0)∨∃ r:Nat,o=r/\r<t.basic.length/\¬ (t.line r).g s=0/\∀ i,i<r->p.n<=t.bas i->(t.line i).g s=0
theorem Ay (h:FirstR q n o)(a:o<0):∀ i,i<n->¬ q i:=by
 cases h with
|none h=>exact h
|some r _ _ _=>omega
theorem Aq (h:FirstR q n o)(a:¬ o<0):∃ r:Nat,o=r/\r<n/\q r/\∀ i,i<r->¬ q i:=by
 cases h with
|none h=>exact absurd dc_ a
|some r h1 h2 h3=>exact⟨r,rfl,h1,h2,h3⟩
theorem DX (h:FirstR (fun i=>¬ (t.line i).g s=0) t.basic.length o):Rn p t s o:=by
 cases h with
|none h=>exact .inl ⟨rfl,fun i a _=>Decidable.not_not.1 (h i a)⟩
|some r h1 h2 h3=>exact .inr ⟨r,rfl,h1,h2,fun i a _=>Decidable.not_not.1 (h3 i a)⟩
theorem Ee (C:Mem)(hT:Tabs C)(p:Lp.Sys)(M:Nat->Rat)(b:Nat)(a:Lp.Tab)(N O e l:Value)(A:Nat->Value)(q:Lp.Inv p M a)(ho:a.others=List.range p.n)(hl:Lp.Lim p M 20)(hm:p.m<=1000000)(hn:p.n<=1000000) :
  Jog.Fn cx.P 137 [p_ b] C ((fk b p.n a N O e l A).map Lent.ent) fun u _ z=>u=.tuple #[]/\∃ t wF,Lp.Inv p M t/\Lp.Rel p.n t p.n/\z=(fk b p.n t N O e l wF).map Lent.ent:=by
 have aM:=mx_
 have ar:a.others.length=p.n:=q.tab.lo;refine Vi func137 65 U3 fun w0=>?_;refine Vr (L':=[.obj b (.cells ⟨[i_ p.n,N,O,e,ae (qtx a.worth.c),l]⟩ 231 (0,0)),.arr N 3 1 a.basic.length ((a.basic).map aW).flatten,.arr O 228 2 a.basic.length ((cN a A).map bH).flatten,.arr e 3 1 a.others.length ((a.others).map aW).flatten,.arr l 32 1 a.others.length ((a.worth.f).map aQ).flatten]++(List.range a.basic.length).map (stE a A 0 0 0)) (by rw[bg 0 0]) ?_;refine W7 1 U (fun w y I S av _=>?_);rw[q.tab.lb]at I S av;subst I;refine W7 2 U (fun AL x I _ T _=>?_);rw[q.tab.lb]at I T;subst I;refine Vr (L':=[.obj b (.cells ⟨[i_ p.n,(.slice w p.m y),(.slice AL p.m x),e,ae (qtx a.worth.c),l]⟩ 231 (0,0)),.arr (.slice w p.m y) 3 1 a.basic.length ((a.basic).map aW).flatten,.arr (.slice AL p.m x) 228 2 a.basic.length ((cN a A).map bH).flatten,.arr e 3 1 a.others.length ((a.others).map aW).flatten,.arr l 32 1 a.others.length ((a.worth.f).map aQ).flatten]++(List.range a.basic.length).map (stE a A 0 0 0)) U ?_;refine VB [(4,3)] U (fun R d=>?_);refine Ve 3 U ?_;refine Vj ag U9 ?_;refine D.call (Qr q.tab.ok om_) U (.inr dc_) U6 (show List.Perm _ (((fk b p.n a (.slice w p.m y) (.slice AL p.m x) e l A).map Lent.ent)++[]) from List.Perm.of_eq (by rw[RQ,bg 0 0] <;> rfl)) fl_ (fun aN aw aO _ ax=>?_);obtain⟨Ac,n2,c2,rfl,rfl⟩:=ax;refine C6 2 [0,10,11,12] d U ?_;clear d R;refine G.freezeArr 0 (a.others.map aW) U U vo ak (fun aw _ an=>?_);have ay:n2=p.n:=by
  obtain⟨A9,c9,az,_⟩:=id an;injection az with e1 e2 e3;rw[e2,au,ar]
 subst ay;refine Vr (L':=[.obj b (.cells ⟨[i_ p.n,(.slice w p.m y),(.slice AL p.m x),e,ae (qtx a.worth.c),l]⟩ 231 (0,0)),.arr (.slice w p.m y) 3 1 a.basic.length ((a.basic).map aW).flatten,.arr (.slice AL p.m x) 228 2 a.basic.length ((cN a A).map bH).flatten,.arr e 3 1 a.others.length ((a.others).map aW).flatten,.arr l 32 1 a.others.length ((a.worth.f).map aQ).flatten]++(List.range a.basic.length).map (stE a A 0 0 0)) (by rw[bg 0 0,RQ];rfl) ?_;refine G.loop (fun fr C' z V=>∃ (k:Nat)(t:Lp.Tab)(wF:Nat->Value),(k<=p.n/\Lp.Inv p M t/\Lp.Rel p.n t k)/\fr=[(0,[],p_ b),(10,[],.slice Ac p.n c2),(11,[],i_ p.n),(12,[],i_ k)]/\z=[.obj b (.cells ⟨[i_ p.n,(.slice w p.m y),(.slice AL p.m x),e,ae (qtx t.worth.c),l]⟩ 231 (0,0)),.arr (.slice w p.m y) 3 1 t.basic.length ((t.basic).map aW).flatten,.arr (.slice AL p.m x) 228 2 t.basic.length ((cN t wF).map bH).flatten,.arr e 3 1 t.others.length ((t.others).map aW).flatten,.arr l 32 1 t.others.length ((t.worth.f).map aQ).flatten]++(List.range t.basic.length).map (stE t wF 0 0 0)/\V=p.n-k) (hn_ [0,10,11,12] U) ⟨0,a,A,⟨Rv _,q,fun s hs=>absurd hs (Nat.not_lt_zero _)⟩,U,U,U⟩ (fun fr aP aR m _ q=>?_);obtain⟨k,t,wF,⟨hk,q,d⟩,rfl,rfl,rfl⟩:=q;refine U1 1 [0,10,11,12,13] U ?_;refine G.cd (fun W=>?_) fun W=>?_
 ·have ao:k<p.n:=by
   have:=QL W;omega
  have ok:=q.tab.ok;have aA:=q.tab.lb;have aB:t.basic.length<=1000000:=by rw[q.tab.lb];exact hm
  have aC:t.others.length<=1000000:=by rw[q.tab.lo];exact hn
  have hq:∀ i,i<t.basic.length->LineQ 20 (t.line i):=fun i X=>uU q hl X;have J:k<t.others.length:=by rw[q.tab.lo];exact ao
  refine Va 1 U fun R d=>?_;refine Vq an.m_ U10 om_ (show(a.others.map aW)[k]?=some (aW k) from uP (by rw[ho,RY ao])) fl_ (fun aS aD=>?_);refine Vb aD U8 ?_;refine Vt U5 (fun b2=>?_);refine Vk (j:=0) U12 ?_;refine C6 1 [0,2,3,10,11,12] d U ?_;clear d R;refine G.freeze 0 U (fun _ _ Y=>?_);refine VB [(5,3)] U (fun R d=>?_);refine Ve 3 U ?_;refine Vj ag U9 ?_;refine Vc U6 ?_;refine D.call (Ol ok (Mem.get Y mup) J) U (.inr dc_) U6 (show List.Perm _ (((fk b p.n t (.slice w p.m y) (.slice AL p.m x) e l wF).map Lent.ent)++[]) from List.Perm.of_eq (by rw[RQ,bg 0 0] <;> rfl)) fl_ (fun aT _ aU _ aE=>?_);refine C6 1 [0,2,3,4,10,11,12] d U ?_;clear d R;obtain⟨⟨o0,rfl,aF⟩,rfl⟩:=aE;refine Vr (L':=[.obj b (.cells ⟨[i_ p.n,(.slice w p.m y),(.slice AL p.m x),e,ae (qtx t.worth.c),l]⟩ 231 (0,0)),.arr (.slice w p.m y) 3 1 t.basic.length ((t.basic).map aW).flatten,.arr (.slice AL p.m x) 228 2 t.basic.length ((cN t wF).map bH).flatten,.arr e 3 1 t.others.length ((t.others).map aW).flatten,.arr l 32 1 t.others.length ((t.worth.f).map aQ).flatten]++(List.range t.basic.length).map (stE t wF 0 0 0)) (by rw[RQ,bg 0 0]) ?_;refine G.loop (fun fr C' z V=>∃ (o:Int),(Rn p t k o)/\fr=[(0,[],p_ b),(2,[],p_ b2),(3,[],i_ k),(4,[],i_ o),(10,[],.slice Ac p.n c2),(11,[],i_ p.n),(12,[],i_ k)]/\z=[.obj b (.cells ⟨[i_ p.n,(.slice w p.m y),(.slice AL p.m x),e,ae (qtx t.worth.c),l]⟩ 231 (0,0)),.arr (.slice w p.m y) 3 1 t.basic.length ((t.basic).map aW).flatten,.arr (.slice AL p.m x) 228 2 t.basic.length ((cN t wF).map bH).flatten,.arr e 3 1 t.others.length ((t.others).map aW).flatten,.arr l 32 1 t.others.length ((t.worth.f).map aQ).flatten]++(List.range t.basic.length).map (stE t wF 0 0 0)/\V=t.basic.length-o.toNat) (hn_ [0,2,3,4,10,11,12] U) ⟨o0,DX aF,U,U,U⟩ (fun fr aV aX m _ q=>?_);obtain⟨o,K,rfl,rfl,rfl⟩:=q;refine Va 7 U fun R d=>?_;refine Vj ag U9 ?_;refine Vc U6 ?_;refine Xt (w.getD ⟨0,0,none⟩).block (o.toNat*1) U U U U U U U U U U (fun Z=>by
   have h:decide (o ≥ 0)=true:=Z.1;have h2:=QL h;obtain⟨r,L,B,_⟩:=K.resolve_left om_;exact⟨S om_,by omega,by omega,U⟩) U U ?_
  refine Xo (v:=i_ (t.bas o.toNat)) af U U U U U U (fun Z=>by
   have h:decide (o ≥ 0)=true:=Z.1;have h2:=QL h;obtain⟨r,L,B,_⟩:=K.resolve_left om_;refine⟨S om_, ?_⟩;rw[eh eo (show t.basic[o.toNat]?=some (t.bas o.toNat) from zP om_)];rfl) rfl rfl ?_
  refine WG ag (fun _=>pN _ b p.n (t.bas o.toNat) _) U9 ?_;refine Vc U6 ?_;refine Vz U8 ?_;refine Vf [0,2,3,4,10,11,12,36] d U ?_;clear d R;refine G.cd (fun aa=>?_) fun aa=>?_
  ·have Q:o ≥ 0/\¬ p.n<=t.bas o.toNat:=by simpa using aa
   obtain⟨aY,ab⟩:=Q;obtain⟨r,L,B,ac,ad⟩:=K.resolve_left om_;subst L;rw[Tk]at ab;refine VB [(8,3)] U (fun R d=>?_);refine Ve 3 U ?_;refine Vj ag U9 ?_;refine Vc U6 ?_;refine Vh _ U U6 ?_;refine VV (r+1) p.m x U12 (fun _=>⟨.inr ⟨_,U⟩,.inl ⟨U,U⟩,.inl ⟨U,U⟩,by omega,T,Ro _⟩) U2 ?_;refine Vc U6 ?_;refine D.call (Oj aA ok (Mem.get Y mup) J B T) U (.inr dc_) U6 (show List.Perm _ (((fk b p.n t (.slice w p.m y) (.slice AL p.m x) e l wF).map Lent.ent)++[]) from List.Perm.of_eq (by rw[RQ,bg 0 0] <;> rfl)) fl_ (fun aZ _ a0 _ aG=>?_);refine C6 1 [0,2,3,4,5,10,11,12] d U ?_;clear d R;obtain⟨⟨o2,rfl,ap⟩,rfl⟩:=aG;refine Vr (L':=[.obj b (.cells ⟨[i_ p.n,(.slice w p.m y),(.slice AL p.m x),e,ae (qtx t.worth.c),l]⟩ 231 (0,0)),.arr (.slice w p.m y) 3 1 t.basic.length ((t.basic).map aW).flatten,.arr (.slice AL p.m x) 228 2 t.basic.length ((cN t wF).map bH).flatten,.arr e 3 1 t.others.length ((t.others).map aW).flatten,.arr l 32 1 t.others.length ((t.worth.f).map aQ).flatten]++(List.range t.basic.length).map (stE t wF 0 0 0)) (by rw[RQ,bg 0 0]) ?_;refine U1 2 [0,2,3,4,5,10,11,12,47] U ?_;refine G.cd (fun ah=>?_) fun ah=>?_
   ·have ai:o2<0:=QL ah;have hz:∀ i,i<t.basic.length->p.n<=t.bas i->(t.line i).g k=0:=fun i X E=>by
     rcases Nat.lt_trichotomy i r with h1|h1|h1
     ·exact ad i h1 E
     ·rw[h1]at E;exact absurd E ab
     have:=Ay ap ai (i-(r+1)) om_;rw[show r+1+(i-(r+1))=i by omega]at this;exact Decidable.not_not.1 this
    refine U1 1 [0,2,3,4,10,11,12] U ?_;refine Va 5 U fun R d=>?_;refine WG ag (fun _=>pN _ b p.n k _) U9 ?_;refine Vc U6 ?_;refine Vz U8 ?_;refine Vf [0,2,4,10,11,12,59] d U ?_;clear d R;refine G.cd (fun aq=>?_) fun aq=>?_
    ·exact absurd aq ak
    refine Vd fun R d=>?_;refine Vh _ U U6 ?_;refine C6 1 [0,10,11,12] d U ?_;clear d R;refine Vn (m':=p.n-(k+1)) om_ mup (hn_ [0,10,11,12] U) ⟨k+1,t,wF,⟨by omega,q,Lp.rel_none d hz⟩,U,U,U⟩
   have ai:¬ o2<0:=Rt ah;obtain⟨F,rfl,a1,aH,aI⟩:=Aq ap ai;have aJ:Rn p t k ((r+(1+F):Nat):Int):=.inr ⟨r+(1+F),rfl,by omega,by rw[show r+(1+F)=r+1+F by omega];exact aH,fun i X E=>by
    rcases Nat.lt_trichotomy i r with h1|h1|h1
    ·exact ad i h1 E
    ·rw[h1]at E;exact absurd E ab
    have:=aI (i-(r+1)) om_;rw[show r+1+(i-(r+1))=i by omega]at this;exact Decidable.not_not.1 this⟩
   refine Va 2 U fun R d=>?_;refine Vh _ U U6 ?_;refine Vh _ U U6 ?_;refine C6 1 [0,2,3,4,10,11,12] d U ?_;clear d R;refine Vn (m':=t.basic.length-((r+(1+F):Nat):Int).toNat) om_ mup (hn_ [0,2,3,4,10,11,12] U) ⟨((r+(1+F):Nat):Int),aJ,U,U,U⟩
  have Q:¬ (o ≥ 0/\¬ p.n<=t.bas o.toNat):=by simpa using aa
  refine Va 5 U fun R d=>?_;refine WG ag (fun _=>pN _ b p.n k _) U9 ?_;refine Vc U6 ?_;refine Vz U8 ?_;refine Vf [0,2,4,10,11,12,59] d U ?_;clear d R;refine G.cd (fun aj=>?_) fun aj=>?_
  ·have H:0<=o:=by
    have H:(decide (0<=o) && !decide (p.n<=k))=true:=aj;simp only[RG,Ry]at H;exact H.1
   obtain⟨r,L,B,ac,ad⟩:=K.resolve_left om_;subst L;rw[Tk]at Q;have aK:p.n<=t.bas r:=by
    apply Decidable.byContradiction;intro h;exact Q ⟨by omega,h⟩
   refine VB [(3,3)] U (fun R d=>?_);refine Ve 2 U ?_;refine Vb (bkT Y 1) U8 ?_;refine D.call (uK _ hT.m_ b p.n r k (p.n+p.m) t (.slice w p.m y) (.slice AL p.m x) e l wF ok aB aC B J ac hq (pq q hl)) U (.inr dc_) U6 (show List.Perm _ (((fk b p.n t (.slice w p.m y) (.slice AL p.m x) e l wF).map Lent.ent)++[]) from List.Perm.of_eq (by rw[RQ,bg 0 0] <;> rfl)) fl_ (fun a2 _ a3 _ aL=>?_);refine Vf [0,10,11,12] d U ?_;clear d R;refine Vd fun R d=>?_;refine Vh _ U U6 ?_;refine C6 1 [0,10,11,12] d U ?_;clear d R;obtain⟨-,al,rfl⟩:=aL;refine Vr (L':=[.obj b (.cells ⟨[i_ p.n,(.slice w p.m y),(.slice AL p.m x),e,ae (qtx (t.pivot r k).worth.c),l]⟩ 231 (0,0)),.arr (.slice w p.m y) 3 1 (t.pivot r k).basic.length (((t.pivot r k).basic).map aW).flatten,.arr (.slice AL p.m x) 228 2 (t.pivot r k).basic.length ((cN (t.pivot r k) al).map bH).flatten,.arr e 3 1 (t.pivot r k).others.length (((t.pivot r k).others).map aW).flatten,.arr l 32 1 (t.pivot r k).others.length (((t.pivot r k).worth.f).map aQ).flatten]++(List.range (t.pivot r k).basic.length).map (stE (t.pivot r k) al 0 0 0)) (by rw[RQ,bg 0 0]) ?_;refine Vn (m':=p.n-(k+1)) om_ mup (hn_ [0,10,11,12] U) ⟨k+1,t.pivot r k,al,⟨by omega,q.pivot B J ac,Lp.rel_next ok d B J aK⟩,U,U,U⟩
  have H:¬ 0<=o:=by
   have H:(decide (0<=o) && !decide (p.n<=k))=false:=aj;have am:¬ p.n<=k:=by omega
   simpa [am] using H
  have hz:∀ i,i<t.basic.length->p.n<=t.bas i->(t.line i).g k=0:=by
   rcases K with⟨_,h2⟩|⟨r,h1,_⟩
   ·exact h2
   omega
  refine Vd fun R d=>?_;refine Vh _ U U6 ?_;refine C6 1 [0,10,11,12] d U ?_;clear d R;refine Vn (m':=p.n-(k+1)) om_ mup (hn_ [0,10,11,12] U) ⟨k+1,t,wF,⟨by omega,q,Lp.rel_none d hz⟩,U,U,U⟩
 have am:k=p.n:=by
  have:=Rt W;omega
 refine Wf U ?_;exact⟨U,t,wF,q,by rw[am]at d;exact d,by rw[bg 0 0]⟩
theorem Iy (C:Mem)(v:Value)(l:List Rat)(b:Sl C 1 v (l.map aQ))(t:l.length<=1000000):Jog.Fn cx.P 50 [v] C [] fun u _w e=>∃ A n c,u=.slice A n c/\e=[.arr (.slice A n c) 32 1 l.length (l.map aQ).flatten]:=by
 obtain⟨f,c0,rfl,m,x,y,o⟩:=id b;have z:=mx_
 simp only[au]at b m⊢;refine Vi func50 8 U3 fun w0=>U1 1 [0] U<|Va 1 U fun R d=>Wu U9<|Vf [0,4] d U<|G.cd (fun h4=>?_) fun h4=>?_
 ·have p:f=none:=by
   cases f with
  |none=>rfl
  |some a=>cases h4
  have s:l=[]:=by
   cases l with
  |nil=>rfl
  |cons q r =>
    obtain⟨a,g,_⟩:=o 0 (aQ q) rfl;rw[p]at g;cases g
  refine U1 1 [2] U<|G.nilArr 32 1<|Vo (VM U U ?_);exact⟨none,0,0,U,by rw[s];rfl⟩
 refine Vd fun R d=>Wa [] U12 fl_ fun B=>Vc U6<|VF (j:=0) U11 b.m_ (by simp[aQ,lG,ae]) (by simp only[au,R5,maxLen];omega) (by simp only[au,R5];omega) fl_ fun h i k=>C6 1 [2] d U<|Vr (L':=[.arr (.slice h i k) 32 1 l.length (l.map aQ).flatten]) ak<|Vo (VM U U ?_);exact⟨h,i,k,U,U⟩
def bZ (n:Nat)(rs:List (List Rat × Rat)):Lp.Sys:=⟨n,rs.length,fun r j=>(rs.getD r ([],0)).1.getD j 0,fun r=>(rs.getD r ([],0)).2⟩
abbrev sA (A:Option Addr)(n c:Nat):Value:=.slice A n c
abbrev sB (A:Option Addr)(n c:Nat):Value:=.slice A n c
abbrev sO (A:Option Addr)(n c:Nat):Value:=.slice A n c
abbrev sW (A:Option Addr)(n c:Nat):Value:=.slice A n c
abbrev sF (A:Option Addr)(n c:Nat):Value:=.slice A n c
def lbF (n i:Nat):List Nat:=(List.range i).map fun q=>n+q
def lvF (rs:List (List Rat × Rat))(wF:Nat->Value)(i:Nat):List (Rat × Value):=(List.range i).map fun q=>((rs.getD q ([],0)).2,wF q)
def opE (n:Nat)(rs:List (List Rat × Rat))(wF:Nat->Value)(q:Nat):Ent:=.arr (wF q) 32 1 n (((List.range n).map fun j=>-(rs.getD q ([],0)).1.getD j 0).map aQ).flatten
def Jm (wF:Nat->Value)(i:Nat)(w:Value):Nat->Value:=fun q=>if q=i then w else wF q
theorem FH :Jm wF i w i=w:=aM rfl
theorem FG {q:Nat}(h:q≠i):Jm wF i w q=wF q:=aF h
theorem KJ :lbF n (i+1)=lbF n i++[n+i]:=by unfold lbF;rw[SC,R3];rfl
theorem KA {r:List Rat × Rat}(h:rs.getD i ([],0)=r):lvF rs (Jm wF i w) (i+1)=lvF rs wF i++[(r.2,w)]:=by
 unfold lvF;rw[SC,R3,List.map_singleton,h,FH];congr 1;refine List.map_congr_left fun q a=>?_;rw[FG (by have:=RL.1 a;omega)]
theorem Kp {r:List Rat × Rat}(h:rs.getD i ([],0)=r):(List.range (i+1)).map (opE n rs (Jm wF i w))=(List.range i).map (opE n rs wF)++[.arr w 32 1 n (((List.range n).map fun j=>-r.1.getD j 0).map aQ).flatten]:=by
 rw[SC,R3,List.map_singleton];congr 1
 ·refine List.map_congr_left fun q a=>?_;unfold opE;rw[FG (by have:=RL.1 a;omega)]
 unfold opE;rw[h,FH]
theorem Eg {l:List Rat}(h:l.length=n):(List.range n).map (fun j=>l.getD j 0)=l:=by
 refine List.ext_getElem? fun j=>?_;rw[Rr];by_cases a:j<n
 ·rw[RY a,ai om_];show some (l.getD j 0)=_;rw[am,ai om_];rfl
 rw[Rx (show(List.range n).length<=j by simp;omega),Rx om_];rfl
theorem GV (g:ob.length=n) :
  (fk b n (Lp.openT (bZ n rs) fun j=>ob.getD j 0) wB wL wO wW wF).map Lent.ent=[.obj b (.cells ⟨[i_ n,wB,wL,wO,ae [48],wW]⟩ 231 (0,0)),.arr wB 3 1 rs.length ((lbF n rs.length).map aW).flatten,.arr wL 228 2 rs.length ((lvF rs wF rs.length).map bH).flatten,.arr wO 3 1 n ((List.range n).map aW).flatten,.arr wW 32 1 n (ob.map aQ).flatten]++(List.range rs.length).map (opE n rs wF):=by
 have d:(Lp.openT (bZ n rs) fun j=>ob.getD j 0).basic.length=rs.length:=Lp.openT_lb;have e:(Lp.openT (bZ n rs) fun j=>ob.getD j 0).others.length=n:=Lp.openT_lo;have h1:cN (Lp.openT (bZ n rs) fun j=>ob.getD j 0) wF=lvF rs wF rs.length:=by
  unfold cN lvF;rw[d];refine List.map_congr_left fun q a=>?_;rw[Lp.openT_line (p:=bZ n rs) (RL.1 a)];rfl
 have h2:(List.range rs.length).map (Lent.ent ∘ Md (Lp.openT (bZ n rs) fun j=>ob.getD j 0) wF)=(List.range rs.length).map (opE n rs wF):=by
  refine List.map_congr_left fun q a=>?_;show Ent.arr _ _ 1 _ _=_;rw[Lp.openT_line (p:=bZ n rs) (RL.1 a),e];rfl
 have h3:(Lp.openT (bZ n rs) fun j=>ob.getD j 0).worth.f=ob:=Eg g;have h4:(Lp.openT (bZ n rs) fun j=>ob.getD j 0).worth.c=0:=rfl;unfold fk;rw[h1,h3,h4,d,e,J6];simp only[R6,So,h2];rfl
def Eo (n:Nat)(rs:List (List Rat × Rat))(ob:List Rat)(b17:Nat)(Aw:Option Addr)(nw cw:Nat)(A1:Option Addr)(n1 c1:Nat)(i:Nat)(wF:Nat->Value)(r:List Rat × Rat)(A4:Option Addr)(n4 c4:Nat)(A71:Option Addr)(n71 c71:Nat)(A78:Option Addr)(n78 c78:Nat):List Ent:=[.arr (sA A71 n71 c71) 3 1 (i+1) (((lbF n i).map aW).flatten++[[.int .i64 ((n:Int)+(i:Int))]].flatten),.arr (sB A78 n78 c78) 228 2 (i+1) (((lvF rs wF i).map bH).flatten++[[ae (qtx r.2),.slice A4 n4 c4]].flatten),.obj b17 (.cells ⟨[.int .i64 n,.slice A71 n71 c71,.slice A78 n78 c78,.slice A1 n1 c1,ae [48],.slice Aw nw cw]⟩ 231 (0,0)),.arr (sO A1 n1 c1) 3 1 n (((List.range n)).map aW).flatten,.arr (sW Aw nw cw) 32 1 n (ob.map aQ).flatten,.arr (sF A4 n4 c4) 32 1 n (((List.range n).map fun q=>-r.1.getD q 0).map aQ).flatten]++(List.range i).map (opE n rs wF)
def opX1 (n:Nat)(rs:List (List Rat × Rat))(ob:List Rat)(b17:Nat)(Aw:Option Addr)(nw cw:Nat)(A1:Option Addr)(n1 c1:Nat)(i:Nat)(wF:Nat->Value)(A4:Option Addr)(n4 c4:Nat)(A71:Option Addr)(n71 c71:Nat)(A78:Option Addr)(n78 c78:Nat):List Ent:=[.arr (sA A71 n71 c71) 3 1 (i+1) ((lbF n (i+1)).map aW).flatten,.arr (sB A78 n78 c78) 228 2 (i+1) ((lvF rs (Jm wF i (.slice A4 n4 c4)) (i+1)).map bH).flatten,.obj b17 (.cells ⟨[.int .i64 n,.slice A71 n71 c71,.slice A78 n78 c78,.slice A1 n1 c1,ae [48],.slice Aw nw cw]⟩ 231 (0,0)),.arr (sO A1 n1 c1) 3 1 n (((List.range n)).map aW).flatten,.arr (sW Aw nw cw) 32 1 n (ob.map aQ).flatten]++(List.range (i+1)).map (opE n rs (Jm wF i (.slice A4 n4 c4)))
theorem dI {a:Nat}{b:Option Addr}{c d:Nat}{e:Option Addr}{f g:Nat}{r:List Rat × Rat}{h:Option Addr}{j k:Nat}{l:Option Addr}{m o:Nat}{p:Option Addr}{q s:Nat}(t:rs.getD i ([],0)=r):(Eo n rs ob a b c d e f g i wF r h j k l m o p q s).Perm (opX1 n rs ob a b c d e f g i wF h j k l m o p q s):=by
 unfold Eo opX1;rw[KJ,KA t,Kp t];simp only[R3,R4];exact List.Perm.append_left [_,_,_,_,_] (List.perm_append_singleton _ _).symm
theorem Kf (C:Mem)(_aO:Tabs C)(n:Nat)(rv ov:Value)(c:List (List Rat × Rat))(z:List Rat)(hr:RowsT C rv (c.map eA))(ho:Sl C 1 ov (z.map aQ))(hq:RowsQ n c)(hn:n<=1000)(av:z.length=n) :
  Jog.Fn cx.P 136 [.agg ⟨[i_ n,rv,ov]⟩] C [] fun u _aP x=>∃ b wB wL wO wW wF,u=p_ b/\x=(fk b n (Lp.openT (bZ n c) fun j=>z.getD j 0) wB wL wO wW wF).map Lent.ent:=by
 obtain⟨vs,aw,aC,W⟩:=hr;obtain⟨Ar,cr,rfl,ay,aR,_⟩:=id W;have hm:=hq.m;have aS:=mx_
 rw[oI aw]at W ay⊢;simp only[au]at W ay aw⊢;refine Vi func136 85 U3 fun w0=>?_;refine Vd fun R a=>?_;refine Vs U6 (fun X=>?_);refine C6 1 [1] a U ?_;clear a R;refine G.freeze 0 U (fun _ _ V=>?_);refine Vv [0,1,2,3,4,5,6,7,8] [(4,3),(1,0)] U kr_ (fun R I a=>?_);refine Vc U6 ?_;refine Wb (fun _=>((PtrTo.blockT V _ 1).mono I)) U9 ?_;refine Vc U6 ?_;refine Vb (bkT V 1) U8 ?_;refine D.call (Iy _ ov z ho.m_ om_) U (.inr dc_) U6 (Rw _) fl_ (fun aT _ aV _ aD=>?_);obtain⟨d,e,f,rfl,rfl⟩:=aD;refine Vu [ae [48],.slice d e f] U8 ?_;refine Vu [i_ n,.slice none 0 0,.slice none 0 0,.slice none 0 0,ae [48],.slice d e f] U8 ?_;refine Vs U6 (fun y=>?_);refine Vc U6 ?_;refine Vf [1,3] a U ?_;clear a I R;refine Va 1 U fun R a=>?_;refine Vb (bkT V 1) U8 ?_;refine C6 1 [1,3,19,20] a U ?_;clear a R;refine G.nilArr 3 1 ?_;refine Vr (L':=[.arr (sO none 0 0) 3 1 0 (((List.range 0)).map aW).flatten,.obj y (.cells ⟨[i_ n,.slice none 0 0,.slice none 0 0,.slice none 0 0,ae [48],.slice d e f]⟩ 231 (0,0)),.arr (sW d e f) 32 1 n (z.map aQ).flatten]) (by rw[av];rfl) ?_;refine G.loop (fun fr C' x O=>∃ (i:Nat)(t:Option Addr)(n1 v:Nat),(i<=n)/\fr=[(1,[],p_ X),(3,[],p_ y),(19,[],i_ n),(20,[],i_ i)]/\x=[.arr (sO t n1 v) 3 1 i (((List.range i)).map aW).flatten,.obj y (.cells ⟨[i_ n,.slice none 0 0,.slice none 0 0,.slice t n1 v,ae [48],.slice d e f]⟩ 231 (0,0)),.arr (sW d e f) 32 1 n (z.map aQ).flatten]/\O=n-i) (hn_ [1,3,19,20] U) ⟨0,none,0,0,Rv _,U,U,U⟩ (fun fr aX aY m _ Q=>?_);obtain⟨i,t,n1,v,hi,rfl,rfl,rfl⟩:=Q;refine U1 1 [1,3,19,20,21] U ?_;refine G.cd (fun ad=>?_) fun ad=>?_
 ·have az:i<n:=by
   have:=QL ad;omega
  refine U1 2 [1,3,4,19,20] U ?_;refine Va 4 U fun R a=>?_;refine Vj af U9 ?_;refine Vc U6 ?_;refine Vy [[i_ i]] U12 (fun aZ _ _ aE=>?_);refine VF (j:=0) U11 aE U ax (by show(i+1)*8<=_;omega) fl_ (fun ag ah aj=>?_);refine Ve 2 U ?_;refine Vk (j:=1) U12 ?_;refine Vf [1,3,19,20] a U ?_;clear a R;refine Vd fun R a=>?_;refine Vh _ U U6 ?_;refine C6 1 [1,3,19,20] a U ?_;clear a R;refine G.perm (L':=[.arr (sO ag ah aj) 3 1 (i+1) (((List.range (i+1))).map aW).flatten,.obj y (.cells ⟨[i_ n,.slice none 0 0,.slice none 0 0,.slice ag ah aj,ae [48],.slice d e f]⟩ 231 (0,0)),.arr (sW d e f) 32 1 n (z.map aQ).flatten]) (by rw[SC,R3,R4];exact List.Perm.swap _ _ _) ?_;refine Vn (m':=n-(i+1)) om_ mup (hn_ [1,3,19,20] U) ⟨i+1,ag,ah,aj,om_,U,U,U⟩
 have ak:i=n:=by
  have:=Rt ad;omega
 rw[ak];refine Va 1 U fun R a=>?_;refine Vb (bkT V 1) U8 ?_;refine C6 2 [1,3,35,36,37] a U ?_;clear a R;refine G.nilArr 228 2 ?_;refine G.nilArr 3 1 ?_;refine G.perm (L':=[.arr (sA none 0 0) 3 1 0 ((lbF n 0).map aW).flatten,.arr (sB none 0 0) 228 2 0 ((lvF c (fun _=>.slice none 0 0) 0).map bH).flatten,.obj y (.cells ⟨[i_ n,.slice none 0 0,.slice none 0 0,.slice t n1 v,ae [48],.slice d e f]⟩ 231 (0,0)),.arr (sO t n1 v) 3 1 n (((List.range n)).map aW).flatten,.arr (sW d e f) 32 1 n (z.map aQ).flatten]++(List.range 0).map (opE n c (fun _=>.slice none 0 0))) (by
  show List.Perm ([_,_,_,_,_]++[]) _
  (exact pkL [0,0,1,0,0] rfl)) ?_
 refine G.loop (fun fr C' x O=>∃ (i:Nat)(A2:Option Addr)(n2 c2:Nat)(K:Option Addr)(L M:Nat)(wF:Nat->Value),(i<=c.length)/\fr=[(1,[],p_ X),(3,[],p_ y),(35,[],.slice Ar c.length cr),(36,[],i_ c.length),(37,[],i_ i)]/\x=[.arr (sA A2 n2 c2) 3 1 i ((lbF n i).map aW).flatten,.arr (sB K L M) 228 2 i ((lvF c wF i).map bH).flatten,.obj y (.cells ⟨[i_ n,.slice A2 n2 c2,.slice K L M,.slice t n1 v,ae [48],.slice d e f]⟩ 231 (0,0)),.arr (sO t n1 v) 3 1 n (((List.range n)).map aW).flatten,.arr (sW d e f) 32 1 n (z.map aQ).flatten]++(List.range i).map (opE n c wF)/\O=c.length-i) (hn_ [1,3,35,36,37] U) ⟨0,none,0,0,none,0,0,fun _=>.slice none 0 0,Rv _,U,U,U⟩ (fun fr a0 a1 m _ Q=>?_);obtain⟨i,A2,n2,c2,K,L,M,wF,hi,rfl,rfl,rfl⟩:=Q;refine U1 1 [1,3,35,36,37,38] U ?_;refine G.cd (fun al=>?_) fun al=>?_
 ·have az:i<c.length:=by
   have:=QL al;omega
  obtain⟨r,Y⟩:∃ r,c[i]?=some r:=⟨c[i],ai az⟩;have N:c.getD i ([],0)=r:=by rw[am,Y];rfl
  have a2:r.1.length=n:=hq.l r (aU Y);obtain⟨aF,a3⟩:=hq.q r (aU Y);obtain⟨w,hw⟩:∃ w,vs[i]?=some w:=⟨vs[i]'om_,ai om_⟩;have aA:(c.map eA)[i]?=some (eA r):=by rw[Rr,Y];rfl
  have hx:=aC i w (eA r) hw aA;have an:Sl C 1 w (r.1.map aQ):=by rw[mK];exact hx
  obtain⟨Ax,aG,rfl,aH,a4,_⟩:=id an;simp only[au]at an aH hw;refine Va 1 U fun R a=>?_;refine Vq W.m_ U10 om_ (zj hw aA) fl_ (fun a5 aI=>?_);refine Vb aI U8 ?_;refine Vt U5 (fun b6=>?_);refine Vc U6 ?_;refine Vk (j:=0) U12 ?_;refine Vf [1,3,5,6,35,36,37] a U ?_;clear a R;refine G.freeze 0 U (fun _ _ aB=>?_);refine Va 1 U fun R a=>?_;refine Vb (bkT aB 1) U8 ?_;refine Vu [ae (qtx r.2),.slice none 0 0] U8 ?_;refine Vt U5 (fun Z=>?_);refine Vk (j:=0) U12 ?_;refine Vf [1,3,5,6,7,35,36,37] a U ?_;clear a R;refine Va 1 U fun R a=>?_;refine Vb (bkT aB 1) U8 ?_;refine C6 2 [1,3,5,7,35,36,37,46,47,48] a U ?_;clear a R;refine G.nilArr 32 1 ?_;refine Vr (L':=[.arr (sF none 0 0) 32 1 0 (((List.range 0).map fun q=>-r.1.getD q 0).map aQ).flatten,.obj Z (.cells ⟨[ae (qtx r.2),.slice none 0 0]⟩ 228 (0,0)),.arr (sA A2 n2 c2) 3 1 i ((lbF n i).map aW).flatten,.arr (sB K L M) 228 2 i ((lvF c wF i).map bH).flatten,.obj y (.cells ⟨[i_ n,.slice A2 n2 c2,.slice K L M,.slice t n1 v,ae [48],.slice d e f]⟩ 231 (0,0)),.arr (sO t n1 v) 3 1 n (((List.range n)).map aW).flatten,.arr (sW d e f) 32 1 n (z.map aQ).flatten]++(List.range i).map (opE n c wF)) U ?_;refine G.loop (fun fr C' x O=>∃ (j:Nat)(A:Option Addr)(B E:Nat),(j<=n)/\fr=[(1,[],p_ X),(3,[],p_ y),(5,[],i_ i),(7,[],p_ Z),(35,[],.slice Ar c.length cr),(36,[],i_ c.length),(37,[],i_ i),(46,[],.slice Ax r.1.length aG),(47,[],i_ r.1.length),(48,[],i_ j)]/\x=[.arr (sF A B E) 32 1 j (((List.range j).map fun q=>-r.1.getD q 0).map aQ).flatten,.obj Z (.cells ⟨[ae (qtx r.2),.slice A B E]⟩ 228 (0,0)),.arr (sA A2 n2 c2) 3 1 i ((lbF n i).map aW).flatten,.arr (sB K L M) 228 2 i ((lvF c wF i).map bH).flatten,.obj y (.cells ⟨[i_ n,.slice A2 n2 c2,.slice K L M,.slice t n1 v,ae [48],.slice d e f]⟩ 231 (0,0)),.arr (sO t n1 v) 3 1 n (((List.range n)).map aW).flatten,.arr (sW d e f) 32 1 n (z.map aQ).flatten]++(List.range i).map (opE n c wF)/\O=n-j) (hn_ [1,3,5,7,35,36,37,46,47,48] U) ⟨0,none,0,0,Rv _,U,U,U⟩ (fun fr a6 a7 m _ Q=>?_);obtain⟨j,A,B,E,hj,rfl,rfl,rfl⟩:=Q;refine U1 1 [1,3,5,7,35,36,37,46,47,48,49] U ?_;refine G.cd (fun ao=>?_) fun ao=>?_
  ·have a8:j<n:=by
    have:=QL ao;omega
   have aJ:QB 23 (r.1.getD j 0):=HR aF;refine Vd fun R a=>?_;refine Vq an.m_ U10 om_ (dO om_) fl_ (fun a9 aK=>?_);refine Vb aK U8 ?_;refine C6 1 [1,3,5,7,9,35,36,37,46,47,48] a U ?_;clear a R;refine Vv [0,1,2,3,4,5,6,7] [(3,1)] U kr_ (fun R I a=>?_);refine Vc U6 ?_;refine Vj af U9 ?_;refine Vc U6 ?_;refine Vx (fun _=>(eK _ (r.1.getD j 0) (RD (bd aJ dc_) dc_))) U9 ?_;refine Vy [[ae (qtx (-(r.1.getD j 0)))]] U12 (fun ba _ _ aL=>?_);refine VF (j:=0) U11 aL U ax (by show(j+1)*16<=_;omega) fl_ (fun ap aq ar=>?_);refine Vc U6 ?_;refine Vk (j:=1) U12 ?_;refine Vf [1,3,5,7,35,36,37,46,47,48] a U ?_;clear a I R;refine Vd fun R a=>?_;refine Vh _ U U6 ?_;refine C6 1 [1,3,5,7,35,36,37,46,47,48] a U ?_;clear a R;refine G.perm (L':=[.arr (sF ap aq ar) 32 1 (j+1) (((List.range (j+1)).map fun q=>-r.1.getD q 0).map aQ).flatten,.obj Z (.cells ⟨[ae (qtx r.2),.slice ap aq ar]⟩ 228 (0,0)),.arr (sA A2 n2 c2) 3 1 i ((lbF n i).map aW).flatten,.arr (sB K L M) 228 2 i ((lvF c wF i).map bH).flatten,.obj y (.cells ⟨[i_ n,.slice A2 n2 c2,.slice K L M,.slice t n1 v,ae [48],.slice d e f]⟩ 231 (0,0)),.arr (sO t n1 v) 3 1 n (((List.range n)).map aW).flatten,.arr (sW d e f) 32 1 n (z.map aQ).flatten]++(List.range i).map (opE n c wF)) (by rw[SC,R3,R3,R4];exact List.Perm.swap _ _ _) ?_;refine Vn (m':=n-(j+1)) om_ mup (hn_ [1,3,5,7,35,36,37,46,47,48] U) ⟨j+1,ap,aq,ar,om_,U,U,U⟩
  have aM:j=n:=by
   have:=Rt ao;omega
  rw[aM];refine G.freeze 1 U (fun _ _ aN=>?_);refine Vr (L':=[.arr (sF A B E) 32 1 n (((List.range n).map fun q=>-r.1.getD q 0).map aQ).flatten,.arr (sA A2 n2 c2) 3 1 i ((lbF n i).map aW).flatten,.arr (sB K L M) 228 2 i ((lvF c wF i).map bH).flatten,.obj y (.cells ⟨[i_ n,.slice A2 n2 c2,.slice K L M,.slice t n1 v,ae [48],.slice d e f]⟩ 231 (0,0)),.arr (sO t n1 v) 3 1 n (((List.range n)).map aW).flatten,.arr (sW d e f) 32 1 n (z.map aQ).flatten]++(List.range i).map (opE n c wF)) U ?_;refine G.cut (fun fr C' x O=>∃ (A7:Option Addr)(n7 c7:Nat)(A8:Option Addr)(n8 c8:Nat),(True)/\fr=[(1,[],p_ X),(3,[],p_ y),(35,[],.slice Ar c.length cr),(36,[],i_ c.length),(37,[],i_ i)]/\x=[.arr (sA A7 n7 c7) 3 1 (i+1) ((lbF n (i+1)).map aW).flatten,.arr (sB A8 n8 c8) 228 2 (i+1) ((lvF c (Jm wF i (.slice A B E)) (i+1)).map bH).flatten,.obj y (.cells ⟨[i_ n,.slice A7 n7 c7,.slice A8 n8 c8,.slice t n1 v,ae [48],.slice d e f]⟩ 231 (0,0)),.arr (sO t n1 v) 3 1 n (((List.range n)).map aW).flatten,.arr (sW d e f) 32 1 n (z.map aQ).flatten]++(List.range (i+1)).map (opE n c (Jm wF i (.slice A B E)))) ?_ (fun fr bb bc O be Q=>?_)
  ·refine VY (.cut [0,1,2,3,4,5,6,7,8,9,12,13,14,16] (.alt 10 (.cut [] (.alt 11 (.fin [15,17,18,19,20,21,22,23,24]) (.alt 15 (.cut [] (.alt 11 (.fin [17,18,19,20,21,22,23,24]) (.alt 17 (.fin [11,18,19,20,21,22,23,24]) .stop))) (.alt 17 (.cut [] (.alt 11 (.fin [15,18,19,20,21,22,23,24]) (.alt 15 (.fin [11,18,19,20,21,22,23,24]) .stop))) .stop)))) (.alt 15 (.cut [] (.alt 10 (.cut [] (.alt 11 (.fin [17,18,19,20,21,22,23,24]) (.alt 17 (.fin [11,18,19,20,21,22,23,24]) .stop))) (.alt 17 (.fin [10,11,18,19,20,21,22,23,24]) .stop))) (.alt 17 (.cut [] (.alt 10 (.cut [] (.alt 11 (.fin [15,18,19,20,21,22,23,24]) (.alt 15 (.fin [11,18,19,20,21,22,23,24]) .stop))) (.alt 15 (.fin [10,11,18,19,20,21,22,23,24]) .stop))) .stop)))) [(16,0)] U U kr_ (fun R I a F=>?_);refine Ve 5 U ?_;refine Vj aa U9 ?_;refine Vc U6 ?_;refine Vb (bkT V 1) U8 ?_;refine Vc U6 ?_;refine Vh _ U U6 ?_;refine Ve 3 U ?_;refine Wb (fun _=>((bkT aN 2).mono I)) U9 ?_;refine VL F U ⟨?_, ?_, ?_,trivial⟩
   ·refine Vy [[i_ ((n:Int)+(i:Int))]] U12 (fun ab ac _ J=>?_);refine VL F U ⟨?_, ?_, ?_,trivial⟩
    ·refine VF (j:=1) U11 J.m_ U ax (by show(i+1)*8<=_;omega) fl_ (fun g h k=>?_);refine Vj aa U9 ?_;refine Vy [[ae (qtx r.2),.slice A B E]] U12 (fun S T _ H=>?_);refine VF (j:=2) U11 H.m_ U ax (by show(i+1)*40<=_;omega) fl_ (fun o p s=>?_);refine Ve 2 U ?_;refine Vk (j:=3) U12 ?_;refine Ve 2 U ?_;refine Vk (j:=0) U12 ?_;refine Vf [1,3,35,36,37] a U ?_;clear a I F R;refine G.perm (L':=Eo n c z y d e f t n1 v i wF r A B E g h k o p s) (pkL [2,1,0,1,1,0] U) ?_;refine G.perm _ (dI N) ?_;exact Vp 0 mup (hn_ [1,3,35,36,37] U) ⟨g,h,k,o,p,s,trivial,U,U⟩
    ·refine Vj aa U9 ?_;refine VL F U ⟨?_, ?_,trivial⟩
     ·refine VF (j:=1) U11 J.m_ U ax (by show(i+1)*8<=_;omega) fl_ (fun g h k=>?_);refine Vy [[ae (qtx r.2),.slice A B E]] U12 (fun S T _ H=>?_);refine VF (j:=2) U11 H.m_ U ax (by show(i+1)*40<=_;omega) fl_ (fun o p s=>?_);refine Ve 2 U ?_;refine Vk (j:=3) U12 ?_;refine Ve 2 U ?_;refine Vk (j:=0) U12 ?_;refine Vf [1,3,35,36,37] a U ?_;clear a I F R;refine G.perm (L':=Eo n c z y d e f t n1 v i wF r A B E g h k o p s) (pkL [2,1,0,1,1,0] U) ?_;refine G.perm _ (dI N) ?_;exact Vp 0 mup (hn_ [1,3,35,36,37] U) ⟨g,h,k,o,p,s,trivial,U,U⟩
     refine Vy [[ae (qtx r.2),.slice A B E]] U12 (fun S T _ H=>?_);refine VF (j:=1) U11 J.m_ U ax (by show(i+1)*8<=_;omega) fl_ (fun g h k=>?_);refine VF (j:=2) U11 H.m_ U ax (by show(i+1)*40<=_;omega) fl_ (fun o p s=>?_);refine Ve 2 U ?_;refine Vk (j:=3) U12 ?_;refine Ve 2 U ?_;refine Vk (j:=0) U12 ?_;refine Vf [1,3,35,36,37] a U ?_;clear a I F R;refine G.perm (L':=Eo n c z y d e f t n1 v i wF r A B E g h k o p s) (pkL [2,1,0,1,1,0] U) ?_;refine G.perm _ (dI N) ?_;exact Vp 0 mup (hn_ [1,3,35,36,37] U) ⟨g,h,k,o,p,s,trivial,U,U⟩
    refine Vy [[ae (qtx r.2),.slice A B E]] U12 (fun S T _ H=>?_);refine VL F U ⟨?_, ?_,trivial⟩
    ·refine VF (j:=1) U11 J.m_ U ax (by show(i+1)*8<=_;omega) fl_ (fun g h k=>?_);refine Vj aa U9 ?_;refine VF (j:=2) U11 H.m_ U ax (by show(i+1)*40<=_;omega) fl_ (fun o p s=>?_);refine Ve 2 U ?_;refine Vk (j:=3) U12 ?_;refine Ve 2 U ?_;refine Vk (j:=0) U12 ?_;refine Vf [1,3,35,36,37] a U ?_;clear a I F R;refine G.perm (L':=Eo n c z y d e f t n1 v i wF r A B E g h k o p s) (pkL [2,1,0,1,1,0] U) ?_;refine G.perm _ (dI N) ?_;exact Vp 0 mup (hn_ [1,3,35,36,37] U) ⟨g,h,k,o,p,s,trivial,U,U⟩
    refine Vj aa U9 ?_;refine VF (j:=1) U11 J.m_ U ax (by show(i+1)*8<=_;omega) fl_ (fun g h k=>?_);refine VF (j:=2) U11 H.m_ U ax (by show(i+1)*40<=_;omega) fl_ (fun o p s=>?_);refine Ve 2 U ?_;refine Vk (j:=3) U12 ?_;refine Ve 2 U ?_;refine Vk (j:=0) U12 ?_;refine Vf [1,3,35,36,37] a U ?_;clear a I F R;refine G.perm (L':=Eo n c z y d e f t n1 v i wF r A B E g h k o p s) (pkL [2,1,0,1,1,0] U) ?_;refine G.perm _ (dI N) ?_;exact Vp 0 mup (hn_ [1,3,35,36,37] U) ⟨g,h,k,o,p,s,trivial,U,U⟩
   ·refine Vj aa U9 ?_;refine VL F U ⟨?_, ?_,trivial⟩
    ·refine Vy [[i_ ((n:Int)+(i:Int))]] U12 (fun ab ac _ J=>?_);refine VL F U ⟨?_, ?_,trivial⟩
     ·refine VF (j:=1) U11 J.m_ U ax (by show(i+1)*8<=_;omega) fl_ (fun g h k=>?_);refine Vy [[ae (qtx r.2),.slice A B E]] U12 (fun S T _ H=>?_);refine VF (j:=2) U11 H.m_ U ax (by show(i+1)*40<=_;omega) fl_ (fun o p s=>?_);refine Ve 2 U ?_;refine Vk (j:=3) U12 ?_;refine Ve 2 U ?_;refine Vk (j:=0) U12 ?_;refine Vf [1,3,35,36,37] a U ?_;clear a I F R;refine G.perm (L':=Eo n c z y d e f t n1 v i wF r A B E g h k o p s) (pkL [2,1,0,1,1,0] U) ?_;refine G.perm _ (dI N) ?_;exact Vp 0 mup (hn_ [1,3,35,36,37] U) ⟨g,h,k,o,p,s,trivial,U,U⟩
     refine Vy [[ae (qtx r.2),.slice A B E]] U12 (fun S T _ H=>?_);refine VF (j:=1) U11 J.m_ U ax (by show(i+1)*8<=_;omega) fl_ (fun g h k=>?_);refine VF (j:=2) U11 H.m_ U ax (by show(i+1)*40<=_;omega) fl_ (fun o p s=>?_);refine Ve 2 U ?_;refine Vk (j:=3) U12 ?_;refine Ve 2 U ?_;refine Vk (j:=0) U12 ?_;refine Vf [1,3,35,36,37] a U ?_;clear a I F R;refine G.perm (L':=Eo n c z y d e f t n1 v i wF r A B E g h k o p s) (pkL [2,1,0,1,1,0] U) ?_;refine G.perm _ (dI N) ?_;exact Vp 0 mup (hn_ [1,3,35,36,37] U) ⟨g,h,k,o,p,s,trivial,U,U⟩
    refine Vy [[ae (qtx r.2),.slice A B E]] U12 (fun S T _ H=>?_);refine Vy [[i_ ((n:Int)+(i:Int))]] U12 (fun ab ac _ J=>?_);refine VF (j:=1) U11 J.m_ U ax (by show(i+1)*8<=_;omega) fl_ (fun g h k=>?_);refine VF (j:=2) U11 H.m_ U ax (by show(i+1)*40<=_;omega) fl_ (fun o p s=>?_);refine Ve 2 U ?_;refine Vk (j:=3) U12 ?_;refine Ve 2 U ?_;refine Vk (j:=0) U12 ?_;refine Vf [1,3,35,36,37] a U ?_;clear a I F R;refine G.perm (L':=Eo n c z y d e f t n1 v i wF r A B E g h k o p s) (pkL [2,1,0,1,1,0] U) ?_;refine G.perm _ (dI N) ?_;exact Vp 0 mup (hn_ [1,3,35,36,37] U) ⟨g,h,k,o,p,s,trivial,U,U⟩
   refine Vy [[ae (qtx r.2),.slice A B E]] U12 (fun S T _ H=>?_);refine VL F U ⟨?_, ?_,trivial⟩
   ·refine Vy [[i_ ((n:Int)+(i:Int))]] U12 (fun ab ac _ J=>?_);refine VL F U ⟨?_, ?_,trivial⟩
    ·refine VF (j:=1) U11 J.m_ U ax (by show(i+1)*8<=_;omega) fl_ (fun g h k=>?_);refine Vj aa U9 ?_;refine VF (j:=2) U11 H.m_ U ax (by show(i+1)*40<=_;omega) fl_ (fun o p s=>?_);refine Ve 2 U ?_;refine Vk (j:=3) U12 ?_;refine Ve 2 U ?_;refine Vk (j:=0) U12 ?_;refine Vf [1,3,35,36,37] a U ?_;clear a I F R;refine G.perm (L':=Eo n c z y d e f t n1 v i wF r A B E g h k o p s) (pkL [2,1,0,1,1,0] U) ?_;refine G.perm _ (dI N) ?_;exact Vp 0 mup (hn_ [1,3,35,36,37] U) ⟨g,h,k,o,p,s,trivial,U,U⟩
    refine Vj aa U9 ?_;refine VF (j:=1) U11 J.m_ U ax (by show(i+1)*8<=_;omega) fl_ (fun g h k=>?_);refine VF (j:=2) U11 H.m_ U ax (by show(i+1)*40<=_;omega) fl_ (fun o p s=>?_);refine Ve 2 U ?_;refine Vk (j:=3) U12 ?_;refine Ve 2 U ?_;refine Vk (j:=0) U12 ?_;refine Vf [1,3,35,36,37] a U ?_;clear a I F R;refine G.perm (L':=Eo n c z y d e f t n1 v i wF r A B E g h k o p s) (pkL [2,1,0,1,1,0] U) ?_;refine G.perm _ (dI N) ?_;exact Vp 0 mup (hn_ [1,3,35,36,37] U) ⟨g,h,k,o,p,s,trivial,U,U⟩
   refine Vj aa U9 ?_;refine Vy [[i_ ((n:Int)+(i:Int))]] U12 (fun ab ac _ J=>?_);refine VF (j:=1) U11 J.m_ U ax (by show(i+1)*8<=_;omega) fl_ (fun g h k=>?_);refine VF (j:=2) U11 H.m_ U ax (by show(i+1)*40<=_;omega) fl_ (fun o p s=>?_);refine Ve 2 U ?_;refine Vk (j:=3) U12 ?_;refine Ve 2 U ?_;refine Vk (j:=0) U12 ?_;refine Vf [1,3,35,36,37] a U ?_;clear a I F R;refine G.perm (L':=Eo n c z y d e f t n1 v i wF r A B E g h k o p s) (pkL [2,1,0,1,1,0] U) ?_;refine G.perm _ (dI N) ?_;exact Vp 0 mup (hn_ [1,3,35,36,37] U) ⟨g,h,k,o,p,s,trivial,U,U⟩
  obtain⟨A7,n7,c7,A8,n8,c8,_,rfl,rfl⟩:=Q;refine Vd fun R a=>?_;refine Vh _ U U6 ?_;refine C6 1 [1,3,35,36,37] a U ?_;clear a R;refine Vn (m':=c.length-(i+1)) om_ mup (hn_ [1,3,35,36,37] U) ⟨i+1,A7,n7,c7,A8,n8,c8,(Jm wF i (.slice A B E)),om_,U,U,U⟩
 have ak:i=c.length:=by
  have:=Rt al;omega
 refine U1 2 [2] U ?_;rw[ak];refine G.perm (L':=(fk y n (Lp.openT (bZ n c) fun j=>z.getD j 0) (.slice A2 n2 c2) (.slice K L M) (.slice t n1 v) (.slice d e f) wF).map Lent.ent) (by rw[GV av];(exact pkL [2,0,0,0] U)) ?_;refine Vo (VM U U ?_);exact⟨y,.slice A2 n2 c2,.slice K L M,.slice t n1 v,.slice d e f,wF,U,U⟩
def Wl (D:Int)(q:Rat):Prop:=∃ z:Int,q*(D:Rat)=(z:Rat)/\z.natAbs<=999999999
def RowI (r:RowQ):Prop:=∃ D:Int,D≠0/\D.natAbs<=999999999/\(∀ q∈r.f,Wl D q)/\Wl D r.b
def eg (rows:List RowQ):List (List Rat × Rat):=rows.map fun r=>(r.f,r.b)
theorem Wl.zero (D:Int):Wl D 0:=⟨0,by grind,by decide⟩
theorem Wl.neg {D:Int}{q:Rat}(h:Wl D q):Wl D (-q):=by
 obtain⟨z,h1,h2⟩:=h;exact⟨-z,by rw[Rat.intCast_neg,<- h1];grind,by omega⟩
theorem Wl.sg {D:Int}{q a:Rat}(h:Wl D q)(b:a=1∨a=-1):Wl D (a*q):=by
 rcases b with rfl|rfl
 ·rw[Rat.one_mul];exact h
 rw[show(-1:Rat)*q=-q by grind];exact h.neg
theorem nu (h:i<rows.length):(eg rows).getD i ([],0)=(rows[i].f,rows[i].b):=by
 unfold eg;rw[am,Rr,ai h];rfl
theorem Hq {d:Nat}(g:n<=12)(h:∀ r∈rows,RowI r)(k:∃ D:Int,D≠0/\D.natAbs<=d/\∀ j,j<n->∃ z:Int,cc j*(D:Rat)=(z:Rat)/\z.natAbs<=d)(l:∀ n,n<=12->(n+1)*(d*Lp.fctM (2*999999999) n)<B9 ^ 20):Lp.Lim (bZ n (eg rows)) cc 20:=by
 have o:∀ r:Nat,∃ D:Int,∀ hr:r<rows.length,D≠0/\D.natAbs<=999999999/\(∀ q∈rows[r].f,Wl D q)/\Wl D rows[r].b:=fun r=>by
  by_cases hr:r<rows.length
  ·obtain⟨D,c⟩:=h rows[r] (Sj hr);exact⟨D,fun _=>c⟩
  exact⟨0,fun h=>absurd h hr⟩
 obtain⟨D,c⟩:=Classical.axiomOfChoice o;obtain⟨p,s,c2,t⟩:=k;have hm:(bZ n (eg rows)).m=rows.length:=au _;have u:Lp.bdQ (bZ n (eg rows)) 999999999<B9 ^ 20:=by
  unfold Lp.bdQ Lp.bdT;have:∀ n,n<=12->(n+1)*(999999999*Lp.fctM (2*999999999) n)<B9 ^ 20:=by decide +kernel
  exact this _ g
 refine⟨⟨D,999999999,d,p,by decide,⟨fun r hr=>?_,fun r j hr i=>?_,fun r hr=>?_⟩,⟨s,c2⟩,fun j i=>?_,u,by unfold Lp.bdW Lp.bdT;exact l _ g⟩⟩
 ·rw[hm]at hr;exact⟨(c r hr).1,(c r hr).2.1⟩
 ·rw[hm]at hr;have e:(bZ n (eg rows)).a r j=rows[r].f.getD j 0:=by show((eg rows).getD r ([],0)).1.getD j 0=_;rw[nu hr]
  have v:Wl (D r) (rows[r].f.getD j 0):=by
   rw[am];cases w:rows[r].f[j]? with
  |none=>exact Wl.zero _
  |some q=>exact(c r hr).2.2.1 q (aU w)
  obtain⟨z,h1,h2⟩:=v;exact⟨z,by rw[e,UT];exact h1,h2⟩
 ·rw[hm]at hr;have e:(bZ n (eg rows)).b r=rows[r].b:=by show((eg rows).getD r ([],0)).2=_;rw[nu hr]
  obtain⟨z,h1,h2⟩:=(c r hr).2.2.2;exact⟨z,by rw[e,UT];exact h1,h2⟩
 obtain⟨z,h1,h2⟩:=t j i;exact⟨z,by rw[UT];exact h1,h2⟩
theorem uV (a:n<=12)(h:∀ r∈rows,RowI r)(b:∃ D:Int,D≠0/\D.natAbs<=999999999/\∀ j,j<n->Wl D (cc j)):Lp.Lim (bZ n (eg rows)) cc 20:=Hq a h b aq
theorem KE (a:n<=12)(h:∀ r∈rows,RowI r):Lp.Lim (bZ n (eg rows)) (fun _=>0) 20:=uV a h ⟨1,by decide,by decide,fun _ _=>Wl.zero _⟩
theorem xf {p:Nat}{c:List (Nat × Rat)}{b a:Rat}{D:Int}(d:a=1∨a=-1)(e:D≠0)(f:D.natAbs<=999999999)(g:∀ x∈c,Wl D x.2)(h:Wl D b):RowI (gZ s p k c b a):=by
 refine⟨D,e,f,uw (Wl.zero _) (fun x i=>?_),h.sg d⟩;obtain⟨y,hy,rfl⟩:=Rs.1 i;exact(g y hy).sg d
theorem M8 {pts:List Pt}{t:Tri}{fs:List Rat}{p:Pt}(e:∀ j,Qtr (cor pts t j))(f:cJ (cor pts t 0) (cor pts t 1) (cor pts t 2)≠0)(g:∀ j,Hlf (fz fs t j))(z:Qtr p) :
  ∃ W:Int,W≠0/\W.natAbs<=2880000/\(∀ j,∃ N:Int,wgt pts t p j*W=N/\N.natAbs<=2880000)/\(∃ N:Int,onQ pts fs t p*((2*W:Int):Rat)=N/\N.natAbs<=600000000) /\
   ∀ j,(∃ N:Int,(slf pts t j).1*W=N/\N.natAbs<=400000)/\∃ N:Int,(slf pts t j).2*W=N/\N.natAbs<=400000:=by
 obtain⟨x0,y0,h0,m,o⟩:=e 0;obtain⟨x1,y1,h1,q,r⟩:=e 1;obtain⟨x2,y2,h2,s,u⟩:=e 2;obtain⟨x3,y3,h3,h⟩:=id z;obtain⟨k0,v,A⟩:=g 0;obtain⟨k1,w,B⟩:=g 1;obtain⟨k2,x,C⟩:=g 2;have D:=yi (x0:=x0) (y0:=y0) (x1:=x1) (y1:=y1) (x2:=x2) (y2:=y2) ⟨m,o,q,r,s,u⟩;refine⟨iA x0 y0 x1 y1 x2 y2,(jb h0 h1 h2 v w x f).1,D,fun j=>?_,⟨_,Mo h0 h1 h2 h3 v w x f,P5 ⟨m,o,q,r,s,u⟩ h ⟨A,B,C⟩⟩,fun j=>?_⟩
 ·obtain⟨M,O,h4,E,F⟩:=e ((j+1) % 3);obtain⟨P,Q,h5,G,H⟩:=e ((j+2) % 3);exact⟨_,(pZ (kv h3 h4 h5) (kv h0 h1 h2) f).2,yi ⟨h.1,h.2,E,F,G,H⟩⟩
 have l:=fun i=>BE (n:=pts.length) (k:=gY t j) (t:=t) i;obtain⟨u0,g0,R⟩:=l 0;obtain⟨u1,I,l1⟩:=l 1;obtain⟨y,J,l2⟩:=l 2;obtain⟨_,K,L⟩:=jb h0 h1 h2 g0 I J f;have S:=km (a:=u1-u0) (b:=y2-y0) (c:=y1-y0) (d:=y-u0) ⟨by omega,by omega,by omega,by omega⟩;have T:=km (a:=u1-u0) (b:=x2-x0) (c:=x1-x0) (d:=y-u0) ⟨by omega,by omega,by omega,by omega⟩;exact⟨⟨_,K,by omega⟩,⟨_,L,by omega⟩⟩
theorem Po {W:Int}{q:Rat}{N:Int}(h:q*(W:Rat)=N)(a:N.natAbs<=400000000):Wl (2*W) q:=⟨2*N,by rw[Si,Si,<- h];grind,by omega⟩
theorem IQ {t:Tri}{f:Nat->Rat}{P:Rat->Prop}(h:∀ j,P (f j)):∀ x∈atT t f,P x.2:=gz (P:=fun x=>P x.2) (h 0) (h 1) (h 2)
theorem Ld (n:Nat):lC ((n % 12:Nat):Int) 2*2=(((n % 12:Nat):Int):Rat):=oX dc_
theorem Ns (S:Sht)(H:Hts)(B:Bk)(s:Sgt)(i:Nat)(o:SgtR s)(p:B.pts=cA (S.kd % 8) S.a S.b S.h):∀ r∈rowsO B (ft S s i) (kX S s) (tK S s) (zK S H s),RowI r:=by
 obtain⟨pts,tris,terr,col,obs⟩:=B;simp only at p;subst p;obtain⟨A,_⟩:=gH (S.kd % 8) (R9 _ dc_) S.a S.b S.h;obtain⟨_,C⟩:=locK S s o;have D:=iv A.ok (aU C);obtain⟨W,E,g,F,⟨d,u,O⟩,v⟩:=M8 (pts:=cA (S.kd % 8) S.a S.b S.h) (t:=tK S s) (fs:=fsK (cA (S.kd % 8) S.a S.b S.h).length H) (fun j=>rz j) D (fun j=>Mz j) (Cs S s o);have l:∀ j,Wl (2*W) (wgt (cA (S.kd % 8) S.a S.b S.h) (tK S s) (kX S s) j):=fun j=>by
  obtain⟨N,e,b⟩:=F j;exact Po e om_
 have m:Wl (2*W) (lH (ft S s i) (zK S H s)):=by
  unfold lH;split
  ·rename_i G;rw[CI S s i G,cR (ok1 (tI s.depth))];have f:=Ld s.depth;have I:zK S H s*((2*W:Int):Rat)=d:=u;refine⟨d-((s.depth % 12:Nat):Int)*W, ?_, ?_⟩
   ·simp only[TP,Si,<- f];rw[show((d:Int):Rat)=zK S H s*((2*W:Int):Rat) from I.symm];simp only[Si];grind
   have:=dA (a:=((s.depth % 12:Nat):Int)) (b:=W) (M:=11) om_ g;omega
  exact⟨d,u,by omega⟩
 have n:∀ sg∈([1, -1]:List Rat),sg=1∨sg=-1:=by simp
 intro r hr;unfold rowsO at hr;split at hr
 ·rcases RF.1 hr with h|h <;> split at h
  ·rw[RK.1 h];exact xf (.inl rfl) om_ om_ (IQ l) m
  ·simp at h
  ·rw[RK.1 h];exact xf (.inr rfl) om_ om_ (IQ l) m
  simp at h
 rename_i h1;split at hr
 ·obtain⟨k,_,h⟩:=List.mem_flatMap.1 hr;obtain⟨sg,c,rfl⟩:=Rs.1 h;exact xf (n sg c) om_ om_ (IQ l) m
 rename_i h2;have P:=oz s.n0;have Q:=oz s.n1;have R:=oU s.n2;have w:=uX s.n2;have f:rm (ft S s i)*(fp s.n2:Int)=((-(s.n0.tmod 5):Int):Rat)/\jo (ft S s i)*(fp s.n2:Int)=((-(s.n1.tmod 5):Int):Rat):=by
  have J:=ek (s.n0.tmod 5) om_;have l1:=ek (s.n1.tmod 5) om_;have l2:=ek (fp s.n2) om_;have T:((fp s.n2:Int):Rat)≠0:=by exact_mod_cast w
  revert h1 h2;unfold rm jo ft;split
  ·intro h1;exact absurd rfl h1
  split
  ·intro _ h2;exact absurd rfl h2
  intro _ _;simp only;rw[cR (ok1 J),cR (ok1 l1),cR (ok1 l2),Rat.intCast_neg,Rat.intCast_neg];constructor <;> grind
 have hm:(W*fp s.n2).natAbs<=2880000*4:=dA g om_;have x:W*fp s.n2≠0:=Int.mul_ne_zero E w;have y:∀ {q:Rat}{N:Int},q*(W:Rat)=N->N.natAbs<=400000->Wl (W*fp s.n2) q:=fun {q N} e b=>⟨N*fp s.n2,by rw[Si,Si,<- e];grind,by have:=dA b (show(fp s.n2).natAbs<=4 by omega);omega⟩;have K:∀ j,Wl (W*fp s.n2) (slf (cA (S.kd % 8) S.a S.b S.h) (tK S s) j).1:=fun j=>by
  obtain⟨N,e,b⟩:=(v j).1;exact y e b
 have L:∀ j,Wl (W*fp s.n2) (slf (cA (S.kd % 8) S.a S.b S.h) (tK S s) j).2:=fun j=>by
  obtain⟨N,e,b⟩:=(v j).2;exact y e b
 have z:∀ {q:Rat}{N:Int},q*((fp s.n2:Int):Rat)=N->N.natAbs<=4->Wl (W*fp s.n2) q:=fun {q N} e b=>⟨N*W,by rw[Si,Si,<- e];grind,by have:=dA b g;omega⟩;obtain⟨k,_,h⟩:=List.mem_flatMap.1 hr;rcases RF.1 h with h|h
 ·obtain⟨sg,c,rfl⟩:=Rs.1 h;exact xf (n sg c) x om_ (IQ K) (z f.1 om_)
 obtain⟨sg,c,rfl⟩:=Rs.1 h;exact xf (n sg c) x om_ (IQ L) (z f.2 om_)
theorem PK (S:Sht)(H:Hts)(l:List Sgt)(s:Sgt)(i:Nat)(a:SgtR s):∀ r∈rowsO (dW S H l) (ft S s i) (kX S s) (tK S s) (zK S H s),RowI r:=Ns S H _ s i a rfl
def QJ (x:Lay):Prop:=(∃ z:Int,x.min=z/\z.natAbs<=1000)/\∀ m,x.max=some m->∃ z:Int,m=z/\z.natAbs<=1000
theorem By {q:Rat}{z:Int}(e:q=z)(h:z.natAbs<=1000):Wl 1 q:=⟨z,by rw[e];show _*(1:Rat)=_;grind,by omega⟩
theorem Pv {a:Nat}{u v:Rat}{c:Rat}(f:u=1∨u=-1)(g:v=1∨v=-1)(i:Wl 1 c):RowI ⟨sJ n [(a,u),(b,v)],c⟩:=by
 have d:∀ q:Rat,q=1∨q=-1->Wl 1 q:=fun q h=>by
  rcases h with rfl|rfl
  ·exact By (z:=1) aq dc_
  exact By (z:=-1) aq dc_
 refine⟨1,by decide,by decide,uw (Wl.zero _) (fun x e=>?_),i⟩;simp only[RC,Ss,TS]at e;rcases e with rfl|rfl
 ·exact d _ f
 exact d _ g
theorem Js {p:Nat}{x:Lay}(h:QJ x):∀ r∈kH s p x i k,RowI r:=by
 obtain⟨z,a,b⟩:=h.1;intro r hr;unfold kH at hr;rcases RC.1 hr with rfl|hr
 ·exact Pv (.inr U) (.inl U) (By a b).neg
 split at hr
 ·cases hr
 rename_i m hm;obtain⟨z,a,b⟩:=h.2 m hm;rw[RK.1 hr];exact Pv (.inl U) (.inr U) (By a b)
theorem BM {s p:Nat}{x:Lay}{i:Nat}(h:QJ x):∀ k,∀ r∈bA s p x i k,RowI r
|0,r,hr=>by cases hr
|k+1,r,hr=>by
  rcases RF.1 hr with h1|h1
  ·exact BM h k r h1
  exact Js h r h1
theorem BL {s p:Nat}{a:List Lay}(h:∀ x∈a,QJ x):∀ n,∀ r∈bj s p a n,RowI r
|0,r,hr=>by cases hr
|n+1,r,hr=>by
  rcases RF.1 hr with h1|h1
  ·exact BL h n r h1
  refine BM ?_ _ r h1;rw[am];cases b:a[n+1]? with
 |none=>exact⟨⟨0,rfl,by decide⟩,fun m hm=>by cases hm⟩
 |some x=>exact h x (aU b)
theorem Ri:∀ x∈colK,QJ x:=by
 intro x a;simp only[colK,RC,Ss,TS]at a;rcases a with rfl|rfl|rfl
 ·exact⟨⟨0,U,by decide⟩,fun m hm=>by cases hm⟩
 ·exact⟨⟨0,U,by decide⟩,fun m hm=>by cases hm;exact⟨5,U,by decide⟩⟩
 exact⟨⟨1,U,by decide⟩,fun m hm=>by cases hm⟩
theorem EN (h:FeasO p t u):∃ (row:Int)(a:Bool),u=.tuple #[i_ row,.bool a]/\(a=true->t.Feas p.n) /\
  (a=false->∃ r:Nat,row=r/\r<t.basic.length/\p.n<=t.bas r/\(t.line r).c<0/\∀ s,s<t.others.length->p.n<=t.oth s->(t.line r).g s<=0):=by
 cases h with
|yes h=>exact⟨0,true,rfl,fun _=>h,fun h=>by cases h⟩
|no r h1 h2 h3 h4=>exact⟨r,false,rfl,fun h=>(by cases h),fun _=>⟨r,rfl,h1,h2,h3,h4⟩⟩
theorem Hb (h:MinO p t u):∃ (b:Int)(a:Bool),u=.tuple #[i_ b,.bool a]/\(a=true->Lp.RelW p.n t/\∀ s,s<t.others.length->p.n<=t.oth s->0<=t.worth.g s) /\
  (a=false->∃ s:Nat,b=s/\s<t.others.length/\lF t s*t.worth.g s<0/\(∀ i,i<t.basic.length->p.n<=t.bas i->0<=lF t s*(t.line i).g s)/\(p.n<=t.oth s->0<=lF t s)):=by
 cases h with
|yes h1 h2=>exact⟨0,true,rfl,fun _=>⟨h1,h2⟩,fun h=>by cases h⟩
|no s h1 h2 h3 h4=>exact⟨s,false,rfl,fun h=>(by cases h),fun _=>⟨s,rfl,h1,h2,h3,h4⟩⟩
inductive SolO (p:Lp.Sys) (cc:Nat->Rat) (D:Mem):Value->Prop where
|opt (val:Rat) (pt du:Nat->Rat) (vp vd:Value):Lp.OptR p cc 20 val pt du->Sl D 1 vp (((List.range p.n).map pt).map aQ)->Sl D 1 vd (((List.range p.m).map du).map aQ)->SolO p cc D (.agg ⟨[.int .i64 1,ae (qtx val),vp,vd,.slice none 0 0]⟩)
|inf (du:Nat->Rat) (vd:Value):Lp.InfR p 20 du->Sl D 1 vd (((List.range p.m).map du).map aQ)->SolO p cc D (.agg ⟨[.int .i64 2,ae [],.slice none 0 0,vd,.slice none 0 0]⟩)
|unb (pt ra:Nat->Rat) (vp vr:Value):Lp.UnbR p cc 20 pt ra->Sl D 1 vp (((List.range p.n).map pt).map aQ)->Sl D 1 vr (((List.range p.n).map ra).map aQ)->SolO p cc D (.agg ⟨[.int .i64 3,ae [],vp,.slice none 0 0,vr]⟩)
theorem J4 :lF t s=1∨lF t s=-1:=by unfold lF;split <;> simp
theorem BV (C:Mem)(x:Tabs C)(n:Nat)(X F:Value)(k:List (List Rat × Rat))(l:List Rat)(H:RowsT C X (k.map eA))(ho:Sl C 1 F (l.map aQ))(Y:RowsQ n k)(Z:n<=1000)(ai:l.length=n)(f:Lp.Lim (bZ n k) (fun j=>l.getD j 0) 20) :
  Pur cx.P 74 [.agg ⟨[i_ n,X,F]⟩] C fun u D=>SolO (bZ n k) (fun j=>l.getD j 0) D u:=by
 have aS:=mx_
 have hm:=Y.m;have aj:=H;obtain⟨vs,al,_,am⟩:=aj;obtain⟨Ar,cr,rfl,_⟩:=id am;rw[oI al,au]at H⊢;obtain⟨p,I⟩:∃ p,bZ n k=p:=⟨_,rfl⟩;obtain⟨cc,an⟩:∃ cc:Nat->Rat,(fun j=>l.getD j 0)=cc:=⟨_,rfl⟩;have ao:p.n=n:=by rw[<- I];rfl
 have ap:p.m=k.length:=by rw[<- I];rfl
 have z:=fun(D:Mem)(J:C.le D)=>Kf D (x.mono J) n (.slice Ar k.length cr) F k l (H.mono J) (ho.mono J) Y Z ai;rw[I,an]at f z⊢;rw[<- ao]at z Z⊢;rw[<- ap]at z⊢;refine Vi func74 57 U3 fun w0=>?_;refine Vd fun R a=>?_;refine Vs U6 (fun b1=>?_);refine Vt U5 (fun b2=>?_);refine Vf [1,2] a U ?_;clear a R;refine G.freeze 1 U (fun _ _ K=>?_);refine VB [(1,3)] U (fun R a=>?_);refine Vb (bkT K 3) U8 ?_;refine D.call (z _ mup) U (.inr dc_) U6 (Rw _) fl_ (fun v9 C9 L9 _ aq=>?_);obtain⟨b,wB,wL,wO,wW,wF,rfl,rfl⟩:=aq;refine C6 1 [1,2,3] a U ?_;clear a R;refine VB [(1,3)] U (fun R a=>?_);refine Vc U6 ?_;refine D.call (Ee _ x.m_ p cc b _ wB wL wO wW wF Lp.openT_inv U f om_ om_) U (.inr dc_) U6 (Rw _) fl_ (fun aT _ aU _ ar=>?_);refine Vf [1,2,3] a U ?_;clear a R;obtain⟨-,t1,av,aw,ax,rfl⟩:=ar;refine VB [(1,3)] U (fun R a=>?_);refine Vc U6 ?_;refine D.call (AC _ x.m_ p cc b t1 wB wL wO wW av aw ax f om_ om_) U (.inr dc_) U6 (Rw _) fl_ (fun aV _ aW _ ay=>?_);obtain⟨t,aa,w,ab,hF,rfl⟩:=ay;obtain⟨row,is,rfl,az,aA⟩:=EN hF;refine C6 5 [1,2,3,4,5] a U ?_;clear a R;refine U1 2 [1,2,3,4,18] U ?_;refine G.cd (fun L=>?_) fun L=>?_
 ·have M:is=false:=by simpa using L
  obtain⟨r,rfl,N,ac,aB,aC⟩:=aA M;refine Wm (fk b p.n t wB wL wO wW aa) (gu w.tab.ok) (fun C5 _ y=>?_);have h:=ff w.tab.ok y;refine Va 3 U fun R a=>?_;refine Vb (bkT K 1) U8 ?_;refine Vc U6 ?_;refine VC (J3 _ p b r t wB wL wO wW _ h.m_ w.tab om_ N ac (fun q=>(w.dualQ f dc_ N q).le dc_)) U7 fl_ (fun aX _ _ aD=>?_);obtain⟨g,rfl,hg⟩:=aD;refine Vu [i_ 2,ae [],.slice none 0 0,s_ g p.m p.m,.slice none 0 0] U8 ?_;refine Vk (j:=0) U12 ?_;refine Vf [2] a U ?_;clear a R;refine Vo (VU ag U4 ?_);exact⟨U,.inf _ _ (w.inf f dc_ ab N ac aB aC) hg.m_⟩
 have M:is=true:=by simpa using L
 have aE:=az M;refine VB [(1,3)] U (fun R a=>?_);refine Vc U6 ?_;refine D.call (zR _ x.m_ p cc b t wB wL wO wW aa w ab aE f om_ om_) U (.inr dc_) U6 (Rw _) fl_ (fun aY _ aZ _ aF=>?_);obtain⟨d,ad,e,af,hM,rfl⟩:=aF;obtain⟨a0,ah,rfl,aG,aH⟩:=Hb hM;refine C6 5 [1,2,3,6,7] a U ?_;clear a R;refine U1 2 [1,2,3,6,32] U ?_;refine G.cd (fun O=>?_) fun O=>?_
 ·have Q:ah=false:=by simpa using O
  obtain⟨s,rfl,A,aI,aJ,aK⟩:=aH Q;refine Wm (fk b p.n d wB wL wO wW ad) (gu e.tab.ok) (fun C5 _ y=>?_);have h:=ff e.tab.ok y;refine VB [(1,3),(4,3)] U (fun R a=>?_);refine Vc U6 ?_;refine D.call (Cy _ b p.n (p.n+p.m) d wB wL wO wW _ h.m_ e.tab.ok om_) U (.inr dc_) U6 (Rw _) fl_ (fun a1 _ a2 _ aL=>?_);obtain⟨S,rfl,rfl⟩:=aL;refine Ve 2 U ?_;refine D.call (PU _ x.m_ p b s d wB wL wO wW _ h.m_ e.tab A om_ (fun i hi=>e.fac f hi A) (e.wfac f A)) U (.inr dc_) U6 (Rw _) fl_ (fun a3 _ a4 _ aM=>?_);obtain⟨B,rfl,rfl⟩:=aM;refine Vu [i_ 3,ae [],s_ S p.n p.n,.slice none 0 0,s_ B p.n p.n] U8 ?_;refine Vk (j:=2) U12 ?_;refine Vf [2] a U ?_;clear a R;refine G.freezeArr 1 (((List.range p.n).map fun v=>lF d s*d.dir s v).map aQ) U U bS ak (fun C8 _ T=>?_);refine G.freezeArr 1 (((List.range p.n).map d.sol).map aQ) U U bS ak (fun C9 _ V=>?_);refine Vo (VU ag U4 ?_);exact⟨U,.unb _ _ _ _ (e.unb f dc_ af A J4 aI aJ aK) V T.m_⟩
 have Q:ah=true:=by simpa using O
 obtain⟨aN,aO⟩:=aG Q;refine Wm (fk b p.n d wB wL wO wW ad) (gu e.tab.ok) (fun C5 _ y=>?_);have h:=ff e.tab.ok y;refine Vv [0,1,2,3,4,5,7,8,9,10,11,12,13,14,6,15,16,17,18] [(6,3),(15,3),(4,0),(11,0),(13,0)] U kr_ (fun R E a=>?_);refine Ve 4 U ?_;refine Wb (fun _=>((PtrTo.blockT h.o _ 1).mono E)) U9 ?_;refine Ve 5 U ?_;refine Wb (fun _=>((PtrTo.blockT h.o _ 2).mono E)) U9 ?_;refine Vc U6 ?_;refine Wb (fun _=>((bkT K 1).mono E)) U9 ?_;refine Vc U6 ?_;refine D.call (Cy _ b p.n (p.n+p.m) d wB wL wO wW _ h.m_ e.tab.ok om_) U (.inr dc_) U6 (Rw _) fl_ (fun a5 _ a6 _ aP=>?_);refine D.call (H7 _ p b d d.worth wB wL wO wW wW _ h.m_ e.tab om_ h.W.m_ e.tab.ok.wl) U (.inr dc_) U6 (Rw _) fl_ (fun a7 _ a8 _ aR=>?_);obtain⟨B,rfl,rfl⟩:=aR;obtain⟨S,rfl,rfl⟩:=aP;refine Vu [s_ B p.m p.m] U8 ?_;refine Vu [i_ 1,ae (qtx d.worth.c),s_ S p.n p.n,s_ B p.m p.m,.slice none 0 0] U8 ?_;refine Vk (j:=2) U12 ?_;refine Vf [2] a U ?_;clear a E R;refine G.freezeArr 1 (((List.range p.m).map (Lp.dualV p d d.worth)).map aQ) U U bS ak (fun C8 _ T=>?_);refine G.freezeArr 1 (((List.range p.n).map d.sol).map aQ) U U bS ak (fun C9 _ V=>?_);refine Vo (VU ag U4 ?_);exact⟨U,.opt _ _ _ _ _ (e.opt f dc_ af aN aO) V T.m_⟩
theorem Oq (C:Mem)(n:Nat)(j:n<=1000000):Jog.Fn cx.P 212 [.slice none 0 0,i_ n] C [] fun u _ h=>∃ A n2 c,u=.slice A n2 c/\h=[.arr u 32 1 0 []]:=by
 have k:=mx_
 refine Vi func212 27 U3 fun w0=>U1 1 [0,1] U<|U1 2 [0,1,6] U<|G.cd (fun d=>?_) fun d=>?_
 ·simp at d;omega
 refine Va 2 U fun R a=>Wo U9<|Ve 2 U<|Vh _ U U6<|Vh _ U U6<|C6 1 [0,1] a U<|U1 2 [0,1,16] U<|G.cd (fun f=>?_) fun f=>?_
 ·have i:0<n:=by
   simp at f;omega
  refine Va 2 U fun R a=>Wo U9<|VV 0 0 0 U12 (fun _=>⟨.inl ⟨U,U⟩,.inr ⟨_,U⟩,.inl ⟨U,U⟩,Ro _,Ro _,Ro _⟩) U2<|Vc U6<|WP (m:=n) U12 i (by show n*16<=_;omega) y_ fl_ fun b g l=>Ve 2 U<|VV 0 0 g U12 (fun _=>⟨.inl ⟨U,U⟩,.inr ⟨_,U⟩,.inl ⟨U,U⟩,Ro _,Rv _,Ro _⟩) U2<|C6 1 [0] a U<|U1 2 [4] U<|W9 0 0 U (Rv _)<|Vo (VM U U ?_);refine⟨_,_,_,U, ?_⟩;have e:(if g=0 then some (⟨b,0,none⟩:Addr) else (some (⟨b,0,none⟩:Addr)).map (·.add (0*1)))=some ⟨b,0,none⟩:=by
   split
   ·rfl
   simp[Addr.add_lit]
  rw[e];simp
 refine U1 2 [4] U<|G.nilArr 32 1<|Vo (VM U U ?_);exact⟨none,0,0,U,U⟩
def gC (xs:List (Value × List Rat)):List Rat:=(xs.map (·.2)).flatten
theorem mU {a:List (Value × List Rat)}{x:Value × List Rat}(h:a[i]?=some x):gC (a.take (i+1))=gC (a.take i)++x.2:=by
 unfold gC;rw[RR,h];simp
theorem vM (a:List (Value × List Rat))(i:Nat):(gC (a.take i)).length<=(gC a).length:=by
 have h:gC a=gC (a.take i)++gC (a.drop i):=by
  unfold gC;rw[<- R4,<- R3,Sm]
 rw[h,Ru];omega
def yw (x:Value × List Rat):List Value:=[x.1]
theorem Iu (C:Mem)(v:Value)(a:List (Value × List Rat))(h:Sl C 1 v (a.map yw))(B:∀ x∈a,Sl C 1 x.1 (x.2.map aQ))(K:(gC a).length<=1000000) :
  Jog.Fn cx.P 144 [v] C [] fun u _ e=>∃ A n2 c,u=.slice A n2 c/\e=[.arr u 32 1 (gC a).length ((gC a).map aQ).flatten]:=by
 obtain⟨p,c0,rfl,L,Z,_⟩:=id h;have aa:=mx_
 simp only[au]at h L⊢;refine Vi func144 36 U3 fun w0=>U1 1 [0] U<|U1 1 [0,3] U<|U1 3 [0,3,9,10,11] U<|G.loop (fun fr M e q=>∃ (i:Nat)(z:Int),(i<=a.length/\z=(gC (a.take i)).length)/\fr=[(0,[],.slice p a.length c0),(3,[],i_ z),(9,[],.slice p a.length c0),(10,[],i_ a.length),(11,[],i_ i)]/\e=[]/\q=a.length-i) (hn_ [0,3,9,10,11] U) ⟨0,0,⟨Rv _,U⟩,U,U,U⟩ (fun fr ab ac m _ r=>?_);obtain⟨i,z,⟨hi,s⟩,rfl,rfl,rfl⟩:=r;refine U1 1 [0,3,9,10,11,12] U<|G.cd (fun t=>?_) fun t=>?_
 ·have f:i<a.length:=by
   have:=QL t;omega
  obtain⟨x,d⟩:∃ x,a[i]?=some x:=⟨a[i],ai f⟩;have g:=B x (aU d);obtain⟨w,l⟩:=x;simp only at g;obtain⟨Ax,ad,rfl,N,af,_⟩:=id g;simp only[au]at g N d;have k:=mU d;have E:=vM a (i+1);have O:(gC (a.take (i+1))).length=(gC (a.take i)).length+l.length:=by rw[k,Ru]
  refine Vd fun R b=>Vq h.m_ U10 om_ (show(a.map yw)[i]?=some [_] from eX d) fl_ fun ag Q=>Vb Q U8<|C6 1 [0,3,5,9,10,11] b U<|Va 3 U fun R b=>Vh _ U U6<|C6 1 [0,3,9,10,11] b U<|U1 2 [0,3,9,10,11,20] U<|G.cd (fun F=>?_) fun F=>?_
  ·exfalso;have ah:=QL F;omega
  refine Vd fun R b=>Vh _ U U6<|C6 1 [0,3,9,10,11] b U<|Vn (m':=a.length-(i+1)) om_ mup (hn_ [0,3,9,10,11] U) ⟨i+1,_,⟨by omega,by rw[s];omega⟩,U,U,U⟩
 have f:i=a.length:=by
  have:=Rt t;omega
 rw[f,Rz]at s;subst s;refine VB [(1,3)] U fun R b=>Vc U6<|D.call (Oq _ (gC a).length K) U (.inr dc_) U6 (Rw _) fl_ (fun aj _ ak _ S=>?_);obtain⟨T,V,W,rfl,rfl⟩:=S;refine C6 1 [0,6] b U<|U1 3 [6,25,26,27] U<|G.loop (fun fr M e q=>∃ (i:Nat)(n:Option Addr)(n1 o:Nat),(i<=a.length)/\fr=[(6,[],.slice n n1 o),(25,[],.slice p a.length c0),(26,[],i_ a.length),(27,[],i_ i)]/\e=[.arr (.slice n n1 o) 32 1 (gC (a.take i)).length ((gC (a.take i)).map aQ).flatten]/\q=a.length-i) (hn_ [6,25,26,27] U) ⟨0,T,V,W,Rv _,U,U,U⟩ (fun fr al am m E r=>?_);obtain⟨i,n,n1,o,an,rfl,rfl,rfl⟩:=r;refine U1 1 [6,25,26,27,28] U<|G.cd (fun y=>?_) fun y=>?_
 ·have f:i<a.length:=by
   have:=QL y;omega
  obtain⟨x,d⟩:∃ x,a[i]?=some x:=⟨a[i],ai f⟩;have g:=B x (aU d);have k:=mU d;have E:=vM a (i+1);have O:(gC (a.take (i+1))).length=(gC (a.take i)).length+x.2.length:=by rw[k,Ru]
  refine Vd fun R b=>Vq h.m_ U10 om_ (show(a.map yw)[i]?=some [x.1] from eX d) fl_ fun ao X=>Vb X U8<|C6 1 [6,8,25,26,27] b U<|Va 2 U fun R b=>VF (j:=0) U11 g.m_ (by simp[aQ,lG,ae]) (by simp only[au,maxLen];omega) (by show((gC (a.take i)).length+(x.2.map aQ).length)*16<=_;rw[au];omega) fl_ fun H I J=>C6 1 [6,25,26,27] b U<|Vd fun R b=>Vh _ U U6<|C6 1 [6,25,26,27] b U<|Vr (L':=[.arr (.slice H I J) 32 1 (gC (a.take (i+1))).length ((gC (a.take (i+1))).map aQ).flatten]) (by rw[k,R3,R4,Ru,au];rfl)<|Vn (m':=a.length-(i+1)) om_ mup (hn_ [6,25,26,27] U) ⟨i+1,H,I,J,om_,U,U,U⟩
 have Y:i=a.length:=by
  have:=Rt y;omega
 refine U1 2 [2] U<|Vo (VM U U ?_);exact⟨n,n1,o,U,by rw[Y,Rz]⟩
theorem BY (C:Mem)(N:Tabs C)(o:Int)(y:Str)(f g i:Value)(a b c:List Rat)(z:Sl C 1 f (a.map aQ))(A:Sl C 1 g (b.map aQ))(B:Sl C 1 i (c.map aQ))(O:∀ x∈a,QB 20 x)(Q:∀ x∈b,QB 20 x)(S:∀ x∈c,QB 20 x)(af:a.length<=1000)(ag:b.length<=1000)(ah:c.length<=1000)
  (T:o=1->∃ q,y=qtx q/\QB 20 q):Gives cx.P 75 [.agg ⟨[i_ o,ae y,f,g,i]⟩] C (.bool true):=by
 have E:gC [(f,a),(g,b),(i,c)]=a++(b++(c++[])):=rfl;have F:(gC [(f,a),(g,b),(i,c)]).length<=1000000:=by rw[E];simp;omega
 obtain⟨all,H⟩:∃ all,gC [(f,a),(g,b),(i,c)]=all:=⟨_,rfl⟩;have I:∀ x∈all,QB 20 x:=fun x d=>by
  rw[<- H,E]at d;simp only[RF,Ss,TS]at d;rcases d with h|h|h
  ·exact O x h
  ·exact Q x h
  exact S x h
 have V:∀ l:List Rat,(∀ x∈l,QB 20 x)->((l.map qtx).any fun s=>!aR s)=false:=fun l W=>List.any_eq_false.2 fun s hs=>by
  obtain⟨x,d,rfl⟩:=Rs.1 hs;rw[bh ((W x d).le dc_)];decide
 obtain⟨p,r,rfl,_⟩:=id z;obtain⟨t,u,rfl,_⟩:=id A;obtain⟨v,w,rfl,_⟩:=id B;have X:∀ D:Mem,C.le D->∀ x∈[(Value.slice p (a.map aQ).length r,a),(Value.slice t (b.map aQ).length u,b),(Value.slice v (c.map aQ).length w,c)],Sl D 1 x.1 (x.2.map aQ):=fun D k x d=>by
  simp only[RC,Ss,TS]at d;rcases d with h|h|h
  ·rw[h];exact z.mono k
  ·rw[h];exact A.mono k
  rw[h];exact B.mono k
 refine Vi func75 24 U3 fun w0=>Vd fun R e=>Vs U6 fun b1=>C6 1 [1] e U<|G.freeze 0 U fun _ _ m=>VB [(8,3)] U fun R e=>Vc U6<|Vb (bkT m 1) U8<|Ve 2 U<|Vb (bkT m 1) U8<|Vc U6<|Vb (bkT m 1) U8<|Vy [[.slice p (a.map aQ).length r],[.slice t (b.map aQ).length u],[.slice v (c.map aQ).length w]] U12 fun ai _ _ Y=>D.call (Iu _ _ [(.slice p (a.map aQ).length r,a),(.slice t (b.map aQ).length u,b),(.slice v (c.map aQ).length w,c)] Y.m_ (X _ mup) F) U (.inr dc_) U6 (Rw _) fl_ (fun aj _ al _ Z=>?_);obtain⟨A3,n3,c3,rfl,rfl⟩:=Z;rw[H]at F⊢;refine C6 1 [1,3] e U<|Va 1 U fun R e=>Vb (bkT m 1) U8<|C6 1 [1,3,15] e U<|G.cut (fun fr C' J μ=>∃ (n:Value)(l:List Rat),(∀ x∈l,QB 20 x)/\fr=[(3,[],n)]/\J=[.arr n 32 1 l.length (l.map aQ).flatten]) ?_ (fun fr _ am μ _ hI=>?_)
 ·refine G.cd (fun K=>?_) fun K=>?_
  ·have aa:o=1:=by simpa using K
   obtain⟨q,rfl,ab⟩:=T aa;refine Va 2 U fun R e=>Vb (bkT m 1) U8<|Vy [[ae (qtx q)]] U12 fun an _ _ ac=>D.append (j:=0) U11 ac U ax (by show(all.length+1)*16<=_;omega) fl_ fun L=>C6 1 [3] e U<|Vr (L':=[.arr L 32 1 (all++[q]).length ((all++[q]).map aQ).flatten]) (by rw[R3,R4,Ru];rfl)<|Vp 0 mup (hn_ [3] U) ⟨L,all++[q],fun x d=>by
    rcases RF.1 d with h|h
    ·exact I x h
    rw[RK.1 h];exact ab,rfl,rfl⟩
  refine Vp 0 l_ (hn_ [3] U) ⟨_,all,I,U,U⟩
 obtain⟨n ,l,M,rfl,rfl⟩:=hI;refine G.freezeArr 0 (l.map aQ) U U bS ak fun _ _ ad=>Va 1 U fun R e=>Vm (zL _ n (l.map qtx) 102 [] (fun s=>!aR s) (by rw[<- mK];exact ad.mono mup) kr_ (fun s hs D k=>by
  obtain⟨x,d,rfl⟩:=Rs.1 hs;exact qi D (N.mono (Mem.le.trans mup k)) (qtx x) (RD (bd (M x d) dc_) dc_))) U7 fl_ ?_
 exact C6 2 [2] e U<|Vg U2<|⟨by rw[V l M];rfl,U⟩
end Go.Proofs.YtfjcldheldflbaaGreatDoor
