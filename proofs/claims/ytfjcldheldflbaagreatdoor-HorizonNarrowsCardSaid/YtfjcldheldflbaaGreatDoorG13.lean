/- Laws that the proofs of this seat share, part 13. -/
import Derived.Test.YtfjcldheldflbaaGreatDoorG12
import Derived.Test.YtfjcldheldflbaaGreatDoorShelf
set_option maxHeartbeats 4000000
namespace Go.Proofs.YtfjcldheldflbaaGreatDoor
open Go.Proofs.Tryz
open Go Go.Jog
set_option maxRecDepth 100000
variable {F N b:Nat}{cc:Nat->Rat}{i j k:Nat}{l:Lp.Line}{m n:Nat}{o:Int}{ob:List Rat}{p:Lp.Sys}{q:Nat->Prop}{r:Nat}{rows:List RowQ}{rs:List (List Rat × Rat)}{s:Nat}{t:Lp.Tab}{u:Value}{vs:List Nat}{w wB:Value}{wF:Nat->Value}{wL wO wW wy:Value}
theorem wY {y:Lp.Line}(a:s<l.f.length):kM l.f y.f s (l.f.getD s 0) l.f.length=(Lp.putL l s y).f/\l.c+l.f.getD s 0*y.c=(Lp.putL l s y).c:=by
 have h:=FY (c:=l.c) (bc:=y.c) (bf:=y.f) a;exact⟨(congrArg Lp.Line.f h).symm,(congrArg Lp.Line.c h).symm⟩
theorem Jw (C:Mem)(k:Tabs C)(b m e i n s:Nat)(w d:Value)(a:List (Rat × Value))(l y:Lp.Line)(o:a.length=m)(p:a[i]?=some (l.c,w))(g:l.f.length=n)(q:y.f.length=n)(r:s<n)(h:QB 50 l.c/\∀ x∈l.f,QB 50 x)(j:QB 50 y.c/\∀ x∈y.f,QB 50 x) :
  Jog.Fn cx.P 262 [.pointer (some ⟨b,i*2,none⟩),.int .i64 s,.agg ⟨[af (qtx y.c),d]⟩] C [.arr d 32 1 n (y.f.map aQ).flatten,.arr (.slice (some ⟨b,0,none⟩) m e) 228 2 m (a.map bE).flatten,.arr w 32 1 n (l.f.map aQ).flatten]
   fun u _ t=>u=.tuple #[]/\t=[.arr d 32 1 n (y.f.map aQ).flatten,.arr (.slice (some ⟨b,0,none⟩) m e) 228 2 m ((a.set i ((Lp.putL l s y).c,w)).map bE).flatten,.arr w 32 1 n ((Lp.putL l s y).f.map aQ).flatten]:=by
 obtain⟨h1,h2⟩:=wY (l:=l) (y:=y) (s:=s) om_;rw[<- h1,<- h2,g];exact Jx C k b m e i n s w d a l.f y.f l.c y.c o p g q r h.1 h.2 j.1 j.2
theorem Ju (C:Mem)(m:Tabs C)(a n s:Nat)(d e g h w b:Value)(l y:Lp.Line)(i:l.f.length=n)(o:y.f.length=n)(p:s<n)(j:QB 50 l.c/\∀ x∈l.f,QB 50 x)(k:QB 50 y.c/\∀ x∈y.f,QB 50 x) :
  Jog.Fn cx.P 262 [.pointer (some ⟨a,4,none⟩),.int .i64 s,.agg ⟨[af (qtx y.c),b]⟩] C [.arr b 32 1 n (y.f.map aQ).flatten,.obj a (.cells ⟨[d,e,g,h,af (qtx l.c),w]⟩ 231 (0,0)),.arr w 32 1 n (l.f.map aQ).flatten]
   fun u _ q=>u=.tuple #[]/\q=[.arr b 32 1 n (y.f.map aQ).flatten,.obj a (.cells ⟨[d,e,g,h,af (qtx (Lp.putL l s y).c),w]⟩ 231 (0,0)),.arr w 32 1 n ((Lp.putL l s y).f.map aQ).flatten]:=by
 obtain⟨h1,h2⟩:=wY (l:=l) (y:=y) (s:=s) om_;rw[<- h1,<- h2,i];exact Jv C m a n s d e g h w b l.f y.f l.c y.c i o p j.1 j.2 k.1 k.2
def byF (l:Lp.Line)(s j:Nat):List Rat:=(List.range l.f.length).map fun q=>if q<j then (Lp.byL l s).g q else 0
theorem lg :(byF l s j).length=l.f.length:=by simp[byF]
theorem CQ {q:Nat}(h:q<l.f.length):(byF l s j)[q]?=some (if q<j then (Lp.byL l s).g q else 0):=by
 unfold byF;rw[QD,Rc h];rfl
theorem KM :List.replicate l.f.length 0=byF l s 0:=by
 refine List.ext_getElem? fun v=>?_;by_cases a:v<l.f.length
 ·rw[CQ a,RZ,aJ a,aF (Nat.not_lt_zero _)]
 rw[QJ ap,QJ (by rw[lg];omega)]
theorem NY (h:j<l.f.length):(byF l s j).set j (-(if j=s then -1 else l.g j) / l.g s)=byF l s (j+1):=by
 refine List.ext_getElem? fun q=>?_;rw[List.getElem?_set,lg];by_cases a:q<l.f.length
 ·rw[CQ a,CQ a];by_cases e:j=q
  ·subst e;rw[aJ rfl,aJ a,aJ (Nat.lt_succ_self j),Lp.byL_g a];congr 1;split <;> grind
  rw[aF e];by_cases h1:q<j
  ·rw[aJ h1,aJ om_]
  rw[aF h1,aF om_]
 rw[aF om_,QJ (by rw[lg];omega),QJ (by rw[lg];omega)]
theorem vB :(Lp.byL l s).f.length=l.f.length:=by simp[Lp.byL]
theorem NZ :byF l s l.f.length=(Lp.byL l s).f:=by
 refine List.ext_getElem? fun q=>?_;by_cases a:q<l.f.length
 ·rw[CQ a,aJ a];unfold Lp.Line.g;rw[am,aj (by rw[vB];exact a)];rfl
 rw[QJ (by rw[lg];omega),QJ (by rw[vB];omega)]
def stL (t:Lp.Tab)(r s i q:Nat):Lp.Line:=if q<i/\q≠r then Lp.putL (t.line q) s (Lp.byL (t.line r) s) else t.line q
def stV (t:Lp.Tab)(wF:Nat->Value)(r s i:Nat):List (Rat × Value):=(List.range t.basic.length).map fun q=>((stL t r s i q).c,wF q)
def stE (t:Lp.Tab)(wF:Nat->Value)(r s i q:Nat):Ent:=.arr (wF q) 32 1 t.others.length ((stL t r s i q).f.map aQ).flatten
theorem iW :(stV t wF r s i).length=t.basic.length:=by simp[stV]
theorem Bm {q:Nat}(h:q<t.basic.length):(stV t wF r s i)[q]?=some ((stL t r s i q).c,wF q):=by
 unfold stV;rw[QD,Rc h];rfl
theorem tX {q:Nat}:stL t r s 0 q=t.line q:=aF fun h=>Nat.not_lt_zero _ h.1
theorem oZ {q:Nat}(h:q≠i):stL t r s (i+1) q=stL t r s i q:=by
 unfold stL;by_cases h1:q<i/\q≠r
 ·rw[aJ h1,aJ ⟨by omega,h1.2⟩]
 rw[aF h1,aF fun h2=>h1 ⟨by omega,h2.2⟩]
theorem og (h:i≠r):stL t r s i i=t.line i/\stL t r s (i+1) i=Lp.putL (t.line i) s (Lp.byL (t.line r) s) :=
 ⟨aF fun h2=>Nat.lt_irrefl _ h2.1,aJ ⟨Nat.lt_succ_self _,h⟩⟩
theorem Bn {q:Nat}:stL t r s (r+1) q=stL t r s r q:=by
 by_cases h:q=r
 ·subst h;unfold stL;rw[aF fun h=>h.2 rfl,aF fun h=>h.2 rfl]
 exact oZ h
theorem Mr (b:i<t.basic.length)(h:i≠r):(stV t wF r s i).set i ((Lp.putL (t.line i) s (Lp.byL (t.line r) s)).c,wF i)=stV t wF r s (i+1):=by
 refine List.ext_getElem? fun q=>?_;rw[List.getElem?_set,iW];by_cases a:q<t.basic.length
 ·rw[Bm a,Bm a];by_cases e:i=q
  ·subst e;rw[aJ rfl,aJ a,(og h).2]
  rw[aF e,oZ (Ne.symm e)]
 rw[aF om_,QJ (by rw[iW];omega),QJ (by rw[iW];omega)]
theorem IV :stV t wF r s (r+1)=stV t wF r s r:=by
 unfold stV;simp only[Bn]
theorem IU :stV t wF r s 0=cM t wF:=by
 unfold stV cM;simp only[tX]
theorem Ms (d:t.Ok N)(f:r<t.basic.length):(stV t wF r s t.basic.length).set r ((Lp.byL (t.line r) s).c,wy)=cM (t.pivot r s) fun q=>if q=r then wy else wF q:=by
 have b:(t.pivot r s).basic.length=t.basic.length:=Ru;refine List.ext_getElem? fun q=>?_;rw[List.getElem?_set,iW];by_cases a:q<t.basic.length
 ·rw[Bm a,oo (by rw[b];exact a),Lp.pivot_line (by rw[d.ll];exact a)];by_cases e:r=q
  ·subst e;rw[aJ rfl,aJ a,aJ rfl,aJ rfl]
  rw[aF e,aF (Ne.symm e),aF (Ne.symm e)];unfold stL;rw[aJ ⟨a,Ne.symm e⟩]
 rw[aF om_,QJ (by rw[iW];omega),QJ (by rw[fH,b];omega)]
theorem range_nd :(List.range m).Nodup:=List.nodup_range
theorem Mt (b:t.Ok N)(c:r<t.basic.length) :
  (.arr wy 32 1 t.others.length ((Lp.byL (t.line r) s).f.map aQ).flatten::((List.range t.basic.length).erase r).map (stE t wF r s t.basic.length)).Perm (((List.range (t.pivot r s).basic.length).map (Lg (t.pivot r s) fun q=>if q=r then wy else wF q)).map Lent.ent):=by
 have g:(t.pivot r s).basic.length=t.basic.length:=Ru;have d:(t.pivot r s).others.length=t.others.length:=Ru;rw[g,RC];have h0:(Lent.ent ∘ Lg (t.pivot r s) fun q=>if q=r then wy else wF q) r=.arr wy 32 1 t.others.length ((Lp.byL (t.line r) s).f.map aQ).flatten:=by
  show Ent.arr (if r=r then wy else wF r) _ 1 (t.pivot r s).others.length _=_;rw[aJ rfl,d,Lp.pivot_line (by rw[b.ll];exact c),aJ rfl]
 have h1:=lU range_nd (QU.2 c) (Lent.ent ∘ Lg (t.pivot r s) fun q=>if q=r then wy else wF q) (stE t wF r s t.basic.length) (fun q h a=>by
  have e:=QU.1 h;show Ent.arr (if q=r then wy else wF q) _ 1 (t.pivot r s).others.length _=_;rw[aF a,d,Lp.pivot_line (by rw[b.ll];exact e),aF a];unfold stE stL;rw[aJ ⟨e,a⟩])
 rw[h0]at h1;exact h1.symm
theorem Mo (a:t.Ok N)(d:r<t.basic.length) :
  (([.obj b (.cells ⟨[.int .i64 n,wB,wL,wO,af (qtx (Lp.putL t.worth s (Lp.byL (t.line r) s)).c),wW]⟩ 231 (0,0)),.arr wB 3 1 t.basic.length ((t.basic.set r (t.oth s)).map aT).flatten,.arr wL 228 2 t.basic.length (((stV t wF r s t.basic.length).set r ((Lp.byL (t.line r) s).c,wy)).map bE).flatten,.arr wO 3 1 t.others.length ((t.others.set s (t.bas r)).map aT).flatten,.arr wW 32 1 t.others.length (((Lp.putL t.worth s (Lp.byL (t.line r) s)).f).map aQ).flatten]:List Ent)++(.arr wy 32 1 t.others.length ((Lp.byL (t.line r) s).f.map aQ).flatten::((List.range t.basic.length).erase r).map (stE t wF r s t.basic.length))).Perm ((fg b n (t.pivot r s) wB wL wO wW fun q=>if q=r then wy else wF q).map Lent.ent):=by
 have e:(t.pivot r s).basic.length=t.basic.length:=Ru;have g:(t.pivot r s).others.length=t.others.length:=Ru;rw[Ms a d];refine(List.Perm.append_left _ (Mt a d)).trans (List.Perm.of_eq ?_);unfold fg;simp only[Ri,Lent.ent,e,g];rfl
theorem zi {l:List Nat}(h:i<l.length):l[i]?=some (l.getD i 0):=by
 rw[am,aj h];rfl
theorem bd (r s:Nat):(fg b n t wB wL wO wW wF).map Lent.ent=[.obj b (.cells ⟨[.int .i64 n,wB,wL,wO,af (qtx t.worth.c),wW]⟩ 231 (0,0)),.arr wB 3 1 t.basic.length ((t.basic).map aT).flatten,.arr wL 228 2 t.basic.length ((cM t wF).map bE).flatten,.arr wO 3 1 t.others.length ((t.others).map aT).flatten,.arr wW 32 1 t.others.length ((t.worth.f).map aQ).flatten]++(List.range t.basic.length).map (stE t wF r s 0):=by
 have e:stE t wF r s 0=Lent.ent ∘ Lg t wF:=funext fun q=>by
  unfold stE;rw[tX];rfl
 rw[e,<- RC];rfl
def LineQ (k:Nat)(l:Lp.Line):Prop:=QB k l.c/\∀ x∈l.f,QB k x
theorem LineQ.le {k m:Nat}{l:Lp.Line}(h:LineQ k l)(a:k<=m):LineQ m l:=⟨h.1.le a,fun x b=>(h.2 x b).le a⟩
theorem LineQ.g {k:Nat}{l:Lp.Line}(h:LineQ k l){j:Nat}(a:j<l.f.length):QB k (l.g j):=by
 unfold Lp.Line.g;rw[am,aj a];exact h.2 _ (Rv _)
theorem Qt (h:LineQ 20 l)(c:s<l.f.length)(a:l.g s≠0):LineQ 40 (Lp.byL l s):=by
 have b:=h.g c;refine⟨jy (eR h.1) b a,fun x d=>?_⟩;obtain⟨q,e,rfl⟩:=QE.1 d;have i:=QU.1 e;split
 ·exact jy ⟨by decide,by decide⟩ b a
 exact jy (eR (h.g i)) b a
theorem ux (C:Mem)(Q:Tabs C)(b n r s N:Nat)(t:Lp.Tab)(S T U d:Value)(a:Nat->Value)(V:t.Ok N)(hm:t.basic.length<=1000000)(aO:t.others.length<=1000000)(B:r<t.basic.length)(W:s<t.others.length)(hk:(t.line r).g s≠0)(hq:∀ i,i<t.basic.length->LineQ 20 (t.line i))(az:LineQ 20 t.worth) :
  Jog.Fn cx.P 205 [.pointer (some ⟨b,0,none⟩),.int .i64 r,.int .i64 s] C ((fg b n t S T U d a).map Lent.ent) fun u _ A=>u=.tuple #[]/\∃ aA,A=(fg b n (t.pivot r s) S T U d aA).map Lent.ent:=by
 have aP:maxLen<=9223372036854775807:=by simp[maxLen]
 have X:=ij V B;have aB:=V.wl;have J:=hq r B;have ah:s<(t.line r).f.length:=by omega
 have aq:=J.g ah;have au:=Qt J ah hk;refine Ur func205 123 U3 fun w0=>?_;rw[bd r s];refine Uz (L':=[.obj b (.cells ⟨[.int .i64 n,S,T,U,af (qtx t.worth.c),d]⟩ 231 (0,0)),.arr S 3 1 t.basic.length ((t.basic).map aT).flatten,.arr T 228 2 t.basic.length ((cM t a).map bE).flatten,.arr U 3 1 t.others.length ((t.others).map aT).flatten,.arr d 32 1 t.others.length ((t.worth.f).map aQ).flatten]++(List.range t.basic.length).map (stE t a r s 0)) Z<|VX 1 Z om_ (fun o p K=>?_);subst K;refine VX 2 Z om_ (fun k l K=>?_);subst K;refine VX 3 Z om_ (fun w x K=>?_);subst K;refine G.perm (L':=[.arr (a r) 32 1 t.others.length ((t.line r).f.map aQ).flatten,.obj b (.cells ⟨[.int .i64 n,.slice (some ⟨o,0,none⟩) t.basic.length p,.slice (some ⟨k,0,none⟩) t.basic.length l,.slice (some ⟨w,0,none⟩) t.others.length x,af (qtx t.worth.c),d]⟩ 231 (0,0)),.arr (.slice (some ⟨o,0,none⟩) t.basic.length p) 3 1 t.basic.length ((t.basic).map aT).flatten,.arr (.slice (some ⟨k,0,none⟩) t.basic.length l) 228 2 t.basic.length ((cM t a).map bE).flatten,.arr (.slice (some ⟨w,0,none⟩) t.others.length x) 3 1 t.others.length ((t.others).map aT).flatten,.arr d 32 1 t.others.length ((t.worth.f).map aQ).flatten]++((List.range t.basic.length).erase r).map (stE t a r s 0)) (by
  have h1:=lU range_nd (QU.2 B) (stE t a r s 0) (stE t a r s 0) (fun _ _ _=>rfl);refine(List.Perm.append_left _ h1).trans ?_;have e:stE t a r s 0 r=.arr (a r) 32 1 t.others.length ((t.line r).f.map aQ).flatten:=by unfold stE;rw[tX]
  rw[e]
  (exact pkL [5] rfl)) ?_
 refine G.freezeArr 0 ((t.line r).f.map aQ) Z Z bU (by simp[X]) (fun _ _ L=>?_);obtain⟨Y,c3,av,aC,aR,_⟩:=id L;rw[av]at L;simp only[ar]at L aC;have aD:(cM t a)[r]?=some ((t.line r).c,.slice Y (t.line r).f.length c3):=by rw[oo B,av,ar]
 refine Ui 3 Z fun R y=>Uo ag U9<|Uk U6<|UL (r*2) U10 ai U2<|U1 (v:=.agg ⟨[af (qtx (t.line r).c),.slice Y (t.line r).f.length c3]⟩) ac U6 (fun _=>(by rw[ot aD];rfl)) U2<|UB U5 fun b6=>Us (j:=0) U12<|Un [0,1,2,6] y Z<|G.freeze 0 Z fun _ _ aj=>Ui 1 Z fun R y=>Uj (bkT aj 1) U8<|Uk U6<|Uy L.m_ U10 om_ (dO ah) fl_ fun aS aE=>Uj aE U8<|C6 1 [0,1,2,6,7] y Z<|UI [(5,3)] Z fun R y=>Um 3 Z<|Uo ag U9<|Uk U6<|D.call (jb _ t.others.length om_) Z (.inr dc_) U6 (QI _) fl_ (fun aU _ aV _ aG=>?_);obtain⟨z,rfl,rfl⟩:=aG;refine UA [af [],.slice (some ⟨z,0,none⟩) t.others.length t.others.length] U8<|UB U5 fun E=>Us (j:=0) U12<|Un [0,1,2,6,7,8] y Z<|Ui 1 Z fun R y=>Uj (bkT aj 1) U8<|Uu (eK _ (t.line r).c (QW (bg J.1 dc_) dc_)) U7 fl_<|Uk U6<|Uu (gW _ Q.m_ (-(t.line r).c) ((t.line r).g s) 20 dc_ dc_ (eR J.1) aq hk) U7 fl_<|Um 4 Z<|Us (j:=0) U12<|Un [0,1,2,6,7,8] y Z<|Ui 1 Z fun R y=>Uj (bkT aj 1) U8<|C6 2 [0,1,2,7,8,41,42,43] y Z<|Uz (L':=[.obj E (.cells ⟨[af (qtx (Lp.byL (t.line r) s).c),.slice (some ⟨z,0,none⟩) t.others.length t.others.length]⟩ 228 (0,0)),.arr (.slice (some ⟨z,0,none⟩) t.others.length t.others.length) 32 1 t.others.length ((byF (t.line r) s 0).map aQ).flatten,.obj b (.cells ⟨[.int .i64 n,.slice (some ⟨o,0,none⟩) t.basic.length p,.slice (some ⟨k,0,none⟩) t.basic.length l,.slice (some ⟨w,0,none⟩) t.others.length x,af (qtx t.worth.c),d]⟩ 231 (0,0)),.arr (.slice (some ⟨o,0,none⟩) t.basic.length p) 3 1 t.basic.length ((t.basic).map aT).flatten,.arr (.slice (some ⟨k,0,none⟩) t.basic.length l) 228 2 t.basic.length ((cM t a).map bE).flatten,.arr (.slice (some ⟨w,0,none⟩) t.others.length x) 3 1 t.others.length ((t.others).map aT).flatten,.arr d 32 1 t.others.length ((t.worth.f).map aQ).flatten]++((List.range t.basic.length).erase r).map (stE t a r s 0)) (by rw[<- KM,X,<- uh];rfl)<|G.loop (fun fr C' A M=>∃ (j:Nat),(j<=(t.line r).f.length)/\fr=[(0,[],.pointer (some ⟨b,0,none⟩)),(1,[],.int .i64 r),(2,[],.int .i64 s),(7,[],af (qtx ((t.line r).g s))),(8,[],.pointer (some ⟨E,0,none⟩)),(41,[],.slice Y (t.line r).f.length c3),(42,[],.int .i64 (t.line r).f.length),(43,[],.int .i64 j)]/\A=[.obj E (.cells ⟨[af (qtx (Lp.byL (t.line r) s).c),.slice (some ⟨z,0,none⟩) t.others.length t.others.length]⟩ 228 (0,0)),.arr (.slice (some ⟨z,0,none⟩) t.others.length t.others.length) 32 1 t.others.length ((byF (t.line r) s j).map aQ).flatten,.obj b (.cells ⟨[.int .i64 n,.slice (some ⟨o,0,none⟩) t.basic.length p,.slice (some ⟨k,0,none⟩) t.basic.length l,.slice (some ⟨w,0,none⟩) t.others.length x,af (qtx t.worth.c),d]⟩ 231 (0,0)),.arr (.slice (some ⟨o,0,none⟩) t.basic.length p) 3 1 t.basic.length ((t.basic).map aT).flatten,.arr (.slice (some ⟨k,0,none⟩) t.basic.length l) 228 2 t.basic.length ((cM t a).map bE).flatten,.arr (.slice (some ⟨w,0,none⟩) t.others.length x) 3 1 t.others.length ((t.others).map aT).flatten,.arr d 32 1 t.others.length ((t.worth.f).map aQ).flatten]++((List.range t.basic.length).erase r).map (stE t a r s 0)/\M=(t.line r).f.length-j) (hn_ [0,1,2,7,8,41,42,43] Z) ⟨0,QH _,Z,Z,Z⟩ (fun fr aW aX m _ O=>?_);obtain⟨j,hj,rfl,rfl,rfl⟩:=O;refine Uh 1 [0,1,2,7,8,41,42,43,44] Z<|G.cd (fun ak=>?_) fun ak=>?_
 ·have I:j<(t.line r).f.length:=by
   have:=PZ ak;omega
  have aw:QB 20 (if j=s then (-1:Rat) else (t.line r).g j):=by
   split
   ·exact⟨by decide,by decide⟩
   exact J.g I
  refine Ui 1 Z fun R y=>Uy L.m_ U10 om_ (show((t.line r).f.map aQ)[j]?=some (aQ ((t.line r).g j)) from dO I) fl_ fun aY aH=>Uj aH U8<|C6 2 [0,1,2,7,8,9,10,41,42,43] y Z<|Uh 3 [0,1,2,7,8,9,10,41,42,43,50] Z<|G.cut (fun fr C' A M=>(True)/\fr=[(0,[],.pointer (some ⟨b,0,none⟩)),(1,[],.int .i64 r),(2,[],.int .i64 s),(7,[],af (qtx ((t.line r).g s))),(8,[],.pointer (some ⟨E,0,none⟩)),(9,[],.int .i64 j),(10,[],af (qtx (if j=s then (-1:Rat) else (t.line r).g j))),(41,[],.slice Y (t.line r).f.length c3),(42,[],.int .i64 (t.line r).f.length),(43,[],.int .i64 j)]/\A=[.obj E (.cells ⟨[af (qtx (Lp.byL (t.line r) s).c),.slice (some ⟨z,0,none⟩) t.others.length t.others.length]⟩ 228 (0,0)),.arr (.slice (some ⟨z,0,none⟩) t.others.length t.others.length) 32 1 t.others.length ((byF (t.line r) s j).map aQ).flatten,.obj b (.cells ⟨[.int .i64 n,.slice (some ⟨o,0,none⟩) t.basic.length p,.slice (some ⟨k,0,none⟩) t.basic.length l,.slice (some ⟨w,0,none⟩) t.others.length x,af (qtx t.worth.c),d]⟩ 231 (0,0)),.arr (.slice (some ⟨o,0,none⟩) t.basic.length p) 3 1 t.basic.length ((t.basic).map aT).flatten,.arr (.slice (some ⟨k,0,none⟩) t.basic.length l) 228 2 t.basic.length ((cM t a).map bE).flatten,.arr (.slice (some ⟨w,0,none⟩) t.others.length x) 3 1 t.others.length ((t.others).map aT).flatten,.arr d 32 1 t.others.length ((t.worth.f).map aQ).flatten]++((List.range t.basic.length).erase r).map (stE t a r s 0)) ?_ (fun fr _ aZ M _ O=>?_)
  ·refine G.cd (fun al=>?_) fun al=>?_
   ·have am:j=s:=by
     have ab:((j:Int) == (s:Int))=true:=al;have:=eq_of_beq ab;omega
    refine Uh 1 [0,1,2,7,8,9,10,41,42,43] Z<|Ux 0 (Mem.le.refl _) (hn_ [0,1,2,7,8,9,10,41,42,43] Z) ⟨trivial,by rw[aJ am,O8];rfl,Z⟩
   have am:¬ j=s:=by
    have ab:((j:Int) == (s:Int))=false:=al;intro h;rw[h]at ab;simp at ab
   refine Ux 0 (Mem.le.refl _) (hn_ [0,1,2,7,8,9,10,41,42,43] Z) ⟨trivial,by rw[aF am],Z⟩
  obtain⟨a0,rfl,rfl⟩:=O;refine UD [0,1,2,3,4,5,6,7,8,9,10,11] [(4,1),(6,1)] Z kr_ fun R hB y=>Uk U6<|Uo ag U9<|Um 2 Z<|UG (fun _=>(eK _ (if j=s then (-1:Rat) else (t.line r).g j) (QW (bg aw dc_) dc_))) U9<|Uk U6<|UG (fun _=>(gW _ Q.m_ (-(if j=s then (-1:Rat) else (t.line r).g j)) ((t.line r).g s) 20 dc_ dc_ (eR aw) aq hk)) U9<|Um 3 Z<|UL (j*1) U10 ai U2<|UO (j:=1) U11 (by show j*1+1<=_;rw[bR bJ,lg];omega)<|Un [0,1,2,7,8,41,42,43] y Z<|Ul fun R y=>Uq _ Z U6<|C6 1 [0,1,2,7,8,41,42,43] y Z<|G.perm (L':=[.obj E (.cells ⟨[af (qtx (Lp.byL (t.line r) s).c),.slice (some ⟨z,0,none⟩) t.others.length t.others.length]⟩ 228 (0,0)),.arr (.slice (some ⟨z,0,none⟩) t.others.length t.others.length) 32 1 t.others.length ((byF (t.line r) s (j+1)).map aQ).flatten,.obj b (.cells ⟨[.int .i64 n,.slice (some ⟨o,0,none⟩) t.basic.length p,.slice (some ⟨k,0,none⟩) t.basic.length l,.slice (some ⟨w,0,none⟩) t.others.length x,af (qtx t.worth.c),d]⟩ 231 (0,0)),.arr (.slice (some ⟨o,0,none⟩) t.basic.length p) 3 1 t.basic.length ((t.basic).map aT).flatten,.arr (.slice (some ⟨k,0,none⟩) t.basic.length l) 228 2 t.basic.length ((cM t a).map bE).flatten,.arr (.slice (some ⟨w,0,none⟩) t.others.length x) 3 1 t.others.length ((t.others).map aT).flatten,.arr d 32 1 t.others.length ((t.worth.f).map aQ).flatten]++((List.range t.basic.length).erase r).map (stE t a r s 0)) (by rw[<- NY I,<- bK bJ _ (by rw[lg];exact I)];exact List.Perm.swap _ _ _)<|Uw (m':=(t.line r).f.length-(j+1)) om_ mup (hn_ [0,1,2,7,8,41,42,43] Z) ⟨j+1,om_,Z,Z,Z⟩
 have I:j=(t.line r).f.length:=by
  have:=QF ak;omega
 rw[I,NZ];refine G.freeze 0 Z fun _ _ an=>Ui 3 Z fun R y=>Uo ae U9<|C6 2 [0,1,2,8,67,68] y Z<|G.perm (L':=[.arr (.slice (some ⟨z,0,none⟩) t.others.length t.others.length) 32 1 t.others.length (((Lp.byL (t.line r) s).f).map aQ).flatten,.arr (.slice (some ⟨k,0,none⟩) t.basic.length l) 228 2 t.basic.length ((stV t a r s 0).map bE).flatten,.obj b (.cells ⟨[.int .i64 n,.slice (some ⟨o,0,none⟩) t.basic.length p,.slice (some ⟨k,0,none⟩) t.basic.length l,.slice (some ⟨w,0,none⟩) t.others.length x,af (qtx t.worth.c),d]⟩ 231 (0,0)),.arr (.slice (some ⟨o,0,none⟩) t.basic.length p) 3 1 t.basic.length ((t.basic).map aT).flatten,.arr (.slice (some ⟨w,0,none⟩) t.others.length x) 3 1 t.others.length ((t.others).map aT).flatten,.arr d 32 1 t.others.length ((t.worth.f).map aQ).flatten]++((List.range t.basic.length).erase r).map (stE t a r s 0)) (by rw[IU];(exact pkL [0,2] Z))<|G.loop (fun fr C' A M=>∃ (i:Nat),(i<=t.basic.length)/\fr=[(0,[],.pointer (some ⟨b,0,none⟩)),(1,[],.int .i64 r),(2,[],.int .i64 s),(8,[],.pointer (some ⟨E,0,none⟩)),(67,[],.int .i64 t.basic.length),(68,[],.int .i64 i)]/\A=[.arr (.slice (some ⟨z,0,none⟩) t.others.length t.others.length) 32 1 t.others.length (((Lp.byL (t.line r) s).f).map aQ).flatten,.arr (.slice (some ⟨k,0,none⟩) t.basic.length l) 228 2 t.basic.length ((stV t a r s i).map bE).flatten,.obj b (.cells ⟨[.int .i64 n,.slice (some ⟨o,0,none⟩) t.basic.length p,.slice (some ⟨k,0,none⟩) t.basic.length l,.slice (some ⟨w,0,none⟩) t.others.length x,af (qtx t.worth.c),d]⟩ 231 (0,0)),.arr (.slice (some ⟨o,0,none⟩) t.basic.length p) 3 1 t.basic.length ((t.basic).map aT).flatten,.arr (.slice (some ⟨w,0,none⟩) t.others.length x) 3 1 t.others.length ((t.others).map aT).flatten,.arr d 32 1 t.others.length ((t.worth.f).map aQ).flatten]++((List.range t.basic.length).erase r).map (stE t a r s i)/\M=t.basic.length-i) (hn_ [0,1,2,8,67,68] Z) ⟨0,QH _,Z,Z,Z⟩ (fun fr a1 a2 m _ O=>?_);obtain⟨i,hi,rfl,rfl,rfl⟩:=O;refine Uh 1 [0,1,2,8,67,68,69] Z<|G.cd (fun ao=>?_) fun ao=>?_
 ·have F:i<t.basic.length:=by
   have:=PZ ao;omega
  refine Uh 2 [0,1,2,8,11,67,68] Z<|Uh 3 [0,1,2,8,11,67,68,73] Z<|G.cd (fun ap=>?_) fun ap=>?_
  ·have H:i≠r:=by
    have ad:(!((i:Int) == (r:Int)))=true:=ap;intro h;rw[h]at ad;simp at ad
   have ax:i∈(List.range t.basic.length).erase r:=(List.Nodup.mem_erase_iff range_nd).2 ⟨H,QU.2 F⟩;have ay:=lU (range_nd.erase r) ax (stE t a r s i) (stE t a r s (i+1)) (fun q _ aI=>by unfold stE;rw[oZ aI]);have he:stE t a r s i i=.arr (a i) 32 1 t.others.length ((t.line i).f.map aQ).flatten:=by unfold stE;rw[(og H).1]
   have aK:stE t a r s (i+1) i=.arr (a i) 32 1 t.others.length ((Lp.putL (t.line i) s (Lp.byL (t.line r) s)).f.map aQ).flatten:=by unfold stE;rw[(og H).2]
   have aL:(stV t a r s i)[i]?=some ((t.line i).c,a i):=by rw[Bm F,(og H).1]
   rw[he]at ay;refine G.perm (L':=[.arr (.slice (some ⟨z,0,none⟩) t.others.length t.others.length) 32 1 t.others.length (((Lp.byL (t.line r) s).f).map aQ).flatten,.arr (.slice (some ⟨k,0,none⟩) t.basic.length l) 228 2 t.basic.length ((stV t a r s i).map bE).flatten,.arr (a i) 32 1 t.others.length ((t.line i).f.map aQ).flatten,.obj b (.cells ⟨[.int .i64 n,.slice (some ⟨o,0,none⟩) t.basic.length p,.slice (some ⟨k,0,none⟩) t.basic.length l,.slice (some ⟨w,0,none⟩) t.others.length x,af (qtx t.worth.c),d]⟩ 231 (0,0)),.arr (.slice (some ⟨o,0,none⟩) t.basic.length p) 3 1 t.basic.length ((t.basic).map aT).flatten,.arr (.slice (some ⟨w,0,none⟩) t.others.length x) 3 1 t.others.length ((t.others).map aT).flatten,.arr d 32 1 t.others.length ((t.worth.f).map aQ).flatten]++(((List.range t.basic.length).erase r).erase i).map (stE t a r s (i+1))) ((List.Perm.append_left _ ay).trans (pkL [0,0,4] Z))<|UD [0,1,2,3,4,5,6,7,8] [(8,3)] Z kr_ fun R hB y=>Um 3 Z<|Uo aa U9<|Uk U6<|UL (i*2) U10 ai U2<|Uk U6<|Uj (bkT an 2) U8<|D.call (Jw _ Q.m_ k t.basic.length l i t.others.length s (a i) (.slice (some ⟨z,0,none⟩) t.others.length t.others.length) (stV t a r s i) (t.line i) (Lp.byL (t.line r) s) iW aL (ij V F) (by rw[vB];exact X) W ((hq i F).le dc_) (au.le dc_)) Z (.inr dc_) U6 (pkL [0,0,0] Z) fl_ fun a3 _ a4 _ aM=>Un [0,1,2,8,67,68] y Z ?_;obtain⟨-,rfl⟩:=aM;refine G.perm (L':=[.arr (.slice (some ⟨z,0,none⟩) t.others.length t.others.length) 32 1 t.others.length (((Lp.byL (t.line r) s).f).map aQ).flatten,.arr (.slice (some ⟨k,0,none⟩) t.basic.length l) 228 2 t.basic.length ((stV t a r s (i+1)).map bE).flatten,.obj b (.cells ⟨[.int .i64 n,.slice (some ⟨o,0,none⟩) t.basic.length p,.slice (some ⟨k,0,none⟩) t.basic.length l,.slice (some ⟨w,0,none⟩) t.others.length x,af (qtx t.worth.c),d]⟩ 231 (0,0)),.arr (.slice (some ⟨o,0,none⟩) t.basic.length p) 3 1 t.basic.length ((t.basic).map aT).flatten,.arr (.slice (some ⟨w,0,none⟩) t.others.length x) 3 1 t.others.length ((t.others).map aT).flatten,.arr d 32 1 t.others.length ((t.worth.f).map aQ).flatten]++((List.range t.basic.length).erase r).map (stE t a r s (i+1))) (by
    rw[<- Mr F H];refine List.Perm.trans (l₂:=[.arr (.slice (some ⟨z,0,none⟩) t.others.length t.others.length) 32 1 t.others.length (((Lp.byL (t.line r) s).f).map aQ).flatten,.arr (.slice (some ⟨k,0,none⟩) t.basic.length l) 228 2 t.basic.length (((stV t a r s i).set i ((Lp.putL (t.line i) s (Lp.byL (t.line r) s)).c,a i)).map bE).flatten,.obj b (.cells ⟨[.int .i64 n,.slice (some ⟨o,0,none⟩) t.basic.length p,.slice (some ⟨k,0,none⟩) t.basic.length l,.slice (some ⟨w,0,none⟩) t.others.length x,af (qtx t.worth.c),d]⟩ 231 (0,0)),.arr (.slice (some ⟨o,0,none⟩) t.basic.length p) 3 1 t.basic.length ((t.basic).map aT).flatten,.arr (.slice (some ⟨w,0,none⟩) t.others.length x) 3 1 t.others.length ((t.others).map aT).flatten,.arr d 32 1 t.others.length ((t.worth.f).map aQ).flatten]++(.arr (a i) 32 1 t.others.length ((Lp.putL (t.line i) s (Lp.byL (t.line r) s)).f.map aQ).flatten::(((List.range t.basic.length).erase r).erase i).map (stE t a r s (i+1)))) (pkL [0,0,1,1,1,1] Z) (List.Perm.append_left _ ?_);rw[<- aK];exact(lU (range_nd.erase r) ax (stE t a r s (i+1)) (stE t a r s (i+1)) (fun _ _ _=>rfl)).symm) ?_
   refine Ul fun R y=>Uq _ Z U6<|C6 1 [0,1,2,8,67,68] y Z<|Uw (m':=t.basic.length-(i+1)) om_ mup (hn_ [0,1,2,8,67,68] Z) ⟨i+1,om_,Z,Z,Z⟩
  have H:i=r:=by
   have ad:(!((i:Int) == (r:Int)))=false:=ap;simp at ad;omega
  refine Uz (L':=[.arr (.slice (some ⟨z,0,none⟩) t.others.length t.others.length) 32 1 t.others.length (((Lp.byL (t.line r) s).f).map aQ).flatten,.arr (.slice (some ⟨k,0,none⟩) t.basic.length l) 228 2 t.basic.length ((stV t a r s (i+1)).map bE).flatten,.obj b (.cells ⟨[.int .i64 n,.slice (some ⟨o,0,none⟩) t.basic.length p,.slice (some ⟨k,0,none⟩) t.basic.length l,.slice (some ⟨w,0,none⟩) t.others.length x,af (qtx t.worth.c),d]⟩ 231 (0,0)),.arr (.slice (some ⟨o,0,none⟩) t.basic.length p) 3 1 t.basic.length ((t.basic).map aT).flatten,.arr (.slice (some ⟨w,0,none⟩) t.others.length x) 3 1 t.others.length ((t.others).map aT).flatten,.arr d 32 1 t.others.length ((t.worth.f).map aQ).flatten]++((List.range t.basic.length).erase r).map (stE t a r s (i+1))) (by
   have e:stE t a r s (r+1)=stE t a r s r:=funext fun q=>by unfold stE;rw[Bn]
   rw[H,IV,e]) ?_
  refine Ul fun R y=>Uq _ Z U6<|C6 1 [0,1,2,8,67,68] y Z<|Uw (m':=t.basic.length-(i+1)) om_ mup (hn_ [0,1,2,8,67,68] Z) ⟨i+1,om_,Z,Z,Z⟩
 have F:i=t.basic.length:=by
  have:=QF ao;omega
 rw[F];refine G.perm (L':=[.arr (.slice (some ⟨z,0,none⟩) t.others.length t.others.length) 32 1 t.others.length (((Lp.byL (t.line r) s).f).map aQ).flatten,.obj b (.cells ⟨[.int .i64 n,.slice (some ⟨o,0,none⟩) t.basic.length p,.slice (some ⟨k,0,none⟩) t.basic.length l,.slice (some ⟨w,0,none⟩) t.others.length x,af (qtx t.worth.c),d]⟩ 231 (0,0)),.arr d 32 1 t.others.length ((t.worth.f).map aQ).flatten,.arr (.slice (some ⟨k,0,none⟩) t.basic.length l) 228 2 t.basic.length ((stV t a r s t.basic.length).map bE).flatten,.arr (.slice (some ⟨o,0,none⟩) t.basic.length p) 3 1 t.basic.length ((t.basic).map aT).flatten,.arr (.slice (some ⟨w,0,none⟩) t.others.length x) 3 1 t.others.length ((t.others).map aT).flatten]++((List.range t.basic.length).erase r).map (stE t a r s t.basic.length)) (pkL [0,1,3,0,0,0] Z)<|UD [0,1,2,3,4,5] [(5,3)] Z kr_ fun R hB y=>Um 4 Z<|Uj (bkT an 2) U8<|D.call (Ju _ Q.m_ b t.others.length s (.int .i64 n) (.slice (some ⟨o,0,none⟩) t.basic.length p) (.slice (some ⟨k,0,none⟩) t.basic.length l) (.slice (some ⟨w,0,none⟩) t.others.length x) d (.slice (some ⟨z,0,none⟩) t.others.length t.others.length) t.worth (Lp.byL (t.line r) s) aB (by rw[vB];exact X) W (az.le dc_) (au.le dc_)) Z (.inr dc_) U6 (pkL [0,0,0] Z) fl_ fun a5 _ a6 _ aN=>Un [0,1,2,8] y Z ?_;obtain⟨-,rfl⟩:=aN;refine G.perm (L':=[.obj b (.cells ⟨[.int .i64 n,.slice (some ⟨o,0,none⟩) t.basic.length p,.slice (some ⟨k,0,none⟩) t.basic.length l,.slice (some ⟨w,0,none⟩) t.others.length x,af (qtx (Lp.putL t.worth s (Lp.byL (t.line r) s)).c),d]⟩ 231 (0,0)),.arr (.slice (some ⟨o,0,none⟩) t.basic.length p) 3 1 t.basic.length ((t.basic).map aT).flatten,.arr (.slice (some ⟨k,0,none⟩) t.basic.length l) 228 2 t.basic.length ((stV t a r s t.basic.length).map bE).flatten,.arr (.slice (some ⟨w,0,none⟩) t.others.length x) 3 1 t.others.length ((t.others).map aT).flatten,.arr d 32 1 t.others.length (((Lp.putL t.worth s (Lp.byL (t.line r) s)).f).map aQ).flatten,.arr (.slice (some ⟨z,0,none⟩) t.others.length t.others.length) 32 1 t.others.length (((Lp.byL (t.line r) s).f).map aQ).flatten]++((List.range t.basic.length).erase r).map (stE t a r s t.basic.length)) (pkL [1,3,2,2,1] Z)<|UD [0,1,2,3,4,5,6,7] [] Z kr_ fun R hB y=>Um 3 Z<|Uo ag U9<|Uk U6<|Uj (bkT an 2) U8<|UL (r*2) U10 ai U2<|UO (j:=2) U11 (by show r*2+2<=_;rw[bR gJ,iW];omega)<|Un [0,1,2] y Z<|Uz (L':=[.arr (.slice (some ⟨k,0,none⟩) t.basic.length l) 228 2 t.basic.length (((stV t a r s t.basic.length).set r ((Lp.byL (t.line r) s).c,.slice (some ⟨z,0,none⟩) t.others.length t.others.length)).map bE).flatten,.obj b (.cells ⟨[.int .i64 n,.slice (some ⟨o,0,none⟩) t.basic.length p,.slice (some ⟨k,0,none⟩) t.basic.length l,.slice (some ⟨w,0,none⟩) t.others.length x,af (qtx (Lp.putL t.worth s (Lp.byL (t.line r) s)).c),d]⟩ 231 (0,0)),.arr (.slice (some ⟨o,0,none⟩) t.basic.length p) 3 1 t.basic.length ((t.basic).map aT).flatten,.arr (.slice (some ⟨w,0,none⟩) t.others.length x) 3 1 t.others.length ((t.others).map aT).flatten,.arr d 32 1 t.others.length (((Lp.putL t.worth s (Lp.byL (t.line r) s)).f).map aQ).flatten,.arr (.slice (some ⟨z,0,none⟩) t.others.length t.others.length) 32 1 t.others.length (((Lp.byL (t.line r) s).f).map aQ).flatten]++((List.range t.basic.length).erase r).map (stE t a r s t.basic.length)) (by rw[<- bK gJ _ (by rw[iW];exact B)];rfl)<|UD [0,1,2,3,4,5,6,7,8,9,10,11,12,13,14,15,16,17,18,19,20,21,22,23,24,25,26,27] [] Z kr_ fun R hB y=>Um 3 Z<|Uo ae U9<|Um 4 Z<|Uo ae U9<|Um 4 Z<|Uo ae U9<|Uk U6<|UL (s*1) U10 ai U2<|U1 aa U6 (fun _=>(by rw[eg ek (show t.others[s]?=some (t.oth s) from zi W)];rfl)) U2<|Um 3 Z<|Uo ae U9<|Uk U6<|UL (r*1) U10 ai U2<|U1 ac U6 (fun _=>(by rw[eg ek (show t.basic[r]?=some (t.bas r) from zi B)];rfl)) U2<|UL (r*1) U10 ai U2<|UO (j:=2) U11 (by show r*1+1<=_;rw[bR ek];omega)<|UL (s*1) U10 ai U2<|UO (j:=3) U11 (by show s*1+1<=_;rw[bR ek];omega)<|Vp [] trivial (y _ _ _ Z ?_);refine G.perm (L':=(fg b n (t.pivot r s) (.slice (some ⟨o,0,none⟩) t.basic.length p) (.slice (some ⟨k,0,none⟩) t.basic.length l) (.slice (some ⟨w,0,none⟩) t.others.length x) d (fun q=>if q=r then (.slice (some ⟨z,0,none⟩) t.others.length t.others.length) else a q)).map Lent.ent) (by
  refine List.Perm.trans ?_ (Mo V B);rw[<- bK ek _ B,<- bK ek _ W]
  (exact pkL [3,1,1,0,0,0] rfl)) ?_
 exact Vv Z<|⟨Z,_,Z⟩
theorem uI (h:Lp.Inv p cc t)(b:Lp.Lim p cc 20)(a:i<t.basic.length):LineQ 20 (t.line i):=by
 refine⟨h.con b a,fun x c=>?_⟩;obtain⟨s,hs,rfl⟩:=List.mem_iff_getElem.1 c;have d:=ij h.tab.ok a;have h1:=h.fac b a (s:=s) om_;unfold Lp.Line.g at h1;rw[am,aj hs]at h1;exact h1
theorem oN (h:Lp.Inv p cc t)(a:Lp.Lim p cc 20):LineQ 20 t.worth:=by
 refine⟨h.wcon a,fun x b=>?_⟩;obtain⟨s,hs,rfl⟩:=List.mem_iff_getElem.1 b;have c:=h.tab.ok.wl;have h1:=h.wfac a (s:=s) om_;unfold Lp.Line.g at h1;rw[am,aj hs]at h1;exact h1
theorem LineQ.g0 (h:LineQ k l)(a:k<=m)(b:1<=m)(j:Nat):QB m (l.g j):=by
 unfold Lp.Line.g;rw[am];by_cases c:j<l.f.length
 ·rw[aj c];exact(h.2 _ (Rv _)).le a
 rw[QJ om_];exact Lp.qb_zero b
theorem mM {c:Nat->Prop}(h:Lp.LeastR vs q n o)(e:∀ i,i<n->(q i ↔ c i)):Lp.LeastR vs c n o:=by
 cases h with
|none h=>exact .none fun i a b=>h i a ((e i a).2 b)
|some i a b hm=>exact .some i a ((e i a).1 b) fun j d f=>hm j d ((e j d).2 f)
theorem il (h:Lp.LeastR vs q n o)(a:¬ o<0):∃ i:Nat,o=i/\i<n/\q i/\∀ j,j<n->q j->vs.getD i 0<=vs.getD j 0:=by
 cases h with
|none h=>exact absurd dc_ a
|some i b c hm=>exact⟨i,rfl,b,c,hm⟩
theorem im (h:Lp.LeastR vs q n o)(a:o<0):∀ i,i<n->¬ q i:=by
 cases h with
|none h=>exact h
|some i b c hm=>omega
section
variable {C:Mem} {a a2 b n N:Nat} {r:Int} {t:Lp.Tab} {wB wL wO wW:Value} {wF:Nat->Value}
theorem Bf (c:t.Ok N):∀ x∈.obj a2 [.int .i64 r] 3::fg b n t wB wL wO wW wF,x.wf:=fun x a=>by
 rcases QQ.1 a with rfl|a
 ·trivial
 exact gm c x a
theorem GX (d:t.Ok N)(j:C a=some (.cells ⟨[.pointer (some ⟨b,0,none⟩)]⟩ 221 (0,0)))(k:∀ i,i<t.basic.length->LineQ 20 (t.line i)) :
  Jog.Fn cx.P 206 [wB,.func (.func 207) #[] #[.pointer (some ⟨a,0,none⟩)]] C ((.obj a2 [.int .i64 r] 3::fg b n t wB wL wO wW wF).map Lent.ent)
   fun u _ e=>(∃ o:Int,u=.int .i64 o/\Lp.LeastR t.basic (fun i=>n<=t.bas i/\(t.line i).c<0) t.basic.length o)/\e=(.obj a2 [.int .i64 r] 3::fg b n t wB wL wO wW wF).map Lent.ent:=by
 refine Vu kr_ _ (Bf d) fun l m hs=>?_;have f:=fb d fun x p=>hs x (QL _ p);refine(ou l wB t.basic 207 [.pointer (some ⟨a,0,none⟩)] (fun i=>decide (n<=t.bas i) && decide ((t.line i).c<0)) f.B kr_ fun i g D h =>
  Kl D a b n i N t wB wL wO wW _ (f.mono h) d ((m.trans h) _ _ j) g ((k i g).1.le dc_)).mono ?_
 rintro u D e _ ⟨h1,o,rfl,h2⟩;exact⟨h1,o,Z,mM h2 fun i _=>by simp⟩
theorem GW {r:Nat}(c:t.Ok N)(h:C a=some (.cells ⟨[.pointer (some ⟨b,0,none⟩)]⟩ 221 (0,0)))(j:r<t.basic.length)(k:LineQ 20 (t.line r)) :
  Jog.Fn cx.P 206 [wO,.func (.func 208) #[] #[.pointer (some ⟨a,0,none⟩),.pointer (some ⟨a2,0,none⟩)]] C ((.obj a2 [.int .i64 r] 3::fg b n t wB wL wO wW wF).map Lent.ent)
   fun u _ e=>(∃ o:Int,u=.int .i64 o/\Lp.LeastR t.others (fun i=>n<=t.oth i/\0<(t.line r).g i) t.others.length o)/\e=(.obj a2 [.int .i64 r] 3::fg b n t wB wL wO wW wF).map Lent.ent:=by
 refine Vu kr_ _ (Bf c) fun l m hs=>?_;have f:=fb c fun x p=>hs x (QL _ p);have h2:=hs _ (QC ..);refine(ou l wO t.others 208 [.pointer (some ⟨a,0,none⟩),.pointer (some ⟨a2,0,none⟩)] (fun i=>decide (n<=t.oth i) && decide (0<(t.line r).g i)) f.O kr_ fun i q D d =>
  Kk D a a2 b n i r N t wB wL wO wW _ (f.mono d) c ((m.trans d) _ _ h) (d _ _ h2) j q (k.g0 dc_ dc_ i)).mono ?_
 rintro u D e _ ⟨h1,o,rfl,h2⟩;exact⟨h1,o,Z,mM h2 fun i _=>by simp⟩
end
inductive FeasO (p:Lp.Sys) (t:Lp.Tab):Value->Prop where
|yes:t.Feas p.n->FeasO p t (.tuple #[.int .i64 0,.bool true])
|no (r:Nat):r<t.basic.length->p.n<=t.bas r->(t.line r).c<0->(∀ s,s<t.others.length->p.n<=t.oth s->(t.line r).g s<=0)->FeasO p t (.tuple #[.int .i64 r,.bool false])
theorem zG (C:Mem)(hT:Tabs C)(p:Lp.Sys)(A:Nat->Rat)(b:Nat)(d:Lp.Tab)(e h k l:Value)(B:Nat->Value)(q:Lp.Inv p A d)(a:Lp.Rel p.n d p.n)(T:Lp.Lim p A 20)(hm:p.m<=1000000)(hn:p.n<=1000000) :
  Jog.Fn cx.P 138 [.pointer (some ⟨b,0,none⟩)] C ((fg b p.n d e h k l B).map Lent.ent) fun u _ w=>∃ t wF,Lp.Inv p A t/\Lp.Rel p.n t p.n/\FeasO p t u/\w=(fg b p.n t e h k l wF).map Lent.ent:=by
 have an:maxLen<=9223372036854775807:=by simp[maxLen]
 refine Ur func138 26 U3 fun w0=>?_;refine Ul fun R a=>?_;refine UC U6 (fun b1=>?_);refine UB U5 (fun v=>?_);refine C6 1 [1,2] a Z ?_;clear a R;refine G.freeze 1 Z (fun _ _ x=>?_);refine Uz (L':=[.obj v (.cells ⟨[.int .i64 0]⟩ 3 (0,0)),.obj b (.cells ⟨[.int .i64 p.n,e,h,k,af (qtx d.worth.c),l]⟩ 231 (0,0)),.arr e 3 1 d.basic.length ((d.basic).map aT).flatten,.arr h 228 2 d.basic.length ((cM d B).map bE).flatten,.arr k 3 1 d.others.length ((d.others).map aT).flatten,.arr l 32 1 d.others.length ((d.worth.f).map aQ).flatten]++(List.range d.basic.length).map (stE d B 0 0 0)) (by rw[bd 0 0];rfl) ?_;refine G.loop (fun fr C' w μ=>∃ (t:Lp.Tab)(wF:Nat->Value)(o:Int)(E:Nat),(Lp.Inv p A t/\Lp.Rel p.n t p.n/\∀ K,Lp.Reach (Lp.FeasP p.n) t K->K<=E)/\fr=[(1,[],.pointer (some ⟨b1,0,none⟩)),(2,[],.pointer (some ⟨v,0,none⟩))]/\w=[.obj v (.cells ⟨[.int .i64 o]⟩ 3 (0,0)),.obj b (.cells ⟨[.int .i64 p.n,e,h,k,af (qtx t.worth.c),l]⟩ 231 (0,0)),.arr e 3 1 t.basic.length ((t.basic).map aT).flatten,.arr h 228 2 t.basic.length ((cM t wF).map bE).flatten,.arr k 3 1 t.others.length ((t.others).map aT).flatten,.arr l 32 1 t.others.length ((t.worth.f).map aQ).flatten]++(List.range t.basic.length).map (stE t wF 0 0 0)/\μ=E) (hn_ [1,2] Z) ⟨d,B,0,2 ^ (p.n+p.m),⟨q,a,fun K F=>Lp.feas_len q.tab.ok F⟩,Z,Z,Z⟩ (fun fr ao ap m _ q=>?_);obtain⟨t,wF,o,E,⟨q,a,F⟩,rfl,rfl,rfl⟩:=q;have ok:=q.tab.ok;have aa:t.basic.length<=1000000:=by rw[q.tab.lb];exact hm
 have ab:t.others.length<=1000000:=by rw[q.tab.lo];exact hn
 have H:∀ i,i<t.basic.length->LineQ 20 (t.line i):=fun i y=>uI q T y;refine UI [(5,3)] Z (fun R a=>?_);refine Uj (bkT x 1) U8 ?_;refine Um 2 Z ?_;refine Uo ae U9 ?_;refine Uk U6 ?_;refine D.call (GX ok (Mem.get x mup) H) Z (.inr dc_) U6 (show List.Perm _ (((.obj v [.int .i64 o] 3::fg b p.n t e h k l wF).map Lent.ent)++[]) from List.Perm.of_eq (by rw[Q2,Ri,bd 0 0];rfl)) fl_ (fun aq _ ar _ ac=>?_);obtain⟨⟨I,rfl,U⟩,rfl⟩:=ac;refine Us (j:=0) U12 ?_;refine Un [1,2] a Z ?_;clear a R;refine Uz (L':=[.obj v (.cells ⟨[.int .i64 I]⟩ 3 (0,0)),.obj b (.cells ⟨[.int .i64 p.n,e,h,k,af (qtx t.worth.c),l]⟩ 231 (0,0)),.arr e 3 1 t.basic.length ((t.basic).map aT).flatten,.arr h 228 2 t.basic.length ((cM t wF).map bE).flatten,.arr k 3 1 t.others.length ((t.others).map aT).flatten,.arr l 32 1 t.others.length ((t.worth.f).map aQ).flatten]++(List.range t.basic.length).map (stE t wF 0 0 0)) (by rw[Q2,Ri,bd 0 0];rfl) ?_;refine Ul fun R a=>?_;refine Uo ag U9 ?_;refine C6 1 [1,2,12] a Z ?_;clear a R;refine G.cd (fun J=>?_) fun J=>?_
 ·have L:I<0:=PZ J;have M:=im U L;refine Ul fun R a=>?_;refine Us (j:=0) U12 ?_;refine C6 1 [2,3] a Z ?_;clear a R;refine Uv (Wg 0 Z Z Z Z Z Z ?_);exact⟨t,wF,q,a,.yes (fun i y z=>by have:=M i y;grind),by rw[bd 0 0];rfl⟩
 have L:¬ I<0:=QF J;obtain⟨r,rfl,hr,⟨N,V⟩,ad⟩:=il U L;refine UI [(5,3)] Z (fun R a=>?_);refine Uj (bkT x 1) U8 ?_;refine Um 2 Z ?_;refine Uo ae U9 ?_;refine Uk U6 ?_;refine D.call (GW ok (Mem.get x mup) hr (H r hr)) Z (.inr dc_) U6 (show List.Perm _ (((.obj v [.int .i64 (r:Nat)] 3::fg b p.n t e h k l wF).map Lent.ent)++[]) from List.Perm.of_eq (by rw[Q2,Ri,bd 0 0];rfl)) fl_ (fun au _ av _ ah=>?_);refine C6 1 [1,2,4] a Z ?_;clear a R;obtain⟨⟨W,rfl,X⟩,rfl⟩:=ah;refine Uz (L':=[.obj v (.cells ⟨[.int .i64 (r:Nat)]⟩ 3 (0,0)),.obj b (.cells ⟨[.int .i64 p.n,e,h,k,af (qtx t.worth.c),l]⟩ 231 (0,0)),.arr e 3 1 t.basic.length ((t.basic).map aT).flatten,.arr h 228 2 t.basic.length ((cM t wF).map bE).flatten,.arr k 3 1 t.others.length ((t.others).map aT).flatten,.arr l 32 1 t.others.length ((t.worth.f).map aQ).flatten]++(List.range t.basic.length).map (stE t wF 0 0 0)) (by rw[Q2,Ri,bd 0 0];rfl) ?_;refine Uh 2 [1,2,4,20] Z ?_;refine G.cd (fun O=>?_) fun O=>?_
 ·have Q:W<0:=PZ O;have M:=im X Q;refine Ul fun R a=>?_;refine Uo ag U9 ?_;refine Us (j:=0) U12 ?_;refine C6 1 [2,3] a Z ?_;clear a R;refine Uv (Wg 0 Z Z Z Z Z Z ?_);exact⟨t,wF,q,a,.no r hr N V (fun s hs z=>by have:=M s hs;grind),by rw[bd 0 0];rfl⟩
 have Q:¬ W<0:=QF O;obtain⟨s,rfl,hs,⟨ai,aj⟩,ak⟩:=il X Q;have hP:Lp.FeasP p.n t r s:=⟨hr,hs,N,ai,V,fun i y z hc=>ad i y ⟨z,hc⟩,aj,fun j hj z hg=>ak j hj ⟨z,hg⟩⟩;have Y:(t.line r).g s≠0:=by grind
 obtain⟨aw,al⟩:=Lp.Reach.fall hP F;refine UI [(3,3)] Z (fun R a=>?_);refine Uj (bkT x 1) U8 ?_;refine Uo ag U9 ?_;refine Uk U6 ?_;refine D.call (ux _ hT.m_ b p.n r s (p.n+p.m) t e h k l wF ok aa ab hr hs Y H (oN q T)) Z (.inr dc_) U6 (by rw[bd 0 0];exact(List.perm_append_singleton _ _).symm) fl_ (fun ax _ ay _ am=>?_);refine Un [1,2] a Z ?_;clear a R;obtain⟨-,S,rfl⟩:=am;refine G.perm (L':=[.obj v (.cells ⟨[.int .i64 (r:Nat)]⟩ 3 (0,0)),.obj b (.cells ⟨[.int .i64 p.n,e,h,k,af (qtx (t.pivot r s).worth.c),l]⟩ 231 (0,0)),.arr e 3 1 (t.pivot r s).basic.length (((t.pivot r s).basic).map aT).flatten,.arr h 228 2 (t.pivot r s).basic.length ((cM (t.pivot r s) S).map bE).flatten,.arr k 3 1 (t.pivot r s).others.length (((t.pivot r s).others).map aT).flatten,.arr l 32 1 (t.pivot r s).others.length (((t.pivot r s).worth.f).map aQ).flatten]++(List.range (t.pivot r s).basic.length).map (stE (t.pivot r s) S 0 0 0)) (by rw[bd 0 0];exact List.perm_append_singleton _ _) ?_;refine Uw (m':=m-1) om_ mup (hn_ [1,2] Z) ⟨t.pivot r s,S,(r:Int),m-1,⟨q.pivot hr hs Y,Lp.rel_pivot ok a hr hs N,al⟩,Z,Z,Z⟩
section
variable {C:Mem} {a b n N:Nat} {t:Lp.Tab} {wB wL wO wW:Value} {wF:Nat->Value}
theorem GV (c:t.Ok N)(h:C a=some (.cells ⟨[.pointer (some ⟨b,0,none⟩)]⟩ 221 (0,0))) :
  Jog.Fn cx.P 206 [wO,.func (.func 209) #[] #[.pointer (some ⟨a,0,none⟩)]] C ((fg b n t wB wL wO wW wF).map Lent.ent)
   fun u _ d=>(∃ o:Int,u=.int .i64 o/\Lp.LeastR t.others (fun i=>¬ n<=t.oth i/\¬ t.worth.g i=0) t.others.length o)/\d=(fg b n t wB wL wO wW wF).map Lent.ent:=by
 refine Vu kr_ _ (gm c) fun j k hs=>?_;have e:=fb c hs;refine(ou j wO t.others 209 [.pointer (some ⟨a,0,none⟩)] (fun i=>!decide (n<=t.oth i) && !decide (t.worth.g i=0)) e.O kr_ fun i l D f =>
  Np D a b n i N t wB wL wO wW _ (e.mono f) c ((k.trans f) _ _ h) l).mono ?_
 rintro u D d _ ⟨h1,o,rfl,h2⟩;exact⟨h1,o,Z,mM h2 fun i _=>by simp⟩
theorem GU (c:t.Ok N)(h:C a=some (.cells ⟨[.pointer (some ⟨b,0,none⟩)]⟩ 221 (0,0)))(j:LineQ 20 t.worth) :
  Jog.Fn cx.P 206 [wO,.func (.func 210) #[] #[.pointer (some ⟨a,0,none⟩)]] C ((fg b n t wB wL wO wW wF).map Lent.ent)
   fun u _ d=>(∃ o:Int,u=.int .i64 o/\Lp.LeastR t.others (fun i=>n<=t.oth i/\t.worth.g i<0) t.others.length o)/\d=(fg b n t wB wL wO wW wF).map Lent.ent:=by
 refine Vu kr_ _ (gm c) fun k l hs=>?_;have e:=fb c hs;refine(ou k wO t.others 210 [.pointer (some ⟨a,0,none⟩)] (fun i=>decide (n<=t.oth i) && decide (t.worth.g i<0)) e.O kr_ fun i m D f =>
  No D a b n i N t wB wL wO wW _ (e.mono f) c ((l.trans f) _ _ h) m (j.g0 dc_ dc_ i)).mono ?_
 rintro u D d _ ⟨h1,o,rfl,h2⟩;exact⟨h1,o,Z,mM h2 fun i _=>by simp⟩
theorem GS {s:Nat}(f:Tabs C)(a:t.Ok N)(d:s<t.others.length)(e:∀ i,i<t.basic.length->LineQ 20 (t.line i)) :
  Jog.Fn cx.P 211 [.pointer (some ⟨b,0,none⟩),.int .i64 s] C ((fg b n t wB wL wO wW wF).map Lent.ent)
   fun u _ h=>(∃ o:Int,u=.int .i64 o/\Lp.LeaveR n t s t.basic.length o)/\h=(fg b n t wB wL wO wW wF).map Lent.ent :=
 Vu kr_ _ (gm a) fun j k l=>J1 j (f.mono k) b n s N t wB wL wO wW _ (fb a l) a d fun i c=>⟨(e i c).1,(e i c).g (by rw[ij a c];exact d)⟩
end
theorem zq (h:Lp.LeaveR F t s n o)(a:o<0):∀ i,i<n->F<=t.bas i->0<=(t.line i).g s:=by
 cases h with
|none h=>exact h
|some r _ _ _ _=>omega
theorem zp (h:Lp.LeaveR F t s n o)(a:¬ o<0):∃ r:Nat,o=r/\r<n/\F<=t.bas r/\(t.line r).g s<0 /\
  ∀ i,i<n->F<=t.bas i->(t.line i).g s<0->(t.line r).c / -(t.line r).g s<(t.line i).c / -(t.line i).g s∨(t.line r).c / -(t.line r).g s=(t.line i).c / -(t.line i).g s/\t.bas r<=t.bas i:=by
 cases h with
|none h=>exact absurd dc_ a
|some r h1 h2 h3 h4=>exact⟨r,rfl,h1,h2,h3,h4⟩
inductive MinO (p:Lp.Sys) (t:Lp.Tab):Value->Prop where
|yes:Lp.RelW p.n t->(∀ s,s<t.others.length->p.n<=t.oth s->0<=t.worth.g s)->MinO p t (.tuple #[.int .i64 0,.bool true])
|no (s:Nat):s<t.others.length->lj t s*t.worth.g s<0->(∀ i,i<t.basic.length->p.n<=t.bas i->0<=lj t s*(t.line i).g s)->(p.n<=t.oth s->0<=lj t s)->MinO p t (.tuple #[.int .i64 s,.bool false])
theorem zk (C:Mem)(U:Tabs C)(p:Lp.Sys)(F:Nat->Rat)(b:Nat)(a:Lp.Tab)(e k l o:Value)(v:Nat->Value)(q:Lp.Inv p F a)(d:Lp.Rel p.n a p.n)(A:a.Feas p.n)(V:Lp.Lim p F 20)(hm:p.m<=1000000)(hn:p.n<=1000000) :
  Jog.Fn cx.P 140 [.pointer (some ⟨b,0,none⟩)] C ((fg b p.n a e k l o v).map Lent.ent) fun u _ w=>∃ t wF,Lp.Inv p F t/\t.Feas p.n/\MinO p t u/\w=(fg b p.n t e k l o wF).map Lent.ent:=by
 have aw:maxLen<=9223372036854775807:=by simp[maxLen]
 refine Ur func140 32 U3 fun w0=>?_;refine Ul fun R d=>?_;refine UC U6 (fun b1=>?_);refine C6 2 [1] d Z ?_;clear d R;refine G.freeze 0 Z (fun _ _ B=>?_);refine Uz (L':=[.obj b (.cells ⟨[.int .i64 p.n,e,k,l,af (qtx a.worth.c),o]⟩ 231 (0,0)),.arr e 3 1 a.basic.length ((a.basic).map aT).flatten,.arr k 228 2 a.basic.length ((cM a v).map bE).flatten,.arr l 3 1 a.others.length ((a.others).map aT).flatten,.arr o 32 1 a.others.length ((a.worth.f).map aQ).flatten]++(List.range a.basic.length).map (stE a v 0 0 0)) (by rw[bd 0 0];rfl) ?_;refine UI [(5,3)] Z (fun R d=>?_);refine Uj (bkT B 1) U8 ?_;refine Um 2 Z ?_;refine Uo ag U9 ?_;refine Uk U6 ?_;refine D.call (GV q.tab.ok (Mem.get B mup)) Z (.inr dc_) U6 (show List.Perm _ (((fg b p.n a e k l o v).map Lent.ent)++[]) from List.Perm.of_eq (by rw[Q2,bd 0 0])) fl_ (fun ax _ ay _ ah=>?_);refine C6 1 [1,2] d Z ?_;clear d R;obtain⟨⟨W,rfl,X⟩,rfl⟩:=ah;refine Uz (L':=[.obj b (.cells ⟨[.int .i64 p.n,e,k,l,af (qtx a.worth.c),o]⟩ 231 (0,0)),.arr e 3 1 a.basic.length ((a.basic).map aT).flatten,.arr k 228 2 a.basic.length ((cM a v).map bE).flatten,.arr l 3 1 a.others.length ((a.others).map aT).flatten,.arr o 32 1 a.others.length ((a.worth.f).map aQ).flatten]++(List.range a.basic.length).map (stE a v 0 0 0)) (by rw[Q2,bd 0 0]) ?_;refine Uh 2 [1,2,12] Z ?_;refine G.cd (fun H=>?_) fun H=>?_
 ·have y:¬ W<0:=by
   have:=PZ H;omega
  obtain⟨s,rfl,hs,⟨I,Y⟩,_⟩:=il X y;have ai:lj a s*a.worth.g s<0:=by
   unfold lj;split <;> grind
  refine Uh 3 [2,3] Z ?_;refine Uv (UH U3 ?_);refine⟨a,v,q,A,.no s hs ai (fun i z x=>?_) (fun h=>absurd h I),by rw[bd 0 0]⟩;rw[d s (by rw[<- q.tab.lo];exact hs) hs om_ i z x,Rat.mul_zero];exact Rat.le_refl
 have y:W<0:=by
  have:=QF H;omega
 have E:=im X y;have aj:Lp.RelW p.n a:=fun s hs az=>by
  have:=E s hs;have h2:¬ p.n<=a.oth s:=by omega
  grind
 refine G.loop (fun fr C' w μ=>∃ (t:Lp.Tab)(wF:Nat->Value)(J:Nat),(Lp.Inv p F t/\Lp.Rel p.n t p.n/\t.Feas p.n/\Lp.RelW p.n t/\∀ K,Lp.Reach (Lp.MinP p.n) t K->K<=J)/\fr=[(1,[],.pointer (some ⟨b1,0,none⟩))]/\w=[.obj b (.cells ⟨[.int .i64 p.n,e,k,l,af (qtx t.worth.c),o]⟩ 231 (0,0)),.arr e 3 1 t.basic.length ((t.basic).map aT).flatten,.arr k 228 2 t.basic.length ((cM t wF).map bE).flatten,.arr l 3 1 t.others.length ((t.others).map aT).flatten,.arr o 32 1 t.others.length ((t.worth.f).map aQ).flatten]++(List.range t.basic.length).map (stE t wF 0 0 0)/\μ=J) (hn_ [1] Z) ⟨a,v,2 ^ (p.n+p.m),⟨q,d,A,aj,fun K L=>Lp.min_len q.tab.ok L⟩,Z,Z,Z⟩ (fun fr aA aB m _ q=>?_);obtain⟨t,wF,J,⟨q,d,A,hW,L⟩,rfl,rfl,rfl⟩:=q;have ok:=q.tab.ok;have ak:t.basic.length<=1000000:=by rw[q.tab.lb];exact hm
 have al:t.others.length<=1000000:=by rw[q.tab.lo];exact hn
 have hq:∀ i,i<t.basic.length->LineQ 20 (t.line i):=fun i z=>uI q V z;have aa:=oN q V;refine UI [(5,3)] Z (fun R d=>?_);refine Uj (bkT B 1) U8 ?_;refine Um 2 Z ?_;refine Uo ag U9 ?_;refine Uk U6 ?_;refine D.call (GU ok (Mem.get B mup) aa) Z (.inr dc_) U6 (show List.Perm _ (((fg b p.n t e k l o wF).map Lent.ent)++[]) from List.Perm.of_eq (by rw[Q2,bd 0 0])) fl_ (fun aC _ aD _ am=>?_);refine C6 1 [1,2] d Z ?_;clear d R;obtain⟨⟨o1,rfl,ab⟩,rfl⟩:=am;refine Uz (L':=[.obj b (.cells ⟨[.int .i64 p.n,e,k,l,af (qtx t.worth.c),o]⟩ 231 (0,0)),.arr e 3 1 t.basic.length ((t.basic).map aT).flatten,.arr k 228 2 t.basic.length ((cM t wF).map bE).flatten,.arr l 3 1 t.others.length ((t.others).map aT).flatten,.arr o 32 1 t.others.length ((t.worth.f).map aQ).flatten]++(List.range t.basic.length).map (stE t wF 0 0 0)) (by rw[Q2,bd 0 0]) ?_;refine Uh 2 [1,2,21] Z ?_;refine G.cd (fun M=>?_) fun M=>?_
 ·have y:o1<0:=PZ M;have E:=im ab y;refine Uh 2 [2,3] Z ?_;refine Uv (UH U3 ?_);exact⟨t,wF,q,A,.yes hW (fun s hs x=>by have:=E s hs;grind),by rw[bd 0 0]⟩
 have y:¬ o1<0:=QF M;obtain⟨s,rfl,hs,⟨I,Y⟩,an⟩:=il ab y;refine UI [(2,3)] Z (fun R d=>?_);refine Uj (bkT B 1) U8 ?_;refine Uk U6 ?_;refine D.call (GS U.m_ ok hs hq) Z (.inr dc_) U6 (show List.Perm _ (((fg b p.n t e k l o wF).map Lent.ent)++[]) from List.Perm.of_eq (by rw[Q2,bd 0 0])) fl_ (fun aE _ aG _ ao=>?_);refine C6 1 [1,2,4] d Z ?_;clear d R;obtain⟨⟨o2,rfl,ac⟩,rfl⟩:=ao;refine Uz (L':=[.obj b (.cells ⟨[.int .i64 p.n,e,k,l,af (qtx t.worth.c),o]⟩ 231 (0,0)),.arr e 3 1 t.basic.length ((t.basic).map aT).flatten,.arr k 228 2 t.basic.length ((cM t wF).map bE).flatten,.arr l 3 1 t.others.length ((t.others).map aT).flatten,.arr o 32 1 t.others.length ((t.worth.f).map aQ).flatten]++(List.range t.basic.length).map (stE t wF 0 0 0)) (by rw[Q2,bd 0 0]) ?_;refine Uh 2 [1,2,4,26] Z ?_;refine G.cd (fun N=>?_) fun N=>?_
 ·have O:o2<0:=PZ N;have E:=zq ac O;have Q:lj t s=1:=by
   unfold lj;rw[aF (by grind)]
  refine Uh 3 [2,3] Z ?_;refine Uv (UH U3 ?_);refine⟨t,wF,q,A,.no s hs (by rw[Q];grind) (fun i z x=>?_) (fun _=>by rw[Q];decide),by rw[bd 0 0]⟩;rw[Q];have:=E i z x;grind
 have O:¬ o2<0:=QF N;obtain⟨r,rfl,hr,S,ap,aq⟩:=zp ac O;have hP:Lp.MinP p.n t r s:=⟨hr,hs,S,I,Y,fun j hj x hg=>an j hj ⟨x,hg⟩,ap,aq,A⟩;have ad:(t.line r).g s≠0:=by grind
 obtain⟨aH,ar⟩:=Lp.Reach.fall hP L;refine UI [(3,3)] Z (fun R d=>?_);refine Uj (bkT B 1) U8 ?_;refine Um 2 Z ?_;refine D.call (ux _ U.m_ b p.n r s (p.n+p.m) t e k l o wF ok ak al hr hs ad hq aa) Z (.inr dc_) U6 (show List.Perm _ (((fg b p.n t e k l o wF).map Lent.ent)++[]) from List.Perm.of_eq (by rw[Q2,bd 0 0])) fl_ (fun aI _ aJ _ au=>?_);refine Un [1] d Z ?_;clear d R;obtain⟨-,T,rfl⟩:=au;refine Uz (L':=[.obj b (.cells ⟨[.int .i64 p.n,e,k,l,af (qtx (t.pivot r s).worth.c),o]⟩ 231 (0,0)),.arr e 3 1 (t.pivot r s).basic.length (((t.pivot r s).basic).map aT).flatten,.arr k 228 2 (t.pivot r s).basic.length ((cM (t.pivot r s) T).map bE).flatten,.arr l 3 1 (t.pivot r s).others.length (((t.pivot r s).others).map aT).flatten,.arr o 32 1 (t.pivot r s).others.length (((t.pivot r s).worth.f).map aQ).flatten]++(List.range (t.pivot r s).basic.length).map (stE (t.pivot r s) T 0 0 0)) (by rw[Q2,bd 0 0]) ?_;refine Uw (m':=m-1) om_ mup (hn_ [1] Z) ⟨t.pivot r s,T,m-1,⟨q.pivot hr hs ad,Lp.rel_pivot ok d hr hs S,Lp.min_feas ok hP,Lp.relw_pivot ok (fun s' ae av i z x=>d s' (by rw[<- q.tab.lo];exact ae) ae av i z x) hW hr hs S,ar⟩,Z,Z,Z⟩
theorem PF (C:Mem)(v:Value)(l:List Nat)(b:Sl C 1 v (l.map aT))(t:l.length<=1000000):Jog.Fn cx.P 200 [v] C [] fun u _w e=>∃ A n c,u=.slice A n c/\e=[.arr (.slice A n c) 3 1 l.length (l.map aT).flatten]:=by
 obtain⟨f,c0,rfl,m,x,y,o⟩:=id b;have z:maxLen<=9223372036854775807:=by simp[maxLen]
 simp only[ar]at b m⊢;refine Ur func200 8 U3 fun w0=>Uh 1 [0] Z<|Ui 1 Z fun R d=>VH U9<|Un [0,4] d Z<|G.cd (fun h4=>?_) fun h4=>?_
 ·have p:f=none:=by
   cases f with
  |none=>rfl
  |some a=>cases h4
  have s:l=[]:=by
   cases l with
  |nil=>rfl
  |cons q r =>
    obtain⟨a,g,_⟩:=o 0 (aT q) rfl;rw[p]at g;cases g
  refine Uh 1 [2] Z<|G.nilArr 3 1<|Uv (UV Z Z ?_);exact⟨none,0,0,Z,by rw[s];rfl⟩
 refine Ul fun R d=>Vq [] U12 fl_ fun B=>Uk U6<|UP (j:=0) U11 b.m_ (by simp[aT,lQ]) (by simp only[ar,Re,maxLen];omega) (by simp only[ar,Re];omega) fl_ fun h i k=>C6 1 [2] d Z<|Uz (L':=[.arr (.slice h i k) 3 1 l.length (l.map aT).flatten]) al<|Uv (UV Z Z ?_);exact⟨h,i,k,Z,Z⟩
theorem MQ (C:Mem)(b s:Nat)(q:Rat)(w:Value)(l:List Rat)(c:Sl C 1 w (l.map aQ))(d:C b=some (.cells ⟨[.int .i64 s]⟩ 3 (0,0)))(e:s<l.length) :
  Gives cx.P 202 [.agg ⟨[af (qtx q),w]⟩,.pointer (some ⟨b,0,none⟩)] C (.bool (!decide (l.getD s 0=0))):=by
 obtain⟨h,i,rfl,j,k,_⟩:=id c;have m:maxLen<=9223372036854775807:=by simp[maxLen]
 refine Ur func202 10 U3 fun w0=>Ul fun R a=>UC U6 fun n=>C6 1 [1,2] a Z<|G.freeze 0 Z fun _ _ f=>Ui 1 Z fun R a=>Uj (bkT f 1) U8<|Uj (bkT d 1) U8<|Uy c.m_ U10 om_ (dO e) fl_ fun o g=>Uj g U8<|C6 2 [3] a Z<|Up U2<|⟨?_,Z⟩;show Value.bool _=Value.bool _;congr 1;show(!((⟨(qtx (l.getD s 0)).toArray⟩:ByteArray).data.toList == (⟨#[48]⟩:ByteArray).data.toList))=_;rw[eQ]
theorem MP (C:Mem)(b s:Nat)(q:Rat)(w:Value)(l:List Rat)(c:Sl C 1 w (l.map aQ))(d:C b=some (.cells ⟨[.int .i64 s]⟩ 3 (0,0)))(e:s<l.length) :
  Gives cx.P 204 [.agg ⟨[af (qtx q),w]⟩,.pointer (some ⟨b,0,none⟩)] C (.bool (!decide (l.getD s 0=0))):=by
 obtain⟨h,i,rfl,j,k,_⟩:=id c;have m:maxLen<=9223372036854775807:=by simp[maxLen]
 refine Ur func204 10 U3 fun w0=>Ul fun R a=>UC U6 fun n=>C6 1 [1,2] a Z<|G.freeze 0 Z fun _ _ f=>Ui 1 Z fun R a=>Uj (bkT f 1) U8<|Uj (bkT d 1) U8<|Uy c.m_ U10 om_ (dO e) fl_ fun o g=>Uj g U8<|C6 2 [3] a Z<|Up U2<|⟨?_,Z⟩;show Value.bool _=Value.bool _;congr 1;show(!((⟨(qtx (l.getD s 0)).toArray⟩:ByteArray).data.toList == (⟨#[48]⟩:ByteArray).data.toList))=_;rw[eQ]
inductive FirstR (q:Nat->Prop) (n:Nat):Int->Prop where
|none:(∀ i,i<n->¬ q i)->FirstR q n (-1)
|some (r:Nat):r<n->q r->(∀ i,i<r->¬ q i)->FirstR q n r
theorem GP (C:Mem)(v:Value)(a:List (Rat × Value))(g:Nat)(c:List Value)(q:Nat->Prop)[DecidablePred q](d:Sl C 2 v (a.map bE))(_E:Jog.Enters cx.P g=true)
  (p:∀ i x,a[i]?=some x->∀ D:Mem,C.le D->Gives cx.P g (.agg ⟨bE x⟩::c) D (.bool (decide (q i)))) :
  Pur cx.P 201 [v,.func (.func g) #[] ⟨c⟩] C fun u _=>∃ o:Int,u=.int .i64 o/\FirstR q a.length o:=by
 obtain⟨r,c0,rfl,s,F,_⟩:=id d;have H:maxLen<=9223372036854775807:=by simp[maxLen]
 simp only[ar]at d s⊢;refine Ur func201 19 U3 fun w0=>Uh 1 [0,1] Z<|Uh 3 [0,1,7,8] Z<|G.loop (fun fr I t w=>∃ (i:Nat),(i<=a.length/\∀ j,j<i->¬ q j)/\fr=[(0,[],.slice r a.length c0),(1,[],.func (.func g) #[] ⟨c⟩),(7,[],.int .i64 a.length),(8,[],.int .i64 i)]/\t=[]/\w=a.length-i) (hn_ [0,1,7,8] Z) ⟨0,⟨QH _,fun j e=>absurd e (Nat.not_lt_zero _)⟩,Z,Z,Z⟩ (fun fr J K m _ y=>?_);obtain⟨i,⟨L,f⟩,rfl,rfl,rfl⟩:=y;refine Uh 1 [0,1,7,8,9] Z<|G.cd (fun h=>?_) fun h=>?_
 ·have b:i<a.length:=by simpa using h
  obtain⟨x,n⟩:∃ x,a[i]?=some x:=⟨a[i],aj b⟩;refine Uh 2 [0,1,5,7,8] Z<|Ui 3 Z fun R k=>Uy d.m_ U10 om_ (show(a.map bE)[i]?=some [af (qtx x.1),x.2] from kN n) fl_ fun M z=>Uj z U8<|Ut (p i x n _ mup) U7<|Un [0,1,5,7,8,16] k Z<|G.cd (fun l=>?_) fun l=>?_
  ·have A:q i:=PZ l;exact Uh 2 [4] Z<|Up U2<|⟨Z,(i:Int),Z,.some i b A f⟩
  have B:¬ q i:=QF l;refine Ul fun R k=>Uq _ Z U6<|C6 1 [0,1,7,8] k Z<|Uw (m':=a.length-(i+1)) om_ mup (hn_ [0,1,7,8] Z) ⟨i+1,⟨by omega,fun j e=>by
   rcases Nat.lt_or_eq_of_le (Nat.le_of_lt_succ e) with h1|h1
   ·exact f j h1
   rw[h1];exact B⟩,rfl,rfl,rfl⟩
 have b:i=a.length:=by
  have:¬ i<a.length:=by simpa using h
  omega
 exact Uh 1 [4] Z<|Up U2<|⟨Z, -1,Z,.none (by rw[<- b];exact f)⟩
theorem Fq (C:Mem)(b n v:Nat)(a:List Value)(c:C b=some (.cells ⟨.int .i64 n::a⟩ 231 (0,0))) :
  Gives cx.P 203 [.pointer (some ⟨b,0,none⟩),.int .i64 v] C (.bool (decide (n<=v))):=by
 refine Ur func203 11 U3 fun w0=>Uh 1 [0,1] Z<|Ui 4 Z fun R d=>Uj (bkT c 1) U8<|C6 2 [4] d Z<|Up U2<|⟨?_,Z⟩;congr 1;rw[Ry];omega
theorem pf (C:Mem)(b n v:Nat)(a:List Value):Jog.Fn cx.P 203 [.pointer (some ⟨b,0,none⟩),.int .i64 v] C [.obj b (.cells ⟨.int .i64 n::a⟩ 231 (0,0))]
   fun u _ d=>u=.bool (decide (n<=v))/\d=[.obj b (.cells ⟨.int .i64 n::a⟩ 231 (0,0))]:=by
 have h:=Vu (P:=cx.P) (f:=203) (args:=[.pointer (some ⟨b,0,none⟩),.int .i64 v]) (C:=C) (q:=fun u=>u=.bool (decide (n<=v))) kr_ [.obj b (.int .i64 n::a) 231] (fun x c=>by
  rcases QQ.1 c with rfl|c
  ·trivial
  cases c) fun e g hs=>(Fq e b n v a (hs _ (QC ..))).mono fun u _ i _ ⟨h1,h2⟩=>⟨h2,h1⟩
 exact h
theorem oV {C:Mem}(h:∀ x∈fg b n t wB wL wO wW wF,x.seen C):Sl C 1 wO (t.others.map aT)/\Sl C 2 wL ((cM t wF).map bE)/\∀ i,i<t.basic.length->Sl C 1 (wF i) ((t.line i).f.map aQ) :=
 ⟨h _ (QL _ (QL _ (QL _ (QC ..)))),h _ (QL _ (QL _ (QC ..))),fun i a =>
  h (Lg t wF i) (QL _ (QL _ (QL _ (QL _ (QL _ (QE.2 ⟨i,QU.2 a,rfl⟩))))))⟩
section
variable {C:Mem} {a2 b n N s:Nat} {t:Lp.Tab} {wB wO wW:Value} {wF:Nat->Value}
theorem PE {d:Value}(i:t.Ok N)(j:t.others.length<=1000000):Jog.Fn cx.P 200 [wO] C ((fg b n t wB d wO wW wF).map Lent.ent)
   fun u _ a=>∃ A n2 c,u=.slice A n2 c/\a=.arr (.slice A n2 c) 3 1 t.others.length (t.others.map aT).flatten::(fg b n t wB d wO wW wF).map Lent.ent:=by
 have h:=VJ (P:=cx.P) (f:=200) (args:=[wO]) (L:=[]) (C:=C) (post:=fun u a=>∃ A n2 c,u=.slice A n2 c/\a=[.arr (.slice A n2 c) 3 1 t.others.length (t.others.map aT).flatten]) kr_ (fg b n t wB d wO wW wF) (gm i) fun g o hs=>PF g wO t.others (oV hs).1 j;rw[Q2]at h;refine⟨h.1,fun w k=>(h.2 w k).mono ?_⟩;rintro e w' ⟨v,g,a,l,m,p,rfl,A,n2,c,rfl,rfl⟩;exact⟨_,g,_,l,St.perm m (List.perm_append_singleton _ _),A,n2,c,Z,Z⟩
theorem Nv {a:Value}(h:t.Ok N)(l:C a2=some (.cells ⟨[.int .i64 s]⟩ 3 (0,0)))(m:s<t.others.length) :
  Jog.Fn cx.P 201 [a,.func (.func 202) #[] #[.pointer (some ⟨a2,0,none⟩)]] C ((fg b n t wB a wO wW wF).map Lent.ent)
   fun u _ j=>(∃ o:Int,u=.int .i64 o/\FirstR (fun i=>¬ (t.line i).g s=0) t.basic.length o)/\j=(fg b n t wB a wO wW wF).map Lent.ent:=by
 refine Vu kr_ _ (gm h) fun p q r=>?_;obtain⟨_,v,w⟩:=oV r;refine(GP p a (cM t wF) 202 [.pointer (some ⟨a2,0,none⟩)] (fun i=>¬ (t.line i).g s=0) v kr_ fun i x d D k=>?_).mono ?_
 ·have e:i<t.basic.length:=by rw[<- fH (wF:=wF)];exact(aL.1 d).1
  rw[oo e]at d;cases d
  rw[decide_not];exact MQ D a2 s (t.line i).c (wF i) (t.line i).f ((w i e).mono k) ((q.trans k) _ _ l) (by rw[ij h e];exact m)
 rintro u D j _ ⟨h1,o,rfl,h2⟩;rw[fH]at h2;exact⟨h1,o,Z,h2⟩
theorem Nu {A:Option Addr}{c r M:Nat}(v:t.basic.length=M)(j:t.Ok N)(w:C a2=some (.cells ⟨[.int .i64 s]⟩ 3 (0,0)))(y:s<t.others.length)(J:r<t.basic.length)(z:M<=c) :
  Jog.Fn cx.P 201 [.slice (if c=r+1 then A else A.map (·.add ((r+1)*2))) (M-(r+1)) (c-(r+1)),.func (.func 204) #[] #[.pointer (some ⟨a2,0,none⟩)]] C ((fg b n t wB (.slice A M c) wO wW wF).map Lent.ent)
   fun u _ k=>(∃ o:Int,u=.int .i64 o/\FirstR (fun i=>¬ (t.line (r+1+i)).g s=0) (t.basic.length-(r+1)) o)/\k=(fg b n t wB (.slice A M c) wO wW wF).map Lent.ent:=by
 subst v;refine Vu kr_ _ (gm j) fun B E F=>?_;obtain⟨_,G,H⟩:=oV F;have p:=Sl.sub (l:=r+1) (h:=t.basic.length) (m:=c) G om_ (by rw[ar,fH];exact Qz _) z (Qz _);have e:((cM t wF).map bE).take t.basic.length=(cM t wF).map bE:=Rf (by rw[ar,fH];exact Qz _);rw[e,<- List.map_drop]at p;have I:((cM t wF).drop (r+1)).length=t.basic.length-(r+1):=by rw[SE,fH]
 refine(GP B _ ((cM t wF).drop (r+1)) 204 [.pointer (some ⟨a2,0,none⟩)] (fun i=>¬ (t.line (r+1+i)).g s=0) p kr_ fun i x a D q=>?_).mono ?_
 ·have d:r+1+i<t.basic.length:=by have:=(aL.1 a).1;omega
  rw[List.getElem?_drop,oo d]at a;cases a
  rw[decide_not];exact MP D a2 s (t.line (r+1+i)).c (wF (r+1+i)) (t.line (r+1+i)).f ((H _ d).mono q) ((E.trans q) _ _ w) (by rw[ij j d];exact y)
 rintro u D k _ ⟨h1,o,rfl,h2⟩;rw[I]at h2;exact⟨h1,o,Z,h2⟩
end
def Qw (p:Lp.Sys)(t:Lp.Tab)(s:Nat)(o:Int):Prop:=(o=-1/\∀ i,i<t.basic.length->p.n<=t.bas i->(t.line i).g s=0)∨∃ r:Nat,o=r/\r<t.basic.length/\¬ (t.line r).g s=0/\∀ i,i<r->p.n<=t.bas i->(t.line i).g s=0
theorem zD (h:FirstR q n o)(a:o<0):∀ i,i<n->¬ q i:=by
 cases h with
|none h=>exact h
|some r _ _ _=>omega
theorem zC (h:FirstR q n o)(a:¬ o<0):∃ r:Nat,o=r/\r<n/\q r/\∀ i,i<r->¬ q i:=by
 cases h with
|none h=>exact absurd dc_ a
|some r h1 h2 h3=>exact⟨r,rfl,h1,h2,h3⟩
theorem Dl (h:FirstR (fun i=>¬ (t.line i).g s=0) t.basic.length o):Qw p t s o:=by
 cases h with
|none h=>exact .inl ⟨rfl,fun i a _=>Decidable.not_not.1 (h i a)⟩
|some r h1 h2 h3=>exact .inr ⟨r,rfl,h1,h2,fun i a _=>Decidable.not_not.1 (h3 i a)⟩
theorem DC (C:Mem)(hT:Tabs C)(p:Lp.Sys)(M:Nat->Rat)(b:Nat)(a:Lp.Tab)(N O e l:Value)(A:Nat->Value)(q:Lp.Inv p M a)(ho:a.others=List.range p.n)(hl:Lp.Lim p M 20)(hm:p.m<=1000000)(hn:p.n<=1000000) :
  Jog.Fn cx.P 137 [.pointer (some ⟨b,0,none⟩)] C ((fg b p.n a N O e l A).map Lent.ent) fun u _ z=>u=.tuple #[]/\∃ t wF,Lp.Inv p M t/\Lp.Rel p.n t p.n/\z=(fg b p.n t N O e l wF).map Lent.ent:=by
 have aM:maxLen<=9223372036854775807:=by simp[maxLen]
 have au:a.others.length=p.n:=q.tab.lo;refine Ur func137 65 U3 fun w0=>?_;refine Uz (L':=[.obj b (.cells ⟨[.int .i64 p.n,N,O,e,af (qtx a.worth.c),l]⟩ 231 (0,0)),.arr N 3 1 a.basic.length ((a.basic).map aT).flatten,.arr O 228 2 a.basic.length ((cM a A).map bE).flatten,.arr e 3 1 a.others.length ((a.others).map aT).flatten,.arr l 32 1 a.others.length ((a.worth.f).map aQ).flatten]++(List.range a.basic.length).map (stE a A 0 0 0)) (by rw[bd 0 0]) ?_;refine Wf 1 Z (fun w y I S av _=>?_);rw[q.tab.lb]at I S av;subst I;refine Wf 2 Z (fun AL x I _ T _=>?_);rw[q.tab.lb]at I T;subst I;refine Uz (L':=[.obj b (.cells ⟨[.int .i64 p.n,(.slice w p.m y),(.slice AL p.m x),e,af (qtx a.worth.c),l]⟩ 231 (0,0)),.arr (.slice w p.m y) 3 1 a.basic.length ((a.basic).map aT).flatten,.arr (.slice AL p.m x) 228 2 a.basic.length ((cM a A).map bE).flatten,.arr e 3 1 a.others.length ((a.others).map aT).flatten,.arr l 32 1 a.others.length ((a.worth.f).map aQ).flatten]++(List.range a.basic.length).map (stE a A 0 0 0)) Z ?_;refine UI [(4,3)] Z (fun R d=>?_);refine Um 3 Z ?_;refine Uo ag U9 ?_;refine D.call (PE q.tab.ok om_) Z (.inr dc_) U6 (show List.Perm _ (((fg b p.n a (.slice w p.m y) (.slice AL p.m x) e l A).map Lent.ent)++[]) from List.Perm.of_eq (by rw[Q2,bd 0 0] <;> rfl)) fl_ (fun aN aw aO _ ax=>?_);obtain⟨Ac,n2,c2,rfl,rfl⟩:=ax;refine C6 2 [0,10,11,12] d Z ?_;clear d R;refine G.freezeArr 0 (a.others.map aT) Z Z uZ al (fun aw _ an=>?_);have ay:n2=p.n:=by
  obtain⟨A9,c9,az,_⟩:=id an;injection az with e1 e2 e3;rw[e2,ar,au]
 subst ay;refine Uz (L':=[.obj b (.cells ⟨[.int .i64 p.n,(.slice w p.m y),(.slice AL p.m x),e,af (qtx a.worth.c),l]⟩ 231 (0,0)),.arr (.slice w p.m y) 3 1 a.basic.length ((a.basic).map aT).flatten,.arr (.slice AL p.m x) 228 2 a.basic.length ((cM a A).map bE).flatten,.arr e 3 1 a.others.length ((a.others).map aT).flatten,.arr l 32 1 a.others.length ((a.worth.f).map aQ).flatten]++(List.range a.basic.length).map (stE a A 0 0 0)) (by rw[bd 0 0,Q2];rfl) ?_;refine G.loop (fun fr C' z U=>∃ (k:Nat)(t:Lp.Tab)(wF:Nat->Value),(k<=p.n/\Lp.Inv p M t/\Lp.Rel p.n t k)/\fr=[(0,[],.pointer (some ⟨b,0,none⟩)),(10,[],.slice Ac p.n c2),(11,[],.int .i64 p.n),(12,[],.int .i64 k)]/\z=[.obj b (.cells ⟨[.int .i64 p.n,(.slice w p.m y),(.slice AL p.m x),e,af (qtx t.worth.c),l]⟩ 231 (0,0)),.arr (.slice w p.m y) 3 1 t.basic.length ((t.basic).map aT).flatten,.arr (.slice AL p.m x) 228 2 t.basic.length ((cM t wF).map bE).flatten,.arr e 3 1 t.others.length ((t.others).map aT).flatten,.arr l 32 1 t.others.length ((t.worth.f).map aQ).flatten]++(List.range t.basic.length).map (stE t wF 0 0 0)/\U=p.n-k) (hn_ [0,10,11,12] Z) ⟨0,a,A,⟨QH _,q,fun s hs=>absurd hs (Nat.not_lt_zero _)⟩,Z,Z,Z⟩ (fun fr aP aR m _ q=>?_);obtain⟨k,t,wF,⟨hk,q,d⟩,rfl,rfl,rfl⟩:=q;refine Uh 1 [0,10,11,12,13] Z ?_;refine G.cd (fun V=>?_) fun V=>?_
 ·have ao:k<p.n:=by
   have:=PZ V;omega
  have ok:=q.tab.ok;have aA:=q.tab.lb;have aB:t.basic.length<=1000000:=by rw[q.tab.lb];exact hm
  have aC:t.others.length<=1000000:=by rw[q.tab.lo];exact hn
  have hq:∀ i,i<t.basic.length->LineQ 20 (t.line i):=fun i W=>uI q hl W;have J:k<t.others.length:=by rw[q.tab.lo];exact ao
  refine Ui 1 Z fun R d=>?_;refine Uy an.m_ U10 om_ (show(a.others.map aT)[k]?=some (aT k) from uC (by rw[ho,Rc ao])) fl_ (fun aS aD=>?_);refine Uj aD U8 ?_;refine UB U5 (fun b2=>?_);refine Us (j:=0) U12 ?_;refine C6 1 [0,2,3,10,11,12] d Z ?_;clear d R;refine G.freeze 0 Z (fun _ _ X=>?_);refine UI [(5,3)] Z (fun R d=>?_);refine Um 3 Z ?_;refine Uo ag U9 ?_;refine Uk U6 ?_;refine D.call (Nv ok (Mem.get X mup) J) Z (.inr dc_) U6 (show List.Perm _ (((fg b p.n t (.slice w p.m y) (.slice AL p.m x) e l wF).map Lent.ent)++[]) from List.Perm.of_eq (by rw[Q2,bd 0 0] <;> rfl)) fl_ (fun aU _ aV _ aE=>?_);refine C6 1 [0,2,3,4,10,11,12] d Z ?_;clear d R;obtain⟨⟨o0,rfl,aF⟩,rfl⟩:=aE;refine Uz (L':=[.obj b (.cells ⟨[.int .i64 p.n,(.slice w p.m y),(.slice AL p.m x),e,af (qtx t.worth.c),l]⟩ 231 (0,0)),.arr (.slice w p.m y) 3 1 t.basic.length ((t.basic).map aT).flatten,.arr (.slice AL p.m x) 228 2 t.basic.length ((cM t wF).map bE).flatten,.arr e 3 1 t.others.length ((t.others).map aT).flatten,.arr l 32 1 t.others.length ((t.worth.f).map aQ).flatten]++(List.range t.basic.length).map (stE t wF 0 0 0)) (by rw[Q2,bd 0 0]) ?_;refine G.loop (fun fr C' z U=>∃ (o:Int),(Qw p t k o)/\fr=[(0,[],.pointer (some ⟨b,0,none⟩)),(2,[],.pointer (some ⟨b2,0,none⟩)),(3,[],.int .i64 k),(4,[],.int .i64 o),(10,[],.slice Ac p.n c2),(11,[],.int .i64 p.n),(12,[],.int .i64 k)]/\z=[.obj b (.cells ⟨[.int .i64 p.n,(.slice w p.m y),(.slice AL p.m x),e,af (qtx t.worth.c),l]⟩ 231 (0,0)),.arr (.slice w p.m y) 3 1 t.basic.length ((t.basic).map aT).flatten,.arr (.slice AL p.m x) 228 2 t.basic.length ((cM t wF).map bE).flatten,.arr e 3 1 t.others.length ((t.others).map aT).flatten,.arr l 32 1 t.others.length ((t.worth.f).map aQ).flatten]++(List.range t.basic.length).map (stE t wF 0 0 0)/\U=t.basic.length-o.toNat) (hn_ [0,2,3,4,10,11,12] Z) ⟨o0,Dl aF,Z,Z,Z⟩ (fun fr aW aX m _ q=>?_);obtain⟨o,K,rfl,rfl,rfl⟩:=q;refine Ui 7 Z fun R d=>?_;refine Uo ag U9 ?_;refine Uk U6 ?_;refine WB (w.getD ⟨0,0,none⟩).block (o.toNat*1) Z Z Z Z Z Z Z Z Z Z (fun Y=>by
   have h:decide (o ≥ 0)=true:=Y.1;have h2:=PZ h;obtain⟨r,L,B,_⟩:=K.resolve_left om_;exact⟨S om_,by omega,by omega,Z⟩) Z Z ?_
  refine Ww (v:=.int .i64 (t.bas o.toNat)) ae Z Z Z Z Z Z (fun Y=>by
   have h:decide (o ≥ 0)=true:=Y.1;have h2:=PZ h;obtain⟨r,L,B,_⟩:=K.resolve_left om_;refine⟨S om_, ?_⟩;rw[eg ek (show t.basic[o.toNat]?=some (t.bas o.toNat) from zi om_)];rfl) rfl rfl ?_
  refine VT ag (fun _=>pf _ b p.n (t.bas o.toNat) _) U9 ?_;refine Uk U6 ?_;refine UJ U8 ?_;refine Un [0,2,3,4,10,11,12,36] d Z ?_;clear d R;refine G.cd (fun aa=>?_) fun aa=>?_
  ·have Q:o ≥ 0/\¬ p.n<=t.bas o.toNat:=by simpa using aa
   obtain⟨aY,ab⟩:=Q;obtain⟨r,L,B,ac,ad⟩:=K.resolve_left om_;subst L;rw[Sx]at ab;refine UI [(8,3)] Z (fun R d=>?_);refine Um 3 Z ?_;refine Uo ag U9 ?_;refine Uk U6 ?_;refine Uq _ Z U6 ?_;refine Vg (r+1) p.m x U12 (fun _=>⟨.inr ⟨_,Z⟩,.inl ⟨Z,Z⟩,.inl ⟨Z,Z⟩,by omega,T,Qz _⟩) U2 ?_;refine Uk U6 ?_;refine D.call (Nu aA ok (Mem.get X mup) J B T) Z (.inr dc_) U6 (show List.Perm _ (((fg b p.n t (.slice w p.m y) (.slice AL p.m x) e l wF).map Lent.ent)++[]) from List.Perm.of_eq (by rw[Q2,bd 0 0] <;> rfl)) fl_ (fun aZ _ a0 _ aG=>?_);refine C6 1 [0,2,3,4,5,10,11,12] d Z ?_;clear d R;obtain⟨⟨o2,rfl,ap⟩,rfl⟩:=aG;refine Uz (L':=[.obj b (.cells ⟨[.int .i64 p.n,(.slice w p.m y),(.slice AL p.m x),e,af (qtx t.worth.c),l]⟩ 231 (0,0)),.arr (.slice w p.m y) 3 1 t.basic.length ((t.basic).map aT).flatten,.arr (.slice AL p.m x) 228 2 t.basic.length ((cM t wF).map bE).flatten,.arr e 3 1 t.others.length ((t.others).map aT).flatten,.arr l 32 1 t.others.length ((t.worth.f).map aQ).flatten]++(List.range t.basic.length).map (stE t wF 0 0 0)) (by rw[Q2,bd 0 0]) ?_;refine Uh 2 [0,2,3,4,5,10,11,12,47] Z ?_;refine G.cd (fun ah=>?_) fun ah=>?_
   ·have ai:o2<0:=PZ ah;have hz:∀ i,i<t.basic.length->p.n<=t.bas i->(t.line i).g k=0:=fun i W E=>by
     rcases Nat.lt_trichotomy i r with h1|h1|h1
     ·exact ad i h1 E
     ·rw[h1]at E;exact absurd E ab
     have:=zD ap ai (i-(r+1)) om_;rw[show r+1+(i-(r+1))=i by omega]at this;exact Decidable.not_not.1 this
    refine Uh 1 [0,2,3,4,10,11,12] Z ?_;refine Ui 5 Z fun R d=>?_;refine VT ag (fun _=>pf _ b p.n k _) U9 ?_;refine Uk U6 ?_;refine UJ U8 ?_;refine Un [0,2,4,10,11,12,59] d Z ?_;clear d R;refine G.cd (fun aq=>?_) fun aq=>?_
    ·exact absurd aq al
    refine Ul fun R d=>?_;refine Uq _ Z U6 ?_;refine C6 1 [0,10,11,12] d Z ?_;clear d R;refine Uw (m':=p.n-(k+1)) om_ mup (hn_ [0,10,11,12] Z) ⟨k+1,t,wF,⟨by omega,q,Lp.rel_none d hz⟩,Z,Z,Z⟩
   have ai:¬ o2<0:=QF ah;obtain⟨F,rfl,a1,aH,aI⟩:=zC ap ai;have aJ:Qw p t k ((r+(1+F):Nat):Int):=.inr ⟨r+(1+F),rfl,by omega,by rw[show r+(1+F)=r+1+F by omega];exact aH,fun i W E=>by
    rcases Nat.lt_trichotomy i r with h1|h1|h1
    ·exact ad i h1 E
    ·rw[h1]at E;exact absurd E ab
    have:=aI (i-(r+1)) om_;rw[show r+1+(i-(r+1))=i by omega]at this;exact Decidable.not_not.1 this⟩
   refine Ui 2 Z fun R d=>?_;refine Uq _ Z U6 ?_;refine Uq _ Z U6 ?_;refine C6 1 [0,2,3,4,10,11,12] d Z ?_;clear d R;refine Uw (m':=t.basic.length-((r+(1+F):Nat):Int).toNat) om_ mup (hn_ [0,2,3,4,10,11,12] Z) ⟨((r+(1+F):Nat):Int),aJ,Z,Z,Z⟩
  have Q:¬ (o ≥ 0/\¬ p.n<=t.bas o.toNat):=by simpa using aa
  refine Ui 5 Z fun R d=>?_;refine VT ag (fun _=>pf _ b p.n k _) U9 ?_;refine Uk U6 ?_;refine UJ U8 ?_;refine Un [0,2,4,10,11,12,59] d Z ?_;clear d R;refine G.cd (fun aj=>?_) fun aj=>?_
  ·have H:0<=o:=by
    have H:(decide (0<=o) && !decide (p.n<=k))=true:=aj;simp only[QR,QK]at H;exact H.1
   obtain⟨r,L,B,ac,ad⟩:=K.resolve_left om_;subst L;rw[Sx]at Q;have aK:p.n<=t.bas r:=by
    apply Decidable.byContradiction;intro h;exact Q ⟨by omega,h⟩
   refine UI [(3,3)] Z (fun R d=>?_);refine Um 2 Z ?_;refine Uj (bkT X 1) U8 ?_;refine D.call (ux _ hT.m_ b p.n r k (p.n+p.m) t (.slice w p.m y) (.slice AL p.m x) e l wF ok aB aC B J ac hq (oN q hl)) Z (.inr dc_) U6 (show List.Perm _ (((fg b p.n t (.slice w p.m y) (.slice AL p.m x) e l wF).map Lent.ent)++[]) from List.Perm.of_eq (by rw[Q2,bd 0 0] <;> rfl)) fl_ (fun a2 _ a3 _ aL=>?_);refine Un [0,10,11,12] d Z ?_;clear d R;refine Ul fun R d=>?_;refine Uq _ Z U6 ?_;refine C6 1 [0,10,11,12] d Z ?_;clear d R;obtain⟨-,ak,rfl⟩:=aL;refine Uz (L':=[.obj b (.cells ⟨[.int .i64 p.n,(.slice w p.m y),(.slice AL p.m x),e,af (qtx (t.pivot r k).worth.c),l]⟩ 231 (0,0)),.arr (.slice w p.m y) 3 1 (t.pivot r k).basic.length (((t.pivot r k).basic).map aT).flatten,.arr (.slice AL p.m x) 228 2 (t.pivot r k).basic.length ((cM (t.pivot r k) ak).map bE).flatten,.arr e 3 1 (t.pivot r k).others.length (((t.pivot r k).others).map aT).flatten,.arr l 32 1 (t.pivot r k).others.length (((t.pivot r k).worth.f).map aQ).flatten]++(List.range (t.pivot r k).basic.length).map (stE (t.pivot r k) ak 0 0 0)) (by rw[Q2,bd 0 0]) ?_;refine Uw (m':=p.n-(k+1)) om_ mup (hn_ [0,10,11,12] Z) ⟨k+1,t.pivot r k,ak,⟨by omega,q.pivot B J ac,Lp.rel_next ok d B J aK⟩,Z,Z,Z⟩
  have H:¬ 0<=o:=by
   have H:(decide (0<=o) && !decide (p.n<=k))=false:=aj;have am:¬ p.n<=k:=by omega
   simpa [am] using H
  have hz:∀ i,i<t.basic.length->p.n<=t.bas i->(t.line i).g k=0:=by
   rcases K with⟨_,h2⟩|⟨r,h1,_⟩
   ·exact h2
   omega
  refine Ul fun R d=>?_;refine Uq _ Z U6 ?_;refine C6 1 [0,10,11,12] d Z ?_;clear d R;refine Uw (m':=p.n-(k+1)) om_ mup (hn_ [0,10,11,12] Z) ⟨k+1,t,wF,⟨by omega,q,Lp.rel_none d hz⟩,Z,Z,Z⟩
 have am:k=p.n:=by
  have:=QF V;omega
 refine Vv Z ?_;exact⟨Z,t,wF,q,by rw[am]at d;exact d,by rw[bd 0 0]⟩
theorem HS (C:Mem)(v:Value)(l:List Rat)(b:Sl C 1 v (l.map aQ))(t:l.length<=1000000):Jog.Fn cx.P 50 [v] C [] fun u _w e=>∃ A n c,u=.slice A n c/\e=[.arr (.slice A n c) 32 1 l.length (l.map aQ).flatten]:=by
 obtain⟨f,c0,rfl,m,x,y,o⟩:=id b;have z:maxLen<=9223372036854775807:=by simp[maxLen]
 simp only[ar]at b m⊢;refine Ur func50 8 U3 fun w0=>Uh 1 [0] Z<|Ui 1 Z fun R d=>VH U9<|Un [0,4] d Z<|G.cd (fun h4=>?_) fun h4=>?_
 ·have p:f=none:=by
   cases f with
  |none=>rfl
  |some a=>cases h4
  have s:l=[]:=by
   cases l with
  |nil=>rfl
  |cons q r =>
    obtain⟨a,g,_⟩:=o 0 (aQ q) rfl;rw[p]at g;cases g
  refine Uh 1 [2] Z<|G.nilArr 32 1<|Uv (UV Z Z ?_);exact⟨none,0,0,Z,by rw[s];rfl⟩
 refine Ul fun R d=>Vq [] U12 fl_ fun B=>Uk U6<|UP (j:=0) U11 b.m_ (by simp[aQ,lQ,af]) (by simp only[ar,Re,maxLen];omega) (by simp only[ar,Re];omega) fl_ fun h i k=>C6 1 [2] d Z<|Uz (L':=[.arr (.slice h i k) 32 1 l.length (l.map aQ).flatten]) al<|Uv (UV Z Z ?_);exact⟨h,i,k,Z,Z⟩
def ci (n:Nat)(rs:List (List Rat × Rat)):Lp.Sys:=⟨n,rs.length,fun r j=>(rs.getD r ([],0)).1.getD j 0,fun r=>(rs.getD r ([],0)).2⟩
abbrev sA (A:Option Addr)(n c:Nat):Value:=.slice A n c
abbrev sB (A:Option Addr)(n c:Nat):Value:=.slice A n c
abbrev sO (A:Option Addr)(n c:Nat):Value:=.slice A n c
abbrev sW (A:Option Addr)(n c:Nat):Value:=.slice A n c
abbrev sF (A:Option Addr)(n c:Nat):Value:=.slice A n c
def lbF (n i:Nat):List Nat:=(List.range i).map fun q=>n+q
def lvF (rs:List (List Rat × Rat))(wF:Nat->Value)(i:Nat):List (Rat × Value):=(List.range i).map fun q=>((rs.getD q ([],0)).2,wF q)
def opE (n:Nat)(rs:List (List Rat × Rat))(wF:Nat->Value)(q:Nat):Ent:=.arr (wF q) 32 1 n (((List.range n).map fun j=>-(rs.getD q ([],0)).1.getD j 0).map aQ).flatten
def IJ (wF:Nat->Value)(i:Nat)(w:Value):Nat->Value:=fun q=>if q=i then w else wF q
theorem E4 :IJ wF i w i=w:=aJ rfl
theorem E3 {q:Nat}(h:q≠i):IJ wF i w q=wF q:=aF h
theorem J3 :lbF n (i+1)=lbF n i++[n+i]:=by unfold lbF;rw[RW,Rh];rfl
theorem JW {r:List Rat × Rat}(h:rs.getD i ([],0)=r):lvF rs (IJ wF i w) (i+1)=lvF rs wF i++[(r.2,w)]:=by
 unfold lvF;rw[RW,Rh,List.map_singleton,h,E4];congr 1;refine List.map_congr_left fun q a=>?_;rw[E3 (by have:=QU.1 a;omega)]
theorem JL {r:List Rat × Rat}(h:rs.getD i ([],0)=r):(List.range (i+1)).map (opE n rs (IJ wF i w))=(List.range i).map (opE n rs wF)++[.arr w 32 1 n (((List.range n).map fun j=>-r.1.getD j 0).map aQ).flatten]:=by
 rw[RW,Rh,List.map_singleton];congr 1
 ·refine List.map_congr_left fun q a=>?_;unfold opE;rw[E3 (by have:=QU.1 a;omega)]
 unfold opE;rw[h,E4]
theorem DE {l:List Rat}(h:l.length=n):(List.range n).map (fun j=>l.getD j 0)=l:=by
 refine List.ext_getElem? fun j=>?_;rw[QD];by_cases a:j<n
 ·rw[Rc a,aj om_];show some (l.getD j 0)=_;rw[am,aj om_];rfl
 rw[QJ (show(List.range n).length<=j by simp;omega),QJ om_];rfl
theorem Gk (g:ob.length=n) :
  (fg b n (Lp.openT (ci n rs) fun j=>ob.getD j 0) wB wL wO wW wF).map Lent.ent=[.obj b (.cells ⟨[.int .i64 n,wB,wL,wO,af [48],wW]⟩ 231 (0,0)),.arr wB 3 1 rs.length ((lbF n rs.length).map aT).flatten,.arr wL 228 2 rs.length ((lvF rs wF rs.length).map bE).flatten,.arr wO 3 1 n ((List.range n).map aT).flatten,.arr wW 32 1 n (ob.map aQ).flatten]++(List.range rs.length).map (opE n rs wF):=by
 have d:(Lp.openT (ci n rs) fun j=>ob.getD j 0).basic.length=rs.length:=Lp.openT_lb;have e:(Lp.openT (ci n rs) fun j=>ob.getD j 0).others.length=n:=Lp.openT_lo;have h1:cM (Lp.openT (ci n rs) fun j=>ob.getD j 0) wF=lvF rs wF rs.length:=by
  unfold cM lvF;rw[d];refine List.map_congr_left fun q a=>?_;rw[Lp.openT_line (p:=ci n rs) (QU.1 a)];rfl
 have h2:(List.range rs.length).map (Lent.ent ∘ Lg (Lp.openT (ci n rs) fun j=>ob.getD j 0) wF)=(List.range rs.length).map (opE n rs wF):=by
  refine List.map_congr_left fun q a=>?_;show Ent.arr _ _ 1 _ _=_;rw[Lp.openT_line (p:=ci n rs) (QU.1 a),e];rfl
 have h3:(Lp.openT (ci n rs) fun j=>ob.getD j 0).worth.f=ob:=DE g;have h4:(Lp.openT (ci n rs) fun j=>ob.getD j 0).worth.c=0:=rfl;unfold fg;rw[h1,h3,h4,d,e,MV];simp only[Ri,RC,h2];rfl
def DM (n:Nat)(rs:List (List Rat × Rat))(ob:List Rat)(b17:Nat)(Aw:Option Addr)(nw cw:Nat)(A1:Option Addr)(n1 c1:Nat)(i:Nat)(wF:Nat->Value)(r:List Rat × Rat)(A4:Option Addr)(n4 c4:Nat)(A71:Option Addr)(n71 c71:Nat)(A78:Option Addr)(n78 c78:Nat):List Ent:=[.arr (sA A71 n71 c71) 3 1 (i+1) (((lbF n i).map aT).flatten++[[.int .i64 ((n:Int)+(i:Int))]].flatten),.arr (sB A78 n78 c78) 228 2 (i+1) (((lvF rs wF i).map bE).flatten++[[af (qtx r.2),.slice A4 n4 c4]].flatten),.obj b17 (.cells ⟨[.int .i64 n,.slice A71 n71 c71,.slice A78 n78 c78,.slice A1 n1 c1,af [48],.slice Aw nw cw]⟩ 231 (0,0)),.arr (sO A1 n1 c1) 3 1 n (((List.range n)).map aT).flatten,.arr (sW Aw nw cw) 32 1 n (ob.map aQ).flatten,.arr (sF A4 n4 c4) 32 1 n (((List.range n).map fun q=>-r.1.getD q 0).map aQ).flatten]++(List.range i).map (opE n rs wF)
def opX1 (n:Nat)(rs:List (List Rat × Rat))(ob:List Rat)(b17:Nat)(Aw:Option Addr)(nw cw:Nat)(A1:Option Addr)(n1 c1:Nat)(i:Nat)(wF:Nat->Value)(A4:Option Addr)(n4 c4:Nat)(A71:Option Addr)(n71 c71:Nat)(A78:Option Addr)(n78 c78:Nat):List Ent:=[.arr (sA A71 n71 c71) 3 1 (i+1) ((lbF n (i+1)).map aT).flatten,.arr (sB A78 n78 c78) 228 2 (i+1) ((lvF rs (IJ wF i (.slice A4 n4 c4)) (i+1)).map bE).flatten,.obj b17 (.cells ⟨[.int .i64 n,.slice A71 n71 c71,.slice A78 n78 c78,.slice A1 n1 c1,af [48],.slice Aw nw cw]⟩ 231 (0,0)),.arr (sO A1 n1 c1) 3 1 n (((List.range n)).map aT).flatten,.arr (sW Aw nw cw) 32 1 n (ob.map aQ).flatten]++(List.range (i+1)).map (opE n rs (IJ wF i (.slice A4 n4 c4)))
theorem dI {a:Nat}{b:Option Addr}{c d:Nat}{e:Option Addr}{f g:Nat}{r:List Rat × Rat}{h:Option Addr}{j k:Nat}{l:Option Addr}{m o:Nat}{p:Option Addr}{q s:Nat}(t:rs.getD i ([],0)=r):(DM n rs ob a b c d e f g i wF r h j k l m o p q s).Perm (opX1 n rs ob a b c d e f g i wF h j k l m o p q s):=by
 unfold DM opX1;rw[J3,JW t,JL t];simp only[Rh,Ro];exact List.Perm.append_left [_,_,_,_,_] (List.perm_append_singleton _ _).symm
theorem JC (C:Mem)(_aO:Tabs C)(n:Nat)(rv ov:Value)(c:List (List Rat × Rat))(z:List Rat)(hr:RowsT C rv (c.map fW))(ho:Sl C 1 ov (z.map aQ))(hq:RowsQ n c)(hn:n<=1000)(av:z.length=n) :
  Jog.Fn cx.P 136 [.agg ⟨[.int .i64 n,rv,ov]⟩] C [] fun u _aP x=>∃ b wB wL wO wW wF,u=.pointer (some ⟨b,0,none⟩)/\x=(fg b n (Lp.openT (ci n c) fun j=>z.getD j 0) wB wL wO wW wF).map Lent.ent:=by
 obtain⟨vs,aw,aC,V⟩:=hr;obtain⟨Ar,cr,rfl,ay,aR,_⟩:=id V;have hm:=hq.m;have aS:maxLen<=9223372036854775807:=by simp[maxLen]
 rw[tL aw]at V ay⊢;simp only[ar]at V ay aw⊢;refine Ur func136 85 U3 fun w0=>?_;refine Ul fun R a=>?_;refine UC U6 (fun W=>?_);refine C6 1 [1] a Z ?_;clear a R;refine G.freeze 0 Z (fun _ _ U=>?_);refine UD [0,1,2,3,4,5,6,7,8] [(4,3),(1,0)] Z kr_ (fun R I a=>?_);refine Uk U6 ?_;refine Vr (fun _=>((PtrTo.blockT U _ 1).mono I)) U9 ?_;refine Uk U6 ?_;refine Uj (bkT U 1) U8 ?_;refine D.call (HS _ ov z ho.m_ om_) Z (.inr dc_) U6 (QI _) fl_ (fun aU _ aV _ aD=>?_);obtain⟨d,e,f,rfl,rfl⟩:=aD;refine UA [af [48],.slice d e f] U8 ?_;refine UA [.int .i64 n,.slice none 0 0,.slice none 0 0,.slice none 0 0,af [48],.slice d e f] U8 ?_;refine UC U6 (fun y=>?_);refine Uk U6 ?_;refine Un [1,3] a Z ?_;clear a I R;refine Ui 1 Z fun R a=>?_;refine Uj (bkT U 1) U8 ?_;refine C6 1 [1,3,19,20] a Z ?_;clear a R;refine G.nilArr 3 1 ?_;refine Uz (L':=[.arr (sO none 0 0) 3 1 0 (((List.range 0)).map aT).flatten,.obj y (.cells ⟨[.int .i64 n,.slice none 0 0,.slice none 0 0,.slice none 0 0,af [48],.slice d e f]⟩ 231 (0,0)),.arr (sW d e f) 32 1 n (z.map aQ).flatten]) (by rw[av];rfl) ?_;refine G.loop (fun fr C' x O=>∃ (i:Nat)(t:Option Addr)(n1 v:Nat),(i<=n)/\fr=[(1,[],.pointer (some ⟨W,0,none⟩)),(3,[],.pointer (some ⟨y,0,none⟩)),(19,[],.int .i64 n),(20,[],.int .i64 i)]/\x=[.arr (sO t n1 v) 3 1 i (((List.range i)).map aT).flatten,.obj y (.cells ⟨[.int .i64 n,.slice none 0 0,.slice none 0 0,.slice t n1 v,af [48],.slice d e f]⟩ 231 (0,0)),.arr (sW d e f) 32 1 n (z.map aQ).flatten]/\O=n-i) (hn_ [1,3,19,20] Z) ⟨0,none,0,0,QH _,Z,Z,Z⟩ (fun fr aW aY m _ Q=>?_);obtain⟨i,t,n1,v,hi,rfl,rfl,rfl⟩:=Q;refine Uh 1 [1,3,19,20,21] Z ?_;refine G.cd (fun ad=>?_) fun ad=>?_
 ·have az:i<n:=by
   have:=PZ ad;omega
  refine Uh 2 [1,3,4,19,20] Z ?_;refine Ui 4 Z fun R a=>?_;refine Uo ae U9 ?_;refine Uk U6 ?_;refine UF [[.int .i64 i]] U12 (fun aZ _ _ aE=>?_);refine UP (j:=0) U11 aE Z ax (by show(i+1)*8<=_;omega) fl_ (fun ag ah ai=>?_);refine Um 2 Z ?_;refine Us (j:=1) U12 ?_;refine Un [1,3,19,20] a Z ?_;clear a R;refine Ul fun R a=>?_;refine Uq _ Z U6 ?_;refine C6 1 [1,3,19,20] a Z ?_;clear a R;refine G.perm (L':=[.arr (sO ag ah ai) 3 1 (i+1) (((List.range (i+1))).map aT).flatten,.obj y (.cells ⟨[.int .i64 n,.slice none 0 0,.slice none 0 0,.slice ag ah ai,af [48],.slice d e f]⟩ 231 (0,0)),.arr (sW d e f) 32 1 n (z.map aQ).flatten]) (by rw[RW,Rh,Ro];exact List.Perm.swap _ _ _) ?_;refine Uw (m':=n-(i+1)) om_ mup (hn_ [1,3,19,20] Z) ⟨i+1,ag,ah,ai,om_,Z,Z,Z⟩
 have ak:i=n:=by
  have:=QF ad;omega
 rw[ak];refine Ui 1 Z fun R a=>?_;refine Uj (bkT U 1) U8 ?_;refine C6 2 [1,3,35,36,37] a Z ?_;clear a R;refine G.nilArr 228 2 ?_;refine G.nilArr 3 1 ?_;refine G.perm (L':=[.arr (sA none 0 0) 3 1 0 ((lbF n 0).map aT).flatten,.arr (sB none 0 0) 228 2 0 ((lvF c (fun _=>.slice none 0 0) 0).map bE).flatten,.obj y (.cells ⟨[.int .i64 n,.slice none 0 0,.slice none 0 0,.slice t n1 v,af [48],.slice d e f]⟩ 231 (0,0)),.arr (sO t n1 v) 3 1 n (((List.range n)).map aT).flatten,.arr (sW d e f) 32 1 n (z.map aQ).flatten]++(List.range 0).map (opE n c (fun _=>.slice none 0 0))) (by
  show List.Perm ([_,_,_,_,_]++[]) _
  (exact pkL [0,0,1,0,0] rfl)) ?_
 refine G.loop (fun fr C' x O=>∃ (i:Nat)(A2:Option Addr)(n2 c2:Nat)(K:Option Addr)(L M:Nat)(wF:Nat->Value),(i<=c.length)/\fr=[(1,[],.pointer (some ⟨W,0,none⟩)),(3,[],.pointer (some ⟨y,0,none⟩)),(35,[],.slice Ar c.length cr),(36,[],.int .i64 c.length),(37,[],.int .i64 i)]/\x=[.arr (sA A2 n2 c2) 3 1 i ((lbF n i).map aT).flatten,.arr (sB K L M) 228 2 i ((lvF c wF i).map bE).flatten,.obj y (.cells ⟨[.int .i64 n,.slice A2 n2 c2,.slice K L M,.slice t n1 v,af [48],.slice d e f]⟩ 231 (0,0)),.arr (sO t n1 v) 3 1 n (((List.range n)).map aT).flatten,.arr (sW d e f) 32 1 n (z.map aQ).flatten]++(List.range i).map (opE n c wF)/\O=c.length-i) (hn_ [1,3,35,36,37] Z) ⟨0,none,0,0,none,0,0,fun _=>.slice none 0 0,QH _,Z,Z,Z⟩ (fun fr a0 a1 m _ Q=>?_);obtain⟨i,A2,n2,c2,K,L,M,wF,hi,rfl,rfl,rfl⟩:=Q;refine Uh 1 [1,3,35,36,37,38] Z ?_;refine G.cd (fun al=>?_) fun al=>?_
 ·have az:i<c.length:=by
   have:=PZ al;omega
  obtain⟨r,X⟩:∃ r,c[i]?=some r:=⟨c[i],aj az⟩;have N:c.getD i ([],0)=r:=by rw[am,X];rfl
  have a2:r.1.length=n:=hq.l r (aX X);obtain⟨aF,a3⟩:=hq.q r (aX X);obtain⟨w,hw⟩:∃ w,vs[i]?=some w:=⟨vs[i]'om_,aj om_⟩;have aA:(c.map fW)[i]?=some (fW r):=by rw[QD,X];rfl
  have hx:=aC i w (fW r) hw aA;have an:Sl C 1 w (r.1.map aQ):=by rw[xV];exact hx
  obtain⟨Ax,aG,rfl,aH,a4,_⟩:=id an;simp only[ar]at an aH hw;refine Ui 1 Z fun R a=>?_;refine Uy V.m_ U10 om_ (EQ hw aA) fl_ (fun a5 aI=>?_);refine Uj aI U8 ?_;refine UB U5 (fun b6=>?_);refine Uk U6 ?_;refine Us (j:=0) U12 ?_;refine Un [1,3,5,6,35,36,37] a Z ?_;clear a R;refine G.freeze 0 Z (fun _ _ aB=>?_);refine Ui 1 Z fun R a=>?_;refine Uj (bkT aB 1) U8 ?_;refine UA [af (qtx r.2),.slice none 0 0] U8 ?_;refine UB U5 (fun Y=>?_);refine Us (j:=0) U12 ?_;refine Un [1,3,5,6,7,35,36,37] a Z ?_;clear a R;refine Ui 1 Z fun R a=>?_;refine Uj (bkT aB 1) U8 ?_;refine C6 2 [1,3,5,7,35,36,37,46,47,48] a Z ?_;clear a R;refine G.nilArr 32 1 ?_;refine Uz (L':=[.arr (sF none 0 0) 32 1 0 (((List.range 0).map fun q=>-r.1.getD q 0).map aQ).flatten,.obj Y (.cells ⟨[af (qtx r.2),.slice none 0 0]⟩ 228 (0,0)),.arr (sA A2 n2 c2) 3 1 i ((lbF n i).map aT).flatten,.arr (sB K L M) 228 2 i ((lvF c wF i).map bE).flatten,.obj y (.cells ⟨[.int .i64 n,.slice A2 n2 c2,.slice K L M,.slice t n1 v,af [48],.slice d e f]⟩ 231 (0,0)),.arr (sO t n1 v) 3 1 n (((List.range n)).map aT).flatten,.arr (sW d e f) 32 1 n (z.map aQ).flatten]++(List.range i).map (opE n c wF)) Z ?_;refine G.loop (fun fr C' x O=>∃ (j:Nat)(A:Option Addr)(B E:Nat),(j<=n)/\fr=[(1,[],.pointer (some ⟨W,0,none⟩)),(3,[],.pointer (some ⟨y,0,none⟩)),(5,[],.int .i64 i),(7,[],.pointer (some ⟨Y,0,none⟩)),(35,[],.slice Ar c.length cr),(36,[],.int .i64 c.length),(37,[],.int .i64 i),(46,[],.slice Ax r.1.length aG),(47,[],.int .i64 r.1.length),(48,[],.int .i64 j)]/\x=[.arr (sF A B E) 32 1 j (((List.range j).map fun q=>-r.1.getD q 0).map aQ).flatten,.obj Y (.cells ⟨[af (qtx r.2),.slice A B E]⟩ 228 (0,0)),.arr (sA A2 n2 c2) 3 1 i ((lbF n i).map aT).flatten,.arr (sB K L M) 228 2 i ((lvF c wF i).map bE).flatten,.obj y (.cells ⟨[.int .i64 n,.slice A2 n2 c2,.slice K L M,.slice t n1 v,af [48],.slice d e f]⟩ 231 (0,0)),.arr (sO t n1 v) 3 1 n (((List.range n)).map aT).flatten,.arr (sW d e f) 32 1 n (z.map aQ).flatten]++(List.range i).map (opE n c wF)/\O=n-j) (hn_ [1,3,5,7,35,36,37,46,47,48] Z) ⟨0,none,0,0,QH _,Z,Z,Z⟩ (fun fr a6 a7 m _ Q=>?_);obtain⟨j,A,B,E,hj,rfl,rfl,rfl⟩:=Q;refine Uh 1 [1,3,5,7,35,36,37,46,47,48,49] Z ?_;refine G.cd (fun ao=>?_) fun ao=>?_
  ·have a8:j<n:=by
    have:=PZ ao;omega
   have aJ:QB 23 (r.1.getD j 0):=Pq aF;refine Ul fun R a=>?_;refine Uy an.m_ U10 om_ (dO om_) fl_ (fun a9 aK=>?_);refine Uj aK U8 ?_;refine C6 1 [1,3,5,7,9,35,36,37,46,47,48] a Z ?_;clear a R;refine UD [0,1,2,3,4,5,6,7] [(3,1)] Z kr_ (fun R I a=>?_);refine Uk U6 ?_;refine Uo ae U9 ?_;refine Uk U6 ?_;refine UG (fun _=>(eK _ (r.1.getD j 0) (QW (bg aJ dc_) dc_))) U9 ?_;refine UF [[af (qtx (-(r.1.getD j 0)))]] U12 (fun ba _ _ aL=>?_);refine UP (j:=0) U11 aL Z ax (by show(j+1)*16<=_;omega) fl_ (fun ap aq au=>?_);refine Uk U6 ?_;refine Us (j:=1) U12 ?_;refine Un [1,3,5,7,35,36,37,46,47,48] a Z ?_;clear a I R;refine Ul fun R a=>?_;refine Uq _ Z U6 ?_;refine C6 1 [1,3,5,7,35,36,37,46,47,48] a Z ?_;clear a R;refine G.perm (L':=[.arr (sF ap aq au) 32 1 (j+1) (((List.range (j+1)).map fun q=>-r.1.getD q 0).map aQ).flatten,.obj Y (.cells ⟨[af (qtx r.2),.slice ap aq au]⟩ 228 (0,0)),.arr (sA A2 n2 c2) 3 1 i ((lbF n i).map aT).flatten,.arr (sB K L M) 228 2 i ((lvF c wF i).map bE).flatten,.obj y (.cells ⟨[.int .i64 n,.slice A2 n2 c2,.slice K L M,.slice t n1 v,af [48],.slice d e f]⟩ 231 (0,0)),.arr (sO t n1 v) 3 1 n (((List.range n)).map aT).flatten,.arr (sW d e f) 32 1 n (z.map aQ).flatten]++(List.range i).map (opE n c wF)) (by rw[RW,Rh,Rh,Ro];exact List.Perm.swap _ _ _) ?_;refine Uw (m':=n-(j+1)) om_ mup (hn_ [1,3,5,7,35,36,37,46,47,48] Z) ⟨j+1,ap,aq,au,om_,Z,Z,Z⟩
  have aM:j=n:=by
   have:=QF ao;omega
  rw[aM];refine G.freeze 1 Z (fun _ _ aN=>?_);refine Uz (L':=[.arr (sF A B E) 32 1 n (((List.range n).map fun q=>-r.1.getD q 0).map aQ).flatten,.arr (sA A2 n2 c2) 3 1 i ((lbF n i).map aT).flatten,.arr (sB K L M) 228 2 i ((lvF c wF i).map bE).flatten,.obj y (.cells ⟨[.int .i64 n,.slice A2 n2 c2,.slice K L M,.slice t n1 v,af [48],.slice d e f]⟩ 231 (0,0)),.arr (sO t n1 v) 3 1 n (((List.range n)).map aT).flatten,.arr (sW d e f) 32 1 n (z.map aQ).flatten]++(List.range i).map (opE n c wF)) Z ?_;refine G.cut (fun fr C' x O=>∃ (A7:Option Addr)(n7 c7:Nat)(A8:Option Addr)(n8 c8:Nat),(True)/\fr=[(1,[],.pointer (some ⟨W,0,none⟩)),(3,[],.pointer (some ⟨y,0,none⟩)),(35,[],.slice Ar c.length cr),(36,[],.int .i64 c.length),(37,[],.int .i64 i)]/\x=[.arr (sA A7 n7 c7) 3 1 (i+1) ((lbF n (i+1)).map aT).flatten,.arr (sB A8 n8 c8) 228 2 (i+1) ((lvF c (IJ wF i (.slice A B E)) (i+1)).map bE).flatten,.obj y (.cells ⟨[.int .i64 n,.slice A7 n7 c7,.slice A8 n8 c8,.slice t n1 v,af [48],.slice d e f]⟩ 231 (0,0)),.arr (sO t n1 v) 3 1 n (((List.range n)).map aT).flatten,.arr (sW d e f) 32 1 n (z.map aQ).flatten]++(List.range (i+1)).map (opE n c (IJ wF i (.slice A B E)))) ?_ (fun fr bb bc O bd Q=>?_)
  ·refine Vd (.cut [0,1,2,3,4,5,6,7,8,9,12,13,14,16] (.alt 10 (.cut [] (.alt 11 (.fin [15,17,18,19,20,21,22,23,24]) (.alt 15 (.cut [] (.alt 11 (.fin [17,18,19,20,21,22,23,24]) (.alt 17 (.fin [11,18,19,20,21,22,23,24]) .stop))) (.alt 17 (.cut [] (.alt 11 (.fin [15,18,19,20,21,22,23,24]) (.alt 15 (.fin [11,18,19,20,21,22,23,24]) .stop))) .stop)))) (.alt 15 (.cut [] (.alt 10 (.cut [] (.alt 11 (.fin [17,18,19,20,21,22,23,24]) (.alt 17 (.fin [11,18,19,20,21,22,23,24]) .stop))) (.alt 17 (.fin [10,11,18,19,20,21,22,23,24]) .stop))) (.alt 17 (.cut [] (.alt 10 (.cut [] (.alt 11 (.fin [15,18,19,20,21,22,23,24]) (.alt 15 (.fin [11,18,19,20,21,22,23,24]) .stop))) (.alt 15 (.fin [10,11,18,19,20,21,22,23,24]) .stop))) .stop)))) [(16,0)] Z Z kr_ (fun R I a F=>?_);refine Um 5 Z ?_;refine Uo aa U9 ?_;refine Uk U6 ?_;refine Uj (bkT U 1) U8 ?_;refine Uk U6 ?_;refine Uq _ Z U6 ?_;refine Um 3 Z ?_;refine Vr (fun _=>((bkT aN 2).mono I)) U9 ?_;refine UT F Z ⟨?_, ?_, ?_,trivial⟩
   ·refine UF [[.int .i64 ((n:Int)+(i:Int))]] U12 (fun ab ac _ J=>?_);refine UT F Z ⟨?_, ?_, ?_,trivial⟩
    ·refine UP (j:=1) U11 J.m_ Z ax (by show(i+1)*8<=_;omega) fl_ (fun g h k=>?_);refine Uo aa U9 ?_;refine UF [[af (qtx r.2),.slice A B E]] U12 (fun S T _ H=>?_);refine UP (j:=2) U11 H.m_ Z ax (by show(i+1)*40<=_;omega) fl_ (fun o p s=>?_);refine Um 2 Z ?_;refine Us (j:=3) U12 ?_;refine Um 2 Z ?_;refine Us (j:=0) U12 ?_;refine Un [1,3,35,36,37] a Z ?_;clear a I F R;refine G.perm (L':=DM n c z y d e f t n1 v i wF r A B E g h k o p s) (pkL [2,1,0,1,1,0] Z) ?_;refine G.perm _ (dI N) ?_;exact Ux 0 mup (hn_ [1,3,35,36,37] Z) ⟨g,h,k,o,p,s,trivial,Z,Z⟩
    ·refine Uo aa U9 ?_;refine UT F Z ⟨?_, ?_,trivial⟩
     ·refine UP (j:=1) U11 J.m_ Z ax (by show(i+1)*8<=_;omega) fl_ (fun g h k=>?_);refine UF [[af (qtx r.2),.slice A B E]] U12 (fun S T _ H=>?_);refine UP (j:=2) U11 H.m_ Z ax (by show(i+1)*40<=_;omega) fl_ (fun o p s=>?_);refine Um 2 Z ?_;refine Us (j:=3) U12 ?_;refine Um 2 Z ?_;refine Us (j:=0) U12 ?_;refine Un [1,3,35,36,37] a Z ?_;clear a I F R;refine G.perm (L':=DM n c z y d e f t n1 v i wF r A B E g h k o p s) (pkL [2,1,0,1,1,0] Z) ?_;refine G.perm _ (dI N) ?_;exact Ux 0 mup (hn_ [1,3,35,36,37] Z) ⟨g,h,k,o,p,s,trivial,Z,Z⟩
     refine UF [[af (qtx r.2),.slice A B E]] U12 (fun S T _ H=>?_);refine UP (j:=1) U11 J.m_ Z ax (by show(i+1)*8<=_;omega) fl_ (fun g h k=>?_);refine UP (j:=2) U11 H.m_ Z ax (by show(i+1)*40<=_;omega) fl_ (fun o p s=>?_);refine Um 2 Z ?_;refine Us (j:=3) U12 ?_;refine Um 2 Z ?_;refine Us (j:=0) U12 ?_;refine Un [1,3,35,36,37] a Z ?_;clear a I F R;refine G.perm (L':=DM n c z y d e f t n1 v i wF r A B E g h k o p s) (pkL [2,1,0,1,1,0] Z) ?_;refine G.perm _ (dI N) ?_;exact Ux 0 mup (hn_ [1,3,35,36,37] Z) ⟨g,h,k,o,p,s,trivial,Z,Z⟩
    refine UF [[af (qtx r.2),.slice A B E]] U12 (fun S T _ H=>?_);refine UT F Z ⟨?_, ?_,trivial⟩
    ·refine UP (j:=1) U11 J.m_ Z ax (by show(i+1)*8<=_;omega) fl_ (fun g h k=>?_);refine Uo aa U9 ?_;refine UP (j:=2) U11 H.m_ Z ax (by show(i+1)*40<=_;omega) fl_ (fun o p s=>?_);refine Um 2 Z ?_;refine Us (j:=3) U12 ?_;refine Um 2 Z ?_;refine Us (j:=0) U12 ?_;refine Un [1,3,35,36,37] a Z ?_;clear a I F R;refine G.perm (L':=DM n c z y d e f t n1 v i wF r A B E g h k o p s) (pkL [2,1,0,1,1,0] Z) ?_;refine G.perm _ (dI N) ?_;exact Ux 0 mup (hn_ [1,3,35,36,37] Z) ⟨g,h,k,o,p,s,trivial,Z,Z⟩
    refine Uo aa U9 ?_;refine UP (j:=1) U11 J.m_ Z ax (by show(i+1)*8<=_;omega) fl_ (fun g h k=>?_);refine UP (j:=2) U11 H.m_ Z ax (by show(i+1)*40<=_;omega) fl_ (fun o p s=>?_);refine Um 2 Z ?_;refine Us (j:=3) U12 ?_;refine Um 2 Z ?_;refine Us (j:=0) U12 ?_;refine Un [1,3,35,36,37] a Z ?_;clear a I F R;refine G.perm (L':=DM n c z y d e f t n1 v i wF r A B E g h k o p s) (pkL [2,1,0,1,1,0] Z) ?_;refine G.perm _ (dI N) ?_;exact Ux 0 mup (hn_ [1,3,35,36,37] Z) ⟨g,h,k,o,p,s,trivial,Z,Z⟩
   ·refine Uo aa U9 ?_;refine UT F Z ⟨?_, ?_,trivial⟩
    ·refine UF [[.int .i64 ((n:Int)+(i:Int))]] U12 (fun ab ac _ J=>?_);refine UT F Z ⟨?_, ?_,trivial⟩
     ·refine UP (j:=1) U11 J.m_ Z ax (by show(i+1)*8<=_;omega) fl_ (fun g h k=>?_);refine UF [[af (qtx r.2),.slice A B E]] U12 (fun S T _ H=>?_);refine UP (j:=2) U11 H.m_ Z ax (by show(i+1)*40<=_;omega) fl_ (fun o p s=>?_);refine Um 2 Z ?_;refine Us (j:=3) U12 ?_;refine Um 2 Z ?_;refine Us (j:=0) U12 ?_;refine Un [1,3,35,36,37] a Z ?_;clear a I F R;refine G.perm (L':=DM n c z y d e f t n1 v i wF r A B E g h k o p s) (pkL [2,1,0,1,1,0] Z) ?_;refine G.perm _ (dI N) ?_;exact Ux 0 mup (hn_ [1,3,35,36,37] Z) ⟨g,h,k,o,p,s,trivial,Z,Z⟩
     refine UF [[af (qtx r.2),.slice A B E]] U12 (fun S T _ H=>?_);refine UP (j:=1) U11 J.m_ Z ax (by show(i+1)*8<=_;omega) fl_ (fun g h k=>?_);refine UP (j:=2) U11 H.m_ Z ax (by show(i+1)*40<=_;omega) fl_ (fun o p s=>?_);refine Um 2 Z ?_;refine Us (j:=3) U12 ?_;refine Um 2 Z ?_;refine Us (j:=0) U12 ?_;refine Un [1,3,35,36,37] a Z ?_;clear a I F R;refine G.perm (L':=DM n c z y d e f t n1 v i wF r A B E g h k o p s) (pkL [2,1,0,1,1,0] Z) ?_;refine G.perm _ (dI N) ?_;exact Ux 0 mup (hn_ [1,3,35,36,37] Z) ⟨g,h,k,o,p,s,trivial,Z,Z⟩
    refine UF [[af (qtx r.2),.slice A B E]] U12 (fun S T _ H=>?_);refine UF [[.int .i64 ((n:Int)+(i:Int))]] U12 (fun ab ac _ J=>?_);refine UP (j:=1) U11 J.m_ Z ax (by show(i+1)*8<=_;omega) fl_ (fun g h k=>?_);refine UP (j:=2) U11 H.m_ Z ax (by show(i+1)*40<=_;omega) fl_ (fun o p s=>?_);refine Um 2 Z ?_;refine Us (j:=3) U12 ?_;refine Um 2 Z ?_;refine Us (j:=0) U12 ?_;refine Un [1,3,35,36,37] a Z ?_;clear a I F R;refine G.perm (L':=DM n c z y d e f t n1 v i wF r A B E g h k o p s) (pkL [2,1,0,1,1,0] Z) ?_;refine G.perm _ (dI N) ?_;exact Ux 0 mup (hn_ [1,3,35,36,37] Z) ⟨g,h,k,o,p,s,trivial,Z,Z⟩
   refine UF [[af (qtx r.2),.slice A B E]] U12 (fun S T _ H=>?_);refine UT F Z ⟨?_, ?_,trivial⟩
   ·refine UF [[.int .i64 ((n:Int)+(i:Int))]] U12 (fun ab ac _ J=>?_);refine UT F Z ⟨?_, ?_,trivial⟩
    ·refine UP (j:=1) U11 J.m_ Z ax (by show(i+1)*8<=_;omega) fl_ (fun g h k=>?_);refine Uo aa U9 ?_;refine UP (j:=2) U11 H.m_ Z ax (by show(i+1)*40<=_;omega) fl_ (fun o p s=>?_);refine Um 2 Z ?_;refine Us (j:=3) U12 ?_;refine Um 2 Z ?_;refine Us (j:=0) U12 ?_;refine Un [1,3,35,36,37] a Z ?_;clear a I F R;refine G.perm (L':=DM n c z y d e f t n1 v i wF r A B E g h k o p s) (pkL [2,1,0,1,1,0] Z) ?_;refine G.perm _ (dI N) ?_;exact Ux 0 mup (hn_ [1,3,35,36,37] Z) ⟨g,h,k,o,p,s,trivial,Z,Z⟩
    refine Uo aa U9 ?_;refine UP (j:=1) U11 J.m_ Z ax (by show(i+1)*8<=_;omega) fl_ (fun g h k=>?_);refine UP (j:=2) U11 H.m_ Z ax (by show(i+1)*40<=_;omega) fl_ (fun o p s=>?_);refine Um 2 Z ?_;refine Us (j:=3) U12 ?_;refine Um 2 Z ?_;refine Us (j:=0) U12 ?_;refine Un [1,3,35,36,37] a Z ?_;clear a I F R;refine G.perm (L':=DM n c z y d e f t n1 v i wF r A B E g h k o p s) (pkL [2,1,0,1,1,0] Z) ?_;refine G.perm _ (dI N) ?_;exact Ux 0 mup (hn_ [1,3,35,36,37] Z) ⟨g,h,k,o,p,s,trivial,Z,Z⟩
   refine Uo aa U9 ?_;refine UF [[.int .i64 ((n:Int)+(i:Int))]] U12 (fun ab ac _ J=>?_);refine UP (j:=1) U11 J.m_ Z ax (by show(i+1)*8<=_;omega) fl_ (fun g h k=>?_);refine UP (j:=2) U11 H.m_ Z ax (by show(i+1)*40<=_;omega) fl_ (fun o p s=>?_);refine Um 2 Z ?_;refine Us (j:=3) U12 ?_;refine Um 2 Z ?_;refine Us (j:=0) U12 ?_;refine Un [1,3,35,36,37] a Z ?_;clear a I F R;refine G.perm (L':=DM n c z y d e f t n1 v i wF r A B E g h k o p s) (pkL [2,1,0,1,1,0] Z) ?_;refine G.perm _ (dI N) ?_;exact Ux 0 mup (hn_ [1,3,35,36,37] Z) ⟨g,h,k,o,p,s,trivial,Z,Z⟩
  obtain⟨A7,n7,c7,A8,n8,c8,_,rfl,rfl⟩:=Q;refine Ul fun R a=>?_;refine Uq _ Z U6 ?_;refine C6 1 [1,3,35,36,37] a Z ?_;clear a R;refine Uw (m':=c.length-(i+1)) om_ mup (hn_ [1,3,35,36,37] Z) ⟨i+1,A7,n7,c7,A8,n8,c8,(IJ wF i (.slice A B E)),om_,Z,Z,Z⟩
 have ak:i=c.length:=by
  have:=QF al;omega
 refine Uh 2 [2] Z ?_;rw[ak];refine G.perm (L':=(fg y n (Lp.openT (ci n c) fun j=>z.getD j 0) (.slice A2 n2 c2) (.slice K L M) (.slice t n1 v) (.slice d e f) wF).map Lent.ent) (by rw[Gk av];(exact pkL [2,0,0,0] Z)) ?_;refine Uv (UV Z Z ?_);exact⟨y,.slice A2 n2 c2,.slice K L M,.slice t n1 v,.slice d e f,wF,Z,Z⟩
def Wl (D:Int)(q:Rat):Prop:=∃ z:Int,q*(D:Rat)=(z:Rat)/\z.natAbs<=999999999
def RowI (r:RowQ):Prop:=∃ D:Int,D≠0/\D.natAbs<=999999999/\(∀ q∈r.f,Wl D q)/\Wl D r.b
def eO (rows:List RowQ):List (List Rat × Rat):=rows.map fun r=>(r.f,r.b)
theorem Wl.zero (D:Int):Wl D 0:=⟨0,by grind,by decide⟩
theorem Wl.neg {D:Int}{q:Rat}(h:Wl D q):Wl D (-q):=by
 obtain⟨z,h1,h2⟩:=h;exact⟨-z,by rw[Rat.intCast_neg,<- h1];grind,by omega⟩
theorem Wl.sg {D:Int}{q a:Rat}(h:Wl D q)(b:a=1∨a=-1):Wl D (a*q):=by
 rcases b with rfl|rfl
 ·rw[Rat.one_mul];exact h
 rw[show(-1:Rat)*q=-q by grind];exact h.neg
theorem mY (h:i<rows.length):(eO rows).getD i ([],0)=(rows[i].f,rows[i].b):=by
 unfold eO;rw[am,QD,aj h];rfl
theorem xt {M0:Nat}(d:n<=12)(h:∀ r∈rows,RowI r)(i:∃ D:Int,D≠0/\D.natAbs<=M0/\∀ j,j<n->∃ z:Int,cc j*(D:Rat)=(z:Rat)/\z.natAbs<=M0)(k:∀ n,n<=12->(n+1)*(M0*Lp.fctM (2*999999999) n)<B9 ^ 20):Lp.Lim (ci n (eO rows)) cc 20:=by
 have l:∀ r:Nat,∃ D:Int,∀ hr:r<rows.length,D≠0/\D.natAbs<=999999999/\(∀ q∈rows[r].f,Wl D q)/\Wl D rows[r].b:=fun r=>by
  by_cases hr:r<rows.length
  ·obtain⟨D,c⟩:=h rows[r] (Rv hr);exact⟨D,fun _=>c⟩
  exact⟨0,fun h=>absurd h hr⟩
 obtain⟨D,c⟩:=Classical.axiomOfChoice l;obtain⟨o,p,c2,s⟩:=i;have hm:(ci n (eO rows)).m=rows.length:=ar _;have t:Lp.bdQ (ci n (eO rows)) 999999999<B9 ^ 20:=by
  unfold Lp.bdQ Lp.bdT;have:∀ n,n<=12->(n+1)*(999999999*Lp.fctM (2*999999999) n)<B9 ^ 20:=by decide +kernel
  exact this _ d
 refine⟨⟨D,999999999,M0,o,by decide,⟨fun r hr=>?_,fun r j hr g=>?_,fun r hr=>?_⟩,⟨p,c2⟩,fun j g=>?_,t,by unfold Lp.bdW Lp.bdT;exact k _ d⟩⟩
 ·rw[hm]at hr;exact⟨(c r hr).1,(c r hr).2.1⟩
 ·rw[hm]at hr;have e:(ci n (eO rows)).a r j=rows[r].f.getD j 0:=by show((eO rows).getD r ([],0)).1.getD j 0=_;rw[mY hr]
  have u:Wl (D r) (rows[r].f.getD j 0):=by
   rw[am];cases v:rows[r].f[j]? with
  |none=>exact Wl.zero _
  |some q=>exact(c r hr).2.2.1 q (aX v)
  obtain⟨z,h1,h2⟩:=u;exact⟨z,by rw[e,Rat.mul_comm];exact h1,h2⟩
 ·rw[hm]at hr;have e:(ci n (eO rows)).b r=rows[r].b:=by show((eO rows).getD r ([],0)).2=_;rw[mY hr]
  obtain⟨z,h1,h2⟩:=(c r hr).2.2.2;exact⟨z,by rw[e,Rat.mul_comm];exact h1,h2⟩
 obtain⟨z,h1,h2⟩:=s j g;exact⟨z,by rw[Rat.mul_comm];exact h1,h2⟩
theorem uJ (a:n<=12)(h:∀ r∈rows,RowI r)(b:∃ D:Int,D≠0/\D.natAbs<=999999999/\∀ j,j<n->Wl D (cc j)):Lp.Lim (ci n (eO rows)) cc 20:=xt a h b aq
theorem J0 (a:n<=12)(h:∀ r∈rows,RowI r):Lp.Lim (ci n (eO rows)) (fun _=>0) 20:=uJ a h ⟨1,by decide,by decide,fun _ _=>Wl.zero _⟩
theorem wM {p:Nat}{c:List (Nat × Rat)}{b a:Rat}{D:Int}(d:a=1∨a=-1)(e:D≠0)(f:D.natAbs<=999999999)(g:∀ x∈c,Wl D x.2)(h:Wl D b):RowI (gV s p k c b a):=by
 refine⟨D,e,f,uf (Wl.zero _) (fun x i=>?_),h.sg d⟩;obtain⟨y,hy,rfl⟩:=QE.1 i;exact(g y hy).sg d
theorem E6 {pts:List Pt}{t:Tri}{fs:List Rat}{p:Pt}(e:∀ j,Qtr (cor pts t j))(f:cj (cor pts t 0) (cor pts t 1) (cor pts t 2)≠0)(g:∀ j,Hlf (fz fs t j))(z:Qtr p) :
  ∃ W:Int,W≠0/\W.natAbs<=2880000/\(∀ j,∃ N:Int,wgt pts t p j*W=N/\N.natAbs<=2880000)/\(∃ N:Int,onQ pts fs t p*((2*W:Int):Rat)=N/\N.natAbs<=600000000) /\
   ∀ j,(∃ N:Int,(slf pts t j).1*W=N/\N.natAbs<=400000)/\∃ N:Int,(slf pts t j).2*W=N/\N.natAbs<=400000:=by
 obtain⟨x0,y0,h0,m,o⟩:=e 0;obtain⟨x1,y1,h1,q,r⟩:=e 1;obtain⟨x2,y2,h2,s,u⟩:=e 2;obtain⟨x3,y3,h3,h⟩:=id z;obtain⟨k0,v,A⟩:=g 0;obtain⟨k1,w,B⟩:=g 1;obtain⟨k2,x,C⟩:=g 2;have D:=xA (x0:=x0) (y0:=y0) (x1:=x1) (y1:=y1) (x2:=x2) (y2:=y2) ⟨m,o,q,r,s,u⟩;refine⟨iA x0 y0 x1 y1 x2 y2,(iX h0 h1 h2 v w x f).1,D,fun j=>?_,⟨_,Lu h0 h1 h2 h3 v w x f,Pf ⟨m,o,q,r,s,u⟩ h ⟨A,B,C⟩⟩,fun j=>?_⟩
 ·obtain⟨M,O,h4,E,F⟩:=e ((j+1) % 3);obtain⟨P,Q,h5,G,H⟩:=e ((j+2) % 3);exact⟨_,(pA (kg h3 h4 h5) (kg h0 h1 h2) f).2,xA ⟨h.1,h.2,E,F,G,H⟩⟩
 have l:=fun i=>AV (n:=pts.length) (k:=dw t j) (t:=t) i;obtain⟨u0,g0,R⟩:=l 0;obtain⟨u1,I,l1⟩:=l 1;obtain⟨y,J,l2⟩:=l 2;obtain⟨_,K,L⟩:=iX h0 h1 h2 g0 I J f;have S:=ka (a:=u1-u0) (b:=y2-y0) (c:=y1-y0) (d:=y-u0) ⟨by omega,by omega,by omega,by omega⟩;have T:=ka (a:=u1-u0) (b:=x2-x0) (c:=x1-x0) (d:=y-u0) ⟨by omega,by omega,by omega,by omega⟩;exact⟨⟨_,K,by omega⟩,⟨_,L,by omega⟩⟩
theorem OB {W:Int}{q:Rat}{N:Int}(h:q*(W:Rat)=N)(a:N.natAbs<=400000000):Wl (2*W) q:=⟨2*N,by rw[Rx,Rx,<- h];grind,by omega⟩
theorem Ib {t:Tri}{f:Nat->Rat}{P:Rat->Prop}(h:∀ j,P (f j)):∀ x∈atT t f,P x.2:=gr (P:=fun x=>P x.2) (h 0) (h 1) (h 2)
theorem Kw (n:Nat):ld ((n % 12:Nat):Int) 2*2=(((n % 12:Nat):Int):Rat):=oz dc_
theorem OX (S:Sht)(H:Hts)(l:List Sgt)(s:Sgt)(i:Nat)(p:SgtR s):∀ r∈rowsO (dW S H l) (fL S s i) (lP S s) (tK S s) (zK S H s),RowI r:=by
 obtain⟨A,_⟩:=gz (S.kd % 8) (Rj _ dc_) S.a S.b S.h;obtain⟨_,B⟩:=locK S s p;have C:=ip A.ok (aX B);obtain⟨W,D,g,E,⟨d,u,L⟩,v⟩:=E6 (pts:=cA (S.kd % 8) S.a S.b S.h) (t:=tK S s) (fs:=fsK (cA (S.kd % 8) S.a S.b S.h).length H) (fun j=>qQ j) C (fun j=>Hh j) (BJ S s p);have m:∀ j,Wl (2*W) (wgt (cA (S.kd % 8) S.a S.b S.h) (tK S s) (lP S s) j):=fun j=>by
  obtain⟨N,e,b⟩:=E j;exact OB e om_
 have n:Wl (2*W) (lk (fL S s i) (zK S H s)):=by
  unfold lk;split
  ·rename_i F;rw[BX S s i F,cR (ok1 (ta s.depth))];have f:=Kw s.depth;have G:zK S H s*((2*W:Int):Rat)=d:=u;refine⟨d-((s.depth % 12:Nat):Int)*W, ?_, ?_⟩
   ·simp only[SX,Rx,<- f];rw[show((d:Int):Rat)=zK S H s*((2*W:Int):Rat) from G.symm];simp only[Rx];grind
   have:=da (a:=((s.depth % 12:Nat):Int)) (b:=W) (M:=11) om_ g;omega
  exact⟨d,u,by omega⟩
 have o:∀ sg∈([1, -1]:List Rat),sg=1∨sg=-1:=by simp
 intro r hr;unfold rowsO at hr;split at hr
 ·rcases QS.1 hr with h|h <;> split at h
  ·rw[QY.1 h];exact wM (.inl rfl) om_ om_ (Ib m) n
  ·simp at h
  ·rw[QY.1 h];exact wM (.inr rfl) om_ om_ (Ib m) n
  simp at h
 rename_i h1;split at hr
 ·obtain⟨k,_,h⟩:=List.mem_flatMap.1 hr;obtain⟨sg,c,rfl⟩:=QE.1 h;exact wM (o sg c) om_ om_ (Ib m) n
 rename_i h2;have O:=nX s.n0;have P:=nX s.n1;have Q:=ow s.n2;have w:=uL s.n2;have f:qL (fL S s i)*(fj s.n2:Int)=((-(s.n0.tmod 5):Int):Rat)/\jh (fL S s i)*(fj s.n2:Int)=((-(s.n1.tmod 5):Int):Rat):=by
  have I:=eh (s.n0.tmod 5) om_;have l1:=eh (s.n1.tmod 5) om_;have l2:=eh (fj s.n2) om_;have R:((fj s.n2:Int):Rat)≠0:=by exact_mod_cast w
  revert h1 h2;unfold qL jh fL;split
  ·intro h1;exact absurd rfl h1
  split
  ·intro _ h2;exact absurd rfl h2
  intro _ _;simp only;rw[cR (ok1 I),cR (ok1 l1),cR (ok1 l2),Rat.intCast_neg,Rat.intCast_neg];constructor <;> grind
 have hm:(W*fj s.n2).natAbs<=2880000*4:=da g om_;have x:W*fj s.n2≠0:=Int.mul_ne_zero D w;have y:∀ {q:Rat}{N:Int},q*(W:Rat)=N->N.natAbs<=400000->Wl (W*fj s.n2) q:=fun {q N} e b=>⟨N*fj s.n2,by rw[Rx,Rx,<- e];grind,by have:=da b (show(fj s.n2).natAbs<=4 by omega);omega⟩;have J:∀ j,Wl (W*fj s.n2) (slf (cA (S.kd % 8) S.a S.b S.h) (tK S s) j).1:=fun j=>by
  obtain⟨N,e,b⟩:=(v j).1;exact y e b
 have K:∀ j,Wl (W*fj s.n2) (slf (cA (S.kd % 8) S.a S.b S.h) (tK S s) j).2:=fun j=>by
  obtain⟨N,e,b⟩:=(v j).2;exact y e b
 have z:∀ {q:Rat}{N:Int},q*((fj s.n2:Int):Rat)=N->N.natAbs<=4->Wl (W*fj s.n2) q:=fun {q N} e b=>⟨N*W,by rw[Rx,Rx,<- e];grind,by have:=da b g;omega⟩;obtain⟨k,_,h⟩:=List.mem_flatMap.1 hr;rcases QS.1 h with h|h
 ·obtain⟨sg,c,rfl⟩:=QE.1 h;exact wM (o sg c) x om_ (Ib J) (z f.1 om_)
 obtain⟨sg,c,rfl⟩:=QE.1 h;exact wM (o sg c) x om_ (Ib K) (z f.2 om_)
def PW (x:Lay):Prop:=(∃ z:Int,x.min=z/\z.natAbs<=1000)/\∀ m,x.max=some m->∃ z:Int,m=z/\z.natAbs<=1000
theorem AM {q:Rat}{z:Int}(e:q=z)(h:z.natAbs<=1000):Wl 1 q:=⟨z,by rw[e];show _*(1:Rat)=_;grind,by omega⟩
theorem OH {a:Nat}{u v:Rat}{c:Rat}(f:u=1∨u=-1)(g:v=1∨v=-1)(i:Wl 1 c):RowI ⟨rZ n [(a,u),(b,v)],c⟩:=by
 have d:∀ q:Rat,q=1∨q=-1->Wl 1 q:=fun q h=>by
  rcases h with rfl|rfl
  ·exact AM (z:=1) aq dc_
  exact AM (z:=-1) aq dc_
 refine⟨1,by decide,by decide,uf (Wl.zero _) (fun x e=>?_),i⟩;simp only[QQ,RJ,S5]at e;rcases e with rfl|rfl
 ·exact d _ f
 exact d _ g
theorem IP {p:Nat}{x:Lay}(h:PW x):∀ r∈kv s p x i k,RowI r:=by
 obtain⟨z,a,b⟩:=h.1;intro r hr;unfold kv at hr;rcases QQ.1 hr with rfl|hr
 ·exact OH (.inr Z) (.inl Z) (AM a b).neg
 split at hr
 ·cases hr
 rename_i m hm;obtain⟨z,a,b⟩:=h.2 m hm;rw[QY.1 hr];exact OH (.inl Z) (.inr Z) (AM a b)
theorem Bd {s p:Nat}{x:Lay}{i:Nat}(h:PW x):∀ k,∀ r∈bA s p x i k,RowI r
|0,r,hr=>by cases hr
|k+1,r,hr=>by
  rcases QS.1 hr with h1|h1
  ·exact Bd h k r h1
  exact IP h r h1
theorem Bc {s p:Nat}{a:List Lay}(h:∀ x∈a,PW x):∀ n,∀ r∈bh s p a n,RowI r
|0,r,hr=>by cases hr
|n+1,r,hr=>by
  rcases QS.1 hr with h1|h1
  ·exact Bc h n r h1
  refine Bd ?_ _ r h1;rw[am];cases b:a[n+1]? with
 |none=>exact⟨⟨0,rfl,by decide⟩,fun m hm=>by cases hm⟩
 |some x=>exact h x (aX b)
theorem Qs:∀ x∈colK,PW x:=by
 intro x a;simp only[colK,QQ,RJ,S5]at a;rcases a with rfl|rfl|rfl
 ·exact⟨⟨0,Z,by decide⟩,fun m hm=>by cases hm⟩
 ·exact⟨⟨0,Z,by decide⟩,fun m hm=>by cases hm;exact⟨5,Z,by decide⟩⟩
 exact⟨⟨1,Z,by decide⟩,fun m hm=>by cases hm⟩
theorem D9 (h:FeasO p t u):∃ (row:Int)(a:Bool),u=.tuple #[.int .i64 row,.bool a]/\(a=true->t.Feas p.n) /\
  (a=false->∃ r:Nat,row=r/\r<t.basic.length/\p.n<=t.bas r/\(t.line r).c<0/\∀ s,s<t.others.length->p.n<=t.oth s->(t.line r).g s<=0):=by
 cases h with
|yes h=>exact⟨0,true,rfl,fun _=>h,fun h=>by cases h⟩
|no r h1 h2 h3 h4=>exact⟨r,false,rfl,fun h=>(by cases h),fun _=>⟨r,rfl,h1,h2,h3,h4⟩⟩
theorem Gy (h:MinO p t u):∃ (b:Int)(a:Bool),u=.tuple #[.int .i64 b,.bool a]/\(a=true->Lp.RelW p.n t/\∀ s,s<t.others.length->p.n<=t.oth s->0<=t.worth.g s) /\
  (a=false->∃ s:Nat,b=s/\s<t.others.length/\lj t s*t.worth.g s<0/\(∀ i,i<t.basic.length->p.n<=t.bas i->0<=lj t s*(t.line i).g s)/\(p.n<=t.oth s->0<=lj t s)):=by
 cases h with
|yes h1 h2=>exact⟨0,true,rfl,fun _=>⟨h1,h2⟩,fun h=>by cases h⟩
|no s h1 h2 h3 h4=>exact⟨s,false,rfl,fun h=>(by cases h),fun _=>⟨s,rfl,h1,h2,h3,h4⟩⟩
inductive SolO (p:Lp.Sys) (cc:Nat->Rat) (D:Mem):Value->Prop where
|opt (val:Rat) (pt du:Nat->Rat) (vp vd:Value):Lp.OptR p cc 20 val pt du->Sl D 1 vp (((List.range p.n).map pt).map aQ)->Sl D 1 vd (((List.range p.m).map du).map aQ)->SolO p cc D (.agg ⟨[.int .i64 1,af (qtx val),vp,vd,.slice none 0 0]⟩)
|inf (du:Nat->Rat) (vd:Value):Lp.InfR p 20 du->Sl D 1 vd (((List.range p.m).map du).map aQ)->SolO p cc D (.agg ⟨[.int .i64 2,af [],.slice none 0 0,vd,.slice none 0 0]⟩)
|unb (pt ra:Nat->Rat) (vp vr:Value):Lp.UnbR p cc 20 pt ra->Sl D 1 vp (((List.range p.n).map pt).map aQ)->Sl D 1 vr (((List.range p.n).map ra).map aQ)->SolO p cc D (.agg ⟨[.int .i64 3,af [],vp,.slice none 0 0,vr]⟩)
theorem Jq :lj t s=1∨lj t s=-1:=by unfold lj;split <;> simp
theorem Bp (C:Mem)(x:Tabs C)(n:Nat)(V F:Value)(k:List (List Rat × Rat))(l:List Rat)(H:RowsT C V (k.map fW))(ho:Sl C 1 F (l.map aQ))(X:RowsQ n k)(Y:n<=1000)(ai:l.length=n)(f:Lp.Lim (ci n k) (fun j=>l.getD j 0) 20) :
  Pur cx.P 74 [.agg ⟨[.int .i64 n,V,F]⟩] C fun u D=>SolO (ci n k) (fun j=>l.getD j 0) D u:=by
 have aS:maxLen<=9223372036854775807:=by simp[maxLen]
 have hm:=X.m;have aj:=H;obtain⟨vs,ak,_,am⟩:=aj;obtain⟨Ar,cr,rfl,_⟩:=id am;rw[tL ak,ar]at H⊢;obtain⟨p,I⟩:∃ p,ci n k=p:=⟨_,rfl⟩;obtain⟨cc,an⟩:∃ cc:Nat->Rat,(fun j=>l.getD j 0)=cc:=⟨_,rfl⟩;have ao:p.n=n:=by rw[<- I];rfl
 have ap:p.m=k.length:=by rw[<- I];rfl
 have z:=fun(D:Mem)(J:C.le D)=>JC D (x.mono J) n (.slice Ar k.length cr) F k l (H.mono J) (ho.mono J) X Y ai;rw[I,an]at f z⊢;rw[<- ao]at z Y⊢;rw[<- ap]at z⊢;refine Ur func74 57 U3 fun w0=>?_;refine Ul fun R a=>?_;refine UC U6 (fun b1=>?_);refine UB U5 (fun b2=>?_);refine Un [1,2] a Z ?_;clear a R;refine G.freeze 1 Z (fun _ _ K=>?_);refine UI [(1,3)] Z (fun R a=>?_);refine Uj (bkT K 3) U8 ?_;refine D.call (z _ mup) Z (.inr dc_) U6 (QI _) fl_ (fun v9 C9 L9 _ aq=>?_);obtain⟨b,wB,wL,wO,wW,wF,rfl,rfl⟩:=aq;refine C6 1 [1,2,3] a Z ?_;clear a R;refine UI [(1,3)] Z (fun R a=>?_);refine Uk U6 ?_;refine D.call (DC _ x.m_ p cc b _ wB wL wO wW wF Lp.openT_inv Z f om_ om_) Z (.inr dc_) U6 (QI _) fl_ (fun aT _ aU _ au=>?_);refine Un [1,2,3] a Z ?_;clear a R;obtain⟨-,t1,av,aw,ax,rfl⟩:=au;refine UI [(1,3)] Z (fun R a=>?_);refine Uk U6 ?_;refine D.call (zG _ x.m_ p cc b t1 wB wL wO wW av aw ax f om_ om_) Z (.inr dc_) U6 (QI _) fl_ (fun aV _ aW _ ay=>?_);obtain⟨t,aa,w,ab,hF,rfl⟩:=ay;obtain⟨row,is,rfl,az,aA⟩:=D9 hF;refine C6 5 [1,2,3,4,5] a Z ?_;clear a R;refine Uh 2 [1,2,3,4,18] Z ?_;refine G.cd (fun L=>?_) fun L=>?_
 ·have M:is=false:=by simpa using L
  obtain⟨r,rfl,N,ac,aB,aC⟩:=aA M;refine VA (fg b p.n t wB wL wO wW aa) (gm w.tab.ok) (fun C5 _ y=>?_);have h:=fb w.tab.ok y;refine Ui 3 Z fun R a=>?_;refine Uj (bkT K 1) U8 ?_;refine Uk U6 ?_;refine UK (Jp _ p b r t wB wL wO wW _ h.m_ w.tab om_ N ac (fun q=>(w.dualQ f dc_ N q).le dc_)) U7 fl_ (fun aX _ _ aD=>?_);obtain⟨g,rfl,hg⟩:=aD;refine UA [.int .i64 2,af [],.slice none 0 0,.slice (some ⟨g,0,none⟩) p.m p.m,.slice none 0 0] U8 ?_;refine Us (j:=0) U12 ?_;refine Un [2] a Z ?_;clear a R;refine Uv (Va ag U4 ?_);exact⟨Z,.inf _ _ (w.inf f dc_ ab N ac aB aC) hg.m_⟩
 have M:is=true:=by simpa using L
 have aE:=az M;refine UI [(1,3)] Z (fun R a=>?_);refine Uk U6 ?_;refine D.call (zk _ x.m_ p cc b t wB wL wO wW aa w ab aE f om_ om_) Z (.inr dc_) U6 (QI _) fl_ (fun aY _ aZ _ aF=>?_);obtain⟨d,ad,e,ae,hM,rfl⟩:=aF;obtain⟨a0,ah,rfl,aG,aH⟩:=Gy hM;refine C6 5 [1,2,3,6,7] a Z ?_;clear a R;refine Uh 2 [1,2,3,6,32] Z ?_;refine G.cd (fun O=>?_) fun O=>?_
 ·have Q:ah=false:=by simpa using O
  obtain⟨s,rfl,A,aI,aJ,aK⟩:=aH Q;refine VA (fg b p.n d wB wL wO wW ad) (gm e.tab.ok) (fun C5 _ y=>?_);have h:=fb e.tab.ok y;refine UI [(1,3),(4,3)] Z (fun R a=>?_);refine Uk U6 ?_;refine D.call (BL _ b p.n (p.n+p.m) d wB wL wO wW _ h.m_ e.tab.ok om_) Z (.inr dc_) U6 (QI _) fl_ (fun a1 _ a2 _ aL=>?_);obtain⟨S,rfl,rfl⟩:=aL;refine Um 2 Z ?_;refine D.call (O7 _ x.m_ p b s d wB wL wO wW _ h.m_ e.tab A om_ (fun i hi=>e.fac f hi A) (e.wfac f A)) Z (.inr dc_) U6 (QI _) fl_ (fun a3 _ a4 _ aM=>?_);obtain⟨B,rfl,rfl⟩:=aM;refine UA [.int .i64 3,af [],.slice (some ⟨S,0,none⟩) p.n p.n,.slice none 0 0,.slice (some ⟨B,0,none⟩) p.n p.n] U8 ?_;refine Us (j:=2) U12 ?_;refine Un [2] a Z ?_;clear a R;refine G.freezeArr 1 (((List.range p.n).map fun v=>lj d s*d.dir s v).map aQ) Z Z bU al (fun C8 _ T=>?_);refine G.freezeArr 1 (((List.range p.n).map d.sol).map aQ) Z Z bU al (fun C9 _ U=>?_);refine Uv (Va ag U4 ?_);exact⟨Z,.unb _ _ _ _ (e.unb f dc_ ae A Jq aI aJ aK) U T.m_⟩
 have Q:ah=true:=by simpa using O
 obtain⟨aN,aO⟩:=aG Q;refine VA (fg b p.n d wB wL wO wW ad) (gm e.tab.ok) (fun C5 _ y=>?_);have h:=fb e.tab.ok y;refine UD [0,1,2,3,4,5,7,8,9,10,11,12,13,14,6,15,16,17,18] [(6,3),(15,3),(4,0),(11,0),(13,0)] Z kr_ (fun R E a=>?_);refine Um 4 Z ?_;refine Vr (fun _=>((PtrTo.blockT h.o _ 1).mono E)) U9 ?_;refine Um 5 Z ?_;refine Vr (fun _=>((PtrTo.blockT h.o _ 2).mono E)) U9 ?_;refine Uk U6 ?_;refine Vr (fun _=>((bkT K 1).mono E)) U9 ?_;refine Uk U6 ?_;refine D.call (BL _ b p.n (p.n+p.m) d wB wL wO wW _ h.m_ e.tab.ok om_) Z (.inr dc_) U6 (QI _) fl_ (fun a5 _ a6 _ aP=>?_);refine D.call (Ht _ p b d d.worth wB wL wO wW wW _ h.m_ e.tab om_ h.W.m_ e.tab.ok.wl) Z (.inr dc_) U6 (QI _) fl_ (fun a7 _ a8 _ aR=>?_);obtain⟨B,rfl,rfl⟩:=aR;obtain⟨S,rfl,rfl⟩:=aP;refine UA [.slice (some ⟨B,0,none⟩) p.m p.m] U8 ?_;refine UA [.int .i64 1,af (qtx d.worth.c),.slice (some ⟨S,0,none⟩) p.n p.n,.slice (some ⟨B,0,none⟩) p.m p.m,.slice none 0 0] U8 ?_;refine Us (j:=2) U12 ?_;refine Un [2] a Z ?_;clear a E R;refine G.freezeArr 1 (((List.range p.m).map (Lp.dualV p d d.worth)).map aQ) Z Z bU al (fun C8 _ T=>?_);refine G.freezeArr 1 (((List.range p.n).map d.sol).map aQ) Z Z bU al (fun C9 _ U=>?_);refine Uv (Va ag U4 ?_);exact⟨Z,.opt _ _ _ _ _ (e.opt f dc_ ae aN aO) U T.m_⟩
theorem NA (C:Mem)(n:Nat)(j:n<=1000000):Jog.Fn cx.P 212 [.slice none 0 0,.int .i64 n] C [] fun u _ h=>∃ A n2 c,u=.slice A n2 c/\h=[.arr u 32 1 0 []]:=by
 have k:maxLen<=9223372036854775807:=by simp[maxLen]
 refine Ur func212 27 U3 fun w0=>Uh 1 [0,1] Z<|Uh 2 [0,1,6] Z<|G.cd (fun d=>?_) fun d=>?_
 ·simp at d;omega
 refine Ui 2 Z fun R a=>V0 Z Z Z Z Z Z Z Z Z<|Um 2 Z<|Uq _ Z U6<|Uq _ Z U6<|C6 1 [0,1] a Z<|Uh 2 [0,1,16] Z<|G.cd (fun f=>?_) fun f=>?_
 ·have i:0<n:=by
   simp at f;omega
  refine Ui 2 Z fun R a=>V0 Z Z Z Z Z Z Z Z Z<|Vg 0 0 0 U12 (fun _=>⟨.inl ⟨Z,Z⟩,.inr ⟨_,Z⟩,.inl ⟨Z,Z⟩,Qz _,Qz _,Qz _⟩) U2<|Uk U6<|WI (m:=n) Z Z Z Z Z Z Z Z Z Z Z Z i (by show n*16<=_;omega) (by simp only[maxLen];omega) fl_ fun b g l=>Um 2 Z<|Vg 0 0 g U12 (fun _=>⟨.inl ⟨Z,Z⟩,.inr ⟨_,Z⟩,.inl ⟨Z,Z⟩,Qz _,QH _,Qz _⟩) U2<|C6 1 [0] a Z<|Uh 2 [4] Z<|WS 0 0 Z (QH _)<|Uv (UV Z Z ?_);refine⟨_,_,_,Z, ?_⟩;have e:(if g=0 then some (⟨b,0,none⟩:Addr) else (some (⟨b,0,none⟩:Addr)).map (·.add (0*1)))=some ⟨b,0,none⟩:=by
   split
   ·rfl
   simp[Addr.add_lit]
  rw[e];simp
 refine Uh 2 [4] Z<|G.nilArr 32 1<|Uv (UV Z Z ?_);exact⟨none,0,0,Z,Z⟩
def nT (xs:List (Value × List Rat)):List Rat:=(xs.map (·.2)).flatten
theorem yp {a:List (Value × List Rat)}{x:Value × List Rat}(h:a[i]?=some x):nT (a.take (i+1))=nT (a.take i)++x.2:=by
 unfold nT;rw[Q4,h];simp
theorem HW (a:List (Value × List Rat))(i:Nat):(nT (a.take i)).length<=(nT a).length:=by
 have h:nT a=nT (a.take i)++nT (a.drop i):=by
  unfold nT;rw[<- Ro,<- Rh,RB]
 rw[h,QG];omega
def NG (x:Value × List Rat):List Value:=[x.1]
theorem HM (C:Mem)(v:Value)(a:List (Value × List Rat))(h:Sl C 1 v (a.map NG))(B:∀ x∈a,Sl C 1 x.1 (x.2.map aQ))(K:(nT a).length<=1000000) :
  Jog.Fn cx.P 144 [v] C [] fun u _ e=>∃ A n2 c,u=.slice A n2 c/\e=[.arr u 32 1 (nT a).length ((nT a).map aQ).flatten]:=by
 obtain⟨p,c0,rfl,L,Y,_⟩:=id h;have aa:maxLen<=9223372036854775807:=by simp[maxLen]
 simp only[ar]at h L⊢;refine Ur func144 36 U3 fun w0=>Uh 1 [0] Z<|Uh 1 [0,3] Z<|Uh 3 [0,3,9,10,11] Z<|G.loop (fun fr M e q=>∃ (i:Nat)(z:Int),(i<=a.length/\z=(nT (a.take i)).length)/\fr=[(0,[],.slice p a.length c0),(3,[],.int .i64 z),(9,[],.slice p a.length c0),(10,[],.int .i64 a.length),(11,[],.int .i64 i)]/\e=[]/\q=a.length-i) (hn_ [0,3,9,10,11] Z) ⟨0,0,⟨QH _,Z⟩,Z,Z,Z⟩ (fun fr ab ac m _ r=>?_);obtain⟨i,z,⟨hi,s⟩,rfl,rfl,rfl⟩:=r;refine Uh 1 [0,3,9,10,11,12] Z<|G.cd (fun t=>?_) fun t=>?_
 ·have f:i<a.length:=by
   have:=PZ t;omega
  obtain⟨x,d⟩:∃ x,a[i]?=some x:=⟨a[i],aj f⟩;have g:=B x (aX d);obtain⟨w,l⟩:=x;simp only at g;obtain⟨Ax,ad,rfl,N,ae,_⟩:=id g;simp only[ar]at g N d;have k:=yp d;have E:=HW a (i+1);have O:(nT (a.take (i+1))).length=(nT (a.take i)).length+l.length:=by rw[k,QG]
  refine Ul fun R b=>Uy h.m_ U10 om_ (show(a.map NG)[i]?=some [_] from kN d) fl_ fun ag Q=>Uj Q U8<|C6 1 [0,3,5,9,10,11] b Z<|Ui 3 Z fun R b=>Uq _ Z U6<|C6 1 [0,3,9,10,11] b Z<|Uh 2 [0,3,9,10,11,20] Z<|G.cd (fun F=>?_) fun F=>?_
  ·exfalso;have ah:=PZ F;omega
  refine Ul fun R b=>Uq _ Z U6<|C6 1 [0,3,9,10,11] b Z<|Uw (m':=a.length-(i+1)) om_ mup (hn_ [0,3,9,10,11] Z) ⟨i+1,_,⟨by omega,by rw[s];omega⟩,Z,Z,Z⟩
 have f:i=a.length:=by
  have:=QF t;omega
 rw[f,QM]at s;subst s;refine UI [(1,3)] Z fun R b=>Uk U6<|D.call (NA _ (nT a).length K) Z (.inr dc_) U6 (QI _) fl_ (fun ai _ ak _ S=>?_);obtain⟨T,U,V,rfl,rfl⟩:=S;refine C6 1 [0,6] b Z<|Uh 3 [6,25,26,27] Z<|G.loop (fun fr M e q=>∃ (i:Nat)(n:Option Addr)(n1 o:Nat),(i<=a.length)/\fr=[(6,[],.slice n n1 o),(25,[],.slice p a.length c0),(26,[],.int .i64 a.length),(27,[],.int .i64 i)]/\e=[.arr (.slice n n1 o) 32 1 (nT (a.take i)).length ((nT (a.take i)).map aQ).flatten]/\q=a.length-i) (hn_ [6,25,26,27] Z) ⟨0,T,U,V,QH _,Z,Z,Z⟩ (fun fr al am m E r=>?_);obtain⟨i,n,n1,o,an,rfl,rfl,rfl⟩:=r;refine Uh 1 [6,25,26,27,28] Z<|G.cd (fun y=>?_) fun y=>?_
 ·have f:i<a.length:=by
   have:=PZ y;omega
  obtain⟨x,d⟩:∃ x,a[i]?=some x:=⟨a[i],aj f⟩;have g:=B x (aX d);have k:=yp d;have E:=HW a (i+1);have O:(nT (a.take (i+1))).length=(nT (a.take i)).length+x.2.length:=by rw[k,QG]
  refine Ul fun R b=>Uy h.m_ U10 om_ (show(a.map NG)[i]?=some [x.1] from kN d) fl_ fun ao W=>Uj W U8<|C6 1 [6,8,25,26,27] b Z<|Ui 2 Z fun R b=>UP (j:=0) U11 g.m_ (by simp[aQ,lQ,af]) (by simp only[ar,maxLen];omega) (by show((nT (a.take i)).length+(x.2.map aQ).length)*16<=_;rw[ar];omega) fl_ fun H I J=>C6 1 [6,25,26,27] b Z<|Ul fun R b=>Uq _ Z U6<|C6 1 [6,25,26,27] b Z<|Uz (L':=[.arr (.slice H I J) 32 1 (nT (a.take (i+1))).length ((nT (a.take (i+1))).map aQ).flatten]) (by rw[k,Rh,Ro,QG,ar];rfl)<|Uw (m':=a.length-(i+1)) om_ mup (hn_ [6,25,26,27] Z) ⟨i+1,H,I,J,om_,Z,Z,Z⟩
 have X:i=a.length:=by
  have:=QF y;omega
 refine Uh 2 [2] Z<|Uv (UV Z Z ?_);exact⟨n,n1,o,Z,by rw[X,QM]⟩
theorem Bv (C:Mem)(N:Tabs C)(o:Int)(y:Str)(f g i:Value)(a b c:List Rat)(z:Sl C 1 f (a.map aQ))(A:Sl C 1 g (b.map aQ))(B:Sl C 1 i (c.map aQ))(O:∀ x∈a,QB 20 x)(Q:∀ x∈b,QB 20 x)(S:∀ x∈c,QB 20 x)(ae:a.length<=1000)(ag:b.length<=1000)(ah:c.length<=1000)
  (T:o=1->∃ q,y=qtx q/\QB 20 q):Gives cx.P 75 [.agg ⟨[.int .i64 o,af y,f,g,i]⟩] C (.bool true):=by
 have E:nT [(f,a),(g,b),(i,c)]=a++(b++(c++[])):=rfl;have F:(nT [(f,a),(g,b),(i,c)]).length<=1000000:=by rw[E];simp;omega
 obtain⟨all,H⟩:∃ all,nT [(f,a),(g,b),(i,c)]=all:=⟨_,rfl⟩;have I:∀ x∈all,QB 20 x:=fun x d=>by
  rw[<- H,E]at d;simp only[QS,RJ,S5]at d;rcases d with h|h|h
  ·exact O x h
  ·exact Q x h
  exact S x h
 have U:∀ l:List Rat,(∀ x∈l,QB 20 x)->((l.map qtx).any fun s=>!aW s)=false:=fun l V=>List.any_eq_false.2 fun s hs=>by
  obtain⟨x,d,rfl⟩:=QE.1 hs;rw[bi ((V x d).le dc_)];decide
 obtain⟨p,r,rfl,_⟩:=id z;obtain⟨t,u,rfl,_⟩:=id A;obtain⟨v,w,rfl,_⟩:=id B;have W:∀ D:Mem,C.le D->∀ x∈[(Value.slice p (a.map aQ).length r,a),(Value.slice t (b.map aQ).length u,b),(Value.slice v (c.map aQ).length w,c)],Sl D 1 x.1 (x.2.map aQ):=fun D k x d=>by
  simp only[QQ,RJ,S5]at d;rcases d with h|h|h
  ·rw[h];exact z.mono k
  ·rw[h];exact A.mono k
  rw[h];exact B.mono k
 refine Ur func75 24 U3 fun w0=>Ul fun R e=>UC U6 fun b1=>C6 1 [1] e Z<|G.freeze 0 Z fun _ _ m=>UI [(8,3)] Z fun R e=>Uk U6<|Uj (bkT m 1) U8<|Um 2 Z<|Uj (bkT m 1) U8<|Uk U6<|Uj (bkT m 1) U8<|UF [[.slice p (a.map aQ).length r],[.slice t (b.map aQ).length u],[.slice v (c.map aQ).length w]] U12 fun ai _ _ X=>D.call (HM _ _ [(.slice p (a.map aQ).length r,a),(.slice t (b.map aQ).length u,b),(.slice v (c.map aQ).length w,c)] X.m_ (W _ mup) F) Z (.inr dc_) U6 (QI _) fl_ (fun aj _ ak _ Y=>?_);obtain⟨A3,n3,c3,rfl,rfl⟩:=Y;rw[H]at F⊢;refine C6 1 [1,3] e Z<|Ui 1 Z fun R e=>Uj (bkT m 1) U8<|C6 1 [1,3,15] e Z<|G.cut (fun fr C' J μ=>∃ (n:Value)(l:List Rat),(∀ x∈l,QB 20 x)/\fr=[(3,[],n)]/\J=[.arr n 32 1 l.length (l.map aQ).flatten]) ?_ (fun fr _ am μ _ hI=>?_)
 ·refine G.cd (fun K=>?_) fun K=>?_
  ·have aa:o=1:=by simpa using K
   obtain⟨q,rfl,ab⟩:=T aa;refine Ui 2 Z fun R e=>Uj (bkT m 1) U8<|UF [[af (qtx q)]] U12 fun an _ _ ac=>D.append (j:=0) U11 ac Z ax (by show(all.length+1)*16<=_;omega) fl_ fun L=>C6 1 [3] e Z<|Uz (L':=[.arr L 32 1 (all++[q]).length ((all++[q]).map aQ).flatten]) (by rw[Rh,Ro,QG];rfl)<|Ux 0 mup (hn_ [3] Z) ⟨L,all++[q],fun x d=>by
    rcases QS.1 d with h|h
    ·exact I x h
    rw[QY.1 h];exact ab,rfl,rfl⟩
  refine Ux 0 (Mem.le.refl _) (hn_ [3] Z) ⟨_,all,I,Z,Z⟩
 obtain⟨n ,l,M,rfl,rfl⟩:=hI;refine G.freezeArr 0 (l.map aQ) Z Z bU al fun _ _ ad=>Ui 1 Z fun R e=>Uu (Gf _ n (l.map qtx) 102 [] (fun s=>!aW s) (by rw[<- xV];exact ad.mono mup) kr_ (fun s hs D k=>by
  obtain⟨x,d,rfl⟩:=QE.1 hs;exact pD D (N.mono (Mem.le.trans mup k)) (qtx x) (QW (bg (M x d) dc_) dc_))) U7 fl_ ?_
 exact C6 2 [2] e Z<|Up U2<|⟨by rw[U l M];rfl,Z⟩
end Go.Proofs.YtfjcldheldflbaaGreatDoor
