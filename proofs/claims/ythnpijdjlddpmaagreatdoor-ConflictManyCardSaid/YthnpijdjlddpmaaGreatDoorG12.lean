/- Laws that the proofs of this seat share, part 12. -/
import Derived.Test.YthnpijdjlddpmaaGreatDoorG11
import Derived.Test.YthnpijdjlddpmaaGreatDoorShelf
set_option maxHeartbeats 4000000
namespace Go.Proofs.YthnpijdjlddpmaaGreatDoor
open Tryz
open Go Go.Jog
set_option maxRecDepth 100000
variable {F N b:Nat}{cc:Nat->Rat}{i j:Nat}{l:Lp.Line}{m n:Nat}{o:Int}{p:Lp.Sys}{q:Nat->Prop}{r s:Nat}{t:Lp.Tab}{vs:List Nat}{wB:Value}{wF:Nat->Value}{wL wO wW wy:Value}
theorem tY {y:Lp.Line}(a:s<l.f.length):jC l.f y.f s (l.f.getD s 0) l.f.length=(Lp.putL l s y).f/\l.c+l.f.getD s 0*y.c=(Lp.putL l s y).c:=by
 have h:=Ck (c:=l.c) (bc:=y.c) (bf:=y.f) a;exact ⟨(congrArg Lp.Line.f h).symm,(congrArg Lp.Line.c h).symm⟩
theorem FG (C:Mem)(k:Tabs C)(b m e i n s:Nat)(w d:Value)(a:List (Rat × Value))(l y:Lp.Line)(o:a.length=m)(p:a[i]?=some (l.c,w))(g:l.f.length=n)(q:y.f.length=n)(r:s<n)(h:QB 40 l.c/\∀ x∈l.f,QB 40 x)(j:QB 40 y.c/\∀ x∈y.f,QB 40 x) :
  Jog.Fn cx.P 237 [.pointer (some ⟨b,i*2,none⟩),.int .i64 s,.agg ⟨[al (qtx y.c),d]⟩] C [.arr d 56 1 n (y.f.map aT).flatten,.arr (.slice (some ⟨b,0,none⟩) m e) 209 2 m (a.map bl).flatten,.arr w 56 1 n (l.f.map aT).flatten]
   fun u _ t=>u=.tuple #[]/\t=[.arr d 56 1 n (y.f.map aT).flatten,.arr (.slice (some ⟨b,0,none⟩) m e) 209 2 m ((a.set i ((Lp.putL l s y).c,w)).map bl).flatten,.arr w 56 1 n ((Lp.putL l s y).f.map aT).flatten]:=by
 obtain ⟨h1,h2⟩:=tY (l:=l) (y:=y) (s:=s) om_;rw [<- h1,<- h2,g];exact FH C k b m e i n s w d a l.f y.f l.c y.c o p g q r h.1 h.2 j.1 j.2
theorem FE (C:Mem)(m:Tabs C)(a n s:Nat)(d e g h w b:Value)(l y:Lp.Line)(i:l.f.length=n)(o:y.f.length=n)(p:s<n)(j:QB 40 l.c/\∀ x∈l.f,QB 40 x)(k:QB 40 y.c/\∀ x∈y.f,QB 40 x) :
  Jog.Fn cx.P 237 [.pointer (some ⟨a,4,none⟩),.int .i64 s,.agg ⟨[al (qtx y.c),b]⟩] C [.arr b 56 1 n (y.f.map aT).flatten,.obj a (.cells ⟨[d,e,g,h,al (qtx l.c),w]⟩ 212 (0,0)),.arr w 56 1 n (l.f.map aT).flatten]
   fun u _ q=>u=.tuple #[]/\q=[.arr b 56 1 n (y.f.map aT).flatten,.obj a (.cells ⟨[d,e,g,h,al (qtx (Lp.putL l s y).c),w]⟩ 212 (0,0)),.arr w 56 1 n ((Lp.putL l s y).f.map aT).flatten]:=by
 obtain ⟨h1,h2⟩:=tY (l:=l) (y:=y) (s:=s) om_;rw [<- h1,<- h2,i];exact FF C m a n s d e g h w b l.f y.f l.c y.c i o p j.1 j.2 k.1 k.2
def byF (l:Lp.Line)(s j:Nat):List Rat:=(List.range l.f.length).map fun q=>if q<j then (Lp.byL l s).g q else 0
theorem jJ :(byF l s j).length=l.f.length:=by simp [byF]
theorem yH {q:Nat}(h:q<l.f.length):(byF l s j)[q]?=some (if q<j then (Lp.byL l s).g q else 0):=by
 unfold byF;rw [LU,Mr h];rfl
theorem GO :List.replicate l.f.length 0=byF l s 0:=by
 refine List.ext_getElem? fun v=>?_;by_cases a:v<l.f.length
 ·rw [yH a,Nq,aI a,aC (Nat.not_lt_zero _)]
 ·rw [LX (by simp;omega),LX (by rw [jJ];omega)]
theorem Jo (h:j<l.f.length):(byF l s j).set j (-(if j=s then -1 else l.g j) / l.g s)=byF l s (j+1):=by
 refine List.ext_getElem? fun q=>?_;rw [List.getElem?_set,jJ];by_cases a:q<l.f.length
 ·rw [yH a,yH a];by_cases e:j=q
  ·subst e;rw [aI rfl,aI a,aI (Nat.lt_succ_self j),Lp.byL_g a];congr 1;split <;> grind
  ·rw [aC e];by_cases h1:q<j
   ·rw [aI h1,aI om_]
   ·rw [aC h1,aC om_]
 ·rw [aC om_,LX (by rw [jJ];omega),LX (by rw [jJ];omega)]
theorem sM :(Lp.byL l s).f.length=l.f.length:=by simp [Lp.byL]
theorem Jp :byF l s l.f.length=(Lp.byL l s).f:=by
 refine List.ext_getElem? fun q=>?_;by_cases a:q<l.f.length
 ·rw [yH a,aI a];unfold Lp.Line.g;rw [ak,aj (by rw [sM];exact a)];rfl
 ·rw [LX (by rw [jJ];omega),LX (by rw [sM];omega)]
def stL (t:Lp.Tab)(r s i q:Nat):Lp.Line:=if q<i/\q≠r then Lp.putL (t.line q) s (Lp.byL (t.line r) s) else t.line q
def stV (t:Lp.Tab)(wF:Nat->Value)(r s i:Nat):List (Rat × Value):=(List.range t.basic.length).map fun q=>((stL t r s i q).c,wF q)
def stE (t:Lp.Tab)(wF:Nat->Value)(r s i q:Nat):Ent:=.arr (wF q) 56 1 t.others.length ((stL t r s i q).f.map aT).flatten
theorem ig :(stV t wF r s i).length=t.basic.length:=by simp [stV]
theorem xq {q:Nat}(h:q<t.basic.length):(stV t wF r s i)[q]?=some ((stL t r s i q).c,wF q):=by
 unfold stV;rw [LU,Mr h];rfl
theorem rt {q:Nat}:stL t r s 0 q=t.line q:=aC fun h=>Nat.not_lt_zero _ h.1
theorem ni {q:Nat}(h:q≠i):stL t r s (i+1) q=stL t r s i q:=by
 unfold stL;by_cases h1:q<i/\q≠r
 ·rw [aI h1,aI ⟨by omega,h1.2⟩]
 ·rw [aC h1,aC fun h2=>h1 ⟨by omega,h2.2⟩]
theorem lZ (h:i≠r):stL t r s i i=t.line i/\stL t r s (i+1) i=Lp.putL (t.line i) s (Lp.byL (t.line r) s) :=
 ⟨aC fun h2=>Nat.lt_irrefl _ h2.1,aI ⟨Nat.lt_succ_self _,h⟩⟩
theorem xr {q:Nat}:stL t r s (r+1) q=stL t r s r q:=by
 by_cases h:q=r
 ·subst h;unfold stL;rw [aC fun h=>h.2 rfl,aC fun h=>h.2 rfl]
 ·exact ni h
theorem HZ (b:i<t.basic.length)(h:i≠r):(stV t wF r s i).set i ((Lp.putL (t.line i) s (Lp.byL (t.line r) s)).c,wF i)=stV t wF r s (i+1):=by
 refine List.ext_getElem? fun q=>?_;rw [List.getElem?_set,ig];by_cases a:q<t.basic.length
 ·rw [xq a,xq a];by_cases e:i=q
  ·subst e;rw [aI rfl,aI a,(lZ h).2]
  ·rw [aC e,ni (Ne.symm e)]
 ·rw [aC om_,LX (by rw [ig];omega),LX (by rw [ig];omega)]
theorem E6 :stV t wF r s (r+1)=stV t wF r s r:=by
 unfold stV;simp only [xr]
theorem E5 :stV t wF r s 0=cC t wF:=by
 unfold stV cC;simp only [rt]
theorem H0 (d:t.Ok N)(f:r<t.basic.length):(stV t wF r s t.basic.length).set r ((Lp.byL (t.line r) s).c,wy)=cC (t.pivot r s) fun q=>if q=r then wy else wF q:=by
 have b:(t.pivot r s).basic.length=t.basic.length:=MN;refine List.ext_getElem? fun q=>?_;rw [List.getElem?_set,ig];by_cases a:q<t.basic.length
 ·rw [xq a,me (by rw [b];exact a),Lp.pivot_line (by rw [d.ll];exact a)];by_cases e:r=q
  ·subst e;rw [aI rfl,aI a,aI rfl,aI rfl]
  ·rw [aC e,aC (Ne.symm e),aC (Ne.symm e)];unfold stL;rw [aI ⟨a,Ne.symm e⟩]
 ·rw [aC om_,LX (by rw [ig];omega),LX (by rw [eT,b];omega)]
theorem range_nd :(List.range m).Nodup:=List.nodup_range
theorem H1 (b:t.Ok N)(c:r<t.basic.length) :
  (.arr wy 56 1 t.others.length ((Lp.byL (t.line r) s).f.map aT).flatten::((List.range t.basic.length).erase r).map (stE t wF r s t.basic.length)).Perm (((List.range (t.pivot r s).basic.length).map (Hd (t.pivot r s) fun q=>if q=r then wy else wF q)).map Lent.ent):=by
 have g:(t.pivot r s).basic.length=t.basic.length:=MN;have d:(t.pivot r s).others.length=t.others.length:=MN;rw [g,ME];have h0:(Lent.ent ∘ Hd (t.pivot r s) fun q=>if q=r then wy else wF q) r=.arr wy 56 1 t.others.length ((Lp.byL (t.line r) s).f.map aT).flatten:=by
  show Ent.arr (if r=r then wy else wF r) _ 1 (t.pivot r s).others.length _=_;rw [aI rfl,d,Lp.pivot_line (by rw [b.ll];exact c),aI rfl]
 have h1:=kg range_nd (Me.2 c) (Lent.ent ∘ Hd (t.pivot r s) fun q=>if q=r then wy else wF q) (stE t wF r s t.basic.length) (fun q h a=>by
  have e:=Me.1 h;show Ent.arr (if q=r then wy else wF q) _ 1 (t.pivot r s).others.length _=_;rw [aC a,d,Lp.pivot_line (by rw [b.ll];exact e),aC a];unfold stE stL;rw [aI ⟨e,a⟩])
 rw [h0] at h1;exact h1.symm
theorem HY (a:t.Ok N)(d:r<t.basic.length) :
  (([.obj b (.cells ⟨[.int .i64 n,wB,wL,wO,al (qtx (Lp.putL t.worth s (Lp.byL (t.line r) s)).c),wW]⟩ 212 (0,0)),.arr wB 3 1 t.basic.length ((t.basic.set r (t.oth s)).map aU).flatten,.arr wL 209 2 t.basic.length (((stV t wF r s t.basic.length).set r ((Lp.byL (t.line r) s).c,wy)).map bl).flatten,.arr wO 3 1 t.others.length ((t.others.set s (t.bas r)).map aU).flatten,.arr wW 56 1 t.others.length (((Lp.putL t.worth s (Lp.byL (t.line r) s)).f).map aT).flatten]:List Ent)++(.arr wy 56 1 t.others.length ((Lp.byL (t.line r) s).f.map aT).flatten::((List.range t.basic.length).erase r).map (stE t wF r s t.basic.length))).Perm ((eD b n (t.pivot r s) wB wL wO wW fun q=>if q=r then wy else wF q).map Lent.ent):=by
 have e:(t.pivot r s).basic.length=t.basic.length:=MN;have g:(t.pivot r s).others.length=t.others.length:=MN;rw [H0 a d];refine (List.Perm.append_left _ (H1 a d)).trans (List.Perm.of_eq ?_);unfold eD;simp only [Mp,Lent.ent,e,g];rfl
theorem vJ {l:List Nat}(h:i<l.length):l[i]?=some (l.getD i 0):=by
 rw [ak,aj h];rfl
theorem aY (r s:Nat):(eD b n t wB wL wO wW wF).map Lent.ent=[.obj b (.cells ⟨[.int .i64 n,wB,wL,wO,al (qtx t.worth.c),wW]⟩ 212 (0,0)),.arr wB 3 1 t.basic.length ((t.basic).map aU).flatten,.arr wL 209 2 t.basic.length ((cC t wF).map bl).flatten,.arr wO 3 1 t.others.length ((t.others).map aU).flatten,.arr wW 56 1 t.others.length ((t.worth.f).map aT).flatten]++(List.range t.basic.length).map (stE t wF r s 0):=by
 have e:stE t wF r s 0=Lent.ent ∘ Hd t wF:=funext fun q=>by
  unfold stE;rw [rt];rfl
 rw [e,<- ME];rfl
def LineQ (k:Nat)(l:Lp.Line):Prop:=QB k l.c/\∀ x∈l.f,QB k x
theorem LineQ.le {k m:Nat}{l:Lp.Line}(h:LineQ k l)(a:k<=m):LineQ m l:=⟨h.1.le a,fun x b=>(h.2 x b).le a⟩
theorem LineQ.g {k:Nat}{l:Lp.Line}(h:LineQ k l){j:Nat}(a:j<l.f.length):QB k (l.g j):=by
 unfold Lp.Line.g;rw [ak,aj a];exact h.2 _ (MP _)
theorem LJ (h:LineQ 16 l)(c:s<l.f.length)(a:l.g s≠0):LineQ 32 (Lp.byL l s):=by
 have b:=h.g c;refine ⟨kI (fk h.1) b a,fun x d=>?_⟩;obtain ⟨q,e,rfl⟩:=L4.1 d;have i:=Me.1 e;split
 ·exact kI ⟨by decide,by decide⟩ b a
 ·exact kI (fk (h.g i)) b a
theorem rM (C:Mem)(Q:Tabs C)(b n r s N:Nat)(t:Lp.Tab)(S T U d:Value)(a:Nat->Value)(V:t.Ok N)(hm:t.basic.length<=1000000)(aJ:t.others.length<=1000000)(B:r<t.basic.length)(W:s<t.others.length)(hk:(t.line r).g s≠0)(hq:∀ i,i<t.basic.length->LineQ 16 (t.line i))(ar:LineQ 16 t.worth) :
  Jog.Fn cx.P 179 [.pointer (some ⟨b,0,none⟩),.int .i64 r,.int .i64 s] C ((eD b n t S T U d a).map Lent.ent) fun u _ A=>u=.tuple #[]/\∃ au,A=(eD b n (t.pivot r s) S T U d au).map Lent.ent:=by
 have aK:maxLen<=9223372036854775807:=by simp [maxLen]
 have X:=gu V B;have av:=V.wl;have J:=hq r B;have ac:s<(t.line r).f.length:=by omega
 have ak:=J.g ac;have am:=LJ J ac hk;refine Ph func179 123 U3 fun w0=>?_;rw [aY r s];refine Po (L':=[.obj b (.cells ⟨[.int .i64 n,S,T,U,al (qtx t.worth.c),d]⟩ 212 (0,0)),.arr S 3 1 t.basic.length ((t.basic).map aU).flatten,.arr T 209 2 t.basic.length ((cC t a).map bl).flatten,.arr U 3 1 t.others.length ((t.others).map aU).flatten,.arr d 56 1 t.others.length ((t.worth.f).map aT).flatten]++(List.range t.basic.length).map (stE t a r s 0)) Z<|QE 1 Z om_ (fun o p K=>?_);subst K;refine QE 2 Z om_ (fun k l K=>?_);subst K;refine QE 3 Z om_ (fun w x K=>?_);subst K;refine G.perm (L':=[.arr (a r) 56 1 t.others.length ((t.line r).f.map aT).flatten,.obj b (.cells ⟨[.int .i64 n,.slice (some ⟨o,0,none⟩) t.basic.length p,.slice (some ⟨k,0,none⟩) t.basic.length l,.slice (some ⟨w,0,none⟩) t.others.length x,al (qtx t.worth.c),d]⟩ 212 (0,0)),.arr (.slice (some ⟨o,0,none⟩) t.basic.length p) 3 1 t.basic.length ((t.basic).map aU).flatten,.arr (.slice (some ⟨k,0,none⟩) t.basic.length l) 209 2 t.basic.length ((cC t a).map bl).flatten,.arr (.slice (some ⟨w,0,none⟩) t.others.length x) 3 1 t.others.length ((t.others).map aU).flatten,.arr d 56 1 t.others.length ((t.worth.f).map aT).flatten]++((List.range t.basic.length).erase r).map (stE t a r s 0)) (by
  have h1:=kg range_nd (Me.2 B) (stE t a r s 0) (stE t a r s 0) (fun _ _ _=>rfl);refine (List.Perm.append_left _ h1).trans ?_;have e:stE t a r s 0 r=.arr (a r) 56 1 t.others.length ((t.line r).f.map aT).flatten:=by unfold stE;rw [rt]
  rw [e]
  (exact pkL [5] rfl)) ?_
 refine G.freezeArr 0 ((t.line r).f.map aT) Z Z dy (by simp [X]) (fun _ _ L=>?_);obtain ⟨Y,c3,an,aw,aL,_⟩:=id L;rw [an] at L;simp only [ax] at L aw;have ay:(cC t a)[r]?=some ((t.line r).c,.slice Y (t.line r).f.length c3):=by rw [me B,an,ax]
 refine O7 3 Z fun R y=>Pe (.head _) U9<|Pa U6<|PG (r*2) U10 (fun _=>⟨by omega,by omega,Z⟩) U2<|PT (v:=.agg ⟨[al (qtx (t.line r).c),.slice Y (t.line r).f.length c3]⟩) (.tail _ (.tail _ (.head _))) U6 (fun _=>(by rw [mm ay];rfl)) U2<|Pq U5 fun b6=>Pg (j:=0) U12<|Pd [0,1,2,6] y Z<|G.freeze 0 Z fun _ _ ad=>O7 1 Z fun R y=>O8 (bkT ad 1) U8<|Pa U6<|Pm L.m_ U10 om_ (de ac) fl_ fun aM az=>O8 az U8<|C4 1 [0,1,2,6,7] y Z<|Px [(5,3)] Z fun R y=>Pc 3 Z<|Pe (.head _) U9<|Pa U6<|D.call (il _ t.others.length om_) Z (.inr dc_) U6 (LR _) fl_ (fun aN _ aO _ aA=>?_);obtain ⟨z,rfl,rfl⟩:=aA;refine PB [al [],.slice (some ⟨z,0,none⟩) t.others.length t.others.length] U8<|Pq U5 fun E=>Pg (j:=0) U12<|Pd [0,1,2,6,7,8] y Z<|O7 1 Z fun R y=>O8 (bkT ad 1) U8<|Pp (dT _ (t.line r).c (Md (bE J.1 dc_) dc_)) U7 fl_<|Pa U6<|Pp (gg _ Q.m_ (-(t.line r).c) ((t.line r).g s) 16 dc_ dc_ (fk J.1) ak hk) U7 fl_<|Pc 4 Z<|Pg (j:=0) U12<|Pd [0,1,2,6,7,8] y Z<|O7 1 Z fun R y=>O8 (bkT ad 1) U8<|C4 2 [0,1,2,7,8,41,42,43] y Z<|Po (L':=[.obj E (.cells ⟨[al (qtx (Lp.byL (t.line r) s).c),.slice (some ⟨z,0,none⟩) t.others.length t.others.length]⟩ 209 (0,0)),.arr (.slice (some ⟨z,0,none⟩) t.others.length t.others.length) 56 1 t.others.length ((byF (t.line r) s 0).map aT).flatten,.obj b (.cells ⟨[.int .i64 n,.slice (some ⟨o,0,none⟩) t.basic.length p,.slice (some ⟨k,0,none⟩) t.basic.length l,.slice (some ⟨w,0,none⟩) t.others.length x,al (qtx t.worth.c),d]⟩ 212 (0,0)),.arr (.slice (some ⟨o,0,none⟩) t.basic.length p) 3 1 t.basic.length ((t.basic).map aU).flatten,.arr (.slice (some ⟨k,0,none⟩) t.basic.length l) 209 2 t.basic.length ((cC t a).map bl).flatten,.arr (.slice (some ⟨w,0,none⟩) t.others.length x) 3 1 t.others.length ((t.others).map aU).flatten,.arr d 56 1 t.others.length ((t.worth.f).map aT).flatten]++((List.range t.basic.length).erase r).map (stE t a r s 0)) (by rw [<- GO,X,<- rC];rfl)<|G.loop (fun fr C' A M=>∃ (j:Nat),(j<=(t.line r).f.length)/\fr=[(0,[],.pointer (some ⟨b,0,none⟩)),(1,[],.int .i64 r),(2,[],.int .i64 s),(7,[],al (qtx ((t.line r).g s))),(8,[],.pointer (some ⟨E,0,none⟩)),(41,[],.slice Y (t.line r).f.length c3),(42,[],.int .i64 (t.line r).f.length),(43,[],.int .i64 j)]/\A=[.obj E (.cells ⟨[al (qtx (Lp.byL (t.line r) s).c),.slice (some ⟨z,0,none⟩) t.others.length t.others.length]⟩ 209 (0,0)),.arr (.slice (some ⟨z,0,none⟩) t.others.length t.others.length) 56 1 t.others.length ((byF (t.line r) s j).map aT).flatten,.obj b (.cells ⟨[.int .i64 n,.slice (some ⟨o,0,none⟩) t.basic.length p,.slice (some ⟨k,0,none⟩) t.basic.length l,.slice (some ⟨w,0,none⟩) t.others.length x,al (qtx t.worth.c),d]⟩ 212 (0,0)),.arr (.slice (some ⟨o,0,none⟩) t.basic.length p) 3 1 t.basic.length ((t.basic).map aU).flatten,.arr (.slice (some ⟨k,0,none⟩) t.basic.length l) 209 2 t.basic.length ((cC t a).map bl).flatten,.arr (.slice (some ⟨w,0,none⟩) t.others.length x) 3 1 t.others.length ((t.others).map aU).flatten,.arr d 56 1 t.others.length ((t.worth.f).map aT).flatten]++((List.range t.basic.length).erase r).map (stE t a r s 0)/\M=(t.line r).f.length-j) (hn_ [0,1,2,7,8,41,42,43] Z) ⟨0,LV _,Z,Z,Z⟩ (fun fr aP aQ m _ O=>?_);obtain ⟨j,hj,rfl,rfl,rfl⟩:=O;refine C6 1 [0,1,2,7,8,41,42,43,44] Z<|O9 (fun ae=>?_) fun ae=>?_
 ·have I:j<(t.line r).f.length:=by
   have:=K5 ae;omega
  have ao:QB 16 (if j=s then (-1:Rat) else (t.line r).g j):=by
   split
   ·exact ⟨by decide,by decide⟩
   ·exact J.g I
  refine O7 1 Z fun R y=>Pm L.m_ U10 om_ (show ((t.line r).f.map aT)[j]?=some (aT ((t.line r).g j)) from de I) fl_ fun aR aB=>O8 aB U8<|C4 2 [0,1,2,7,8,9,10,41,42,43] y Z<|C6 3 [0,1,2,7,8,9,10,41,42,43,50] Z<|G.cut (fun fr C' A M=>(True)/\fr=[(0,[],.pointer (some ⟨b,0,none⟩)),(1,[],.int .i64 r),(2,[],.int .i64 s),(7,[],al (qtx ((t.line r).g s))),(8,[],.pointer (some ⟨E,0,none⟩)),(9,[],.int .i64 j),(10,[],al (qtx (if j=s then (-1:Rat) else (t.line r).g j))),(41,[],.slice Y (t.line r).f.length c3),(42,[],.int .i64 (t.line r).f.length),(43,[],.int .i64 j)]/\A=[.obj E (.cells ⟨[al (qtx (Lp.byL (t.line r) s).c),.slice (some ⟨z,0,none⟩) t.others.length t.others.length]⟩ 209 (0,0)),.arr (.slice (some ⟨z,0,none⟩) t.others.length t.others.length) 56 1 t.others.length ((byF (t.line r) s j).map aT).flatten,.obj b (.cells ⟨[.int .i64 n,.slice (some ⟨o,0,none⟩) t.basic.length p,.slice (some ⟨k,0,none⟩) t.basic.length l,.slice (some ⟨w,0,none⟩) t.others.length x,al (qtx t.worth.c),d]⟩ 212 (0,0)),.arr (.slice (some ⟨o,0,none⟩) t.basic.length p) 3 1 t.basic.length ((t.basic).map aU).flatten,.arr (.slice (some ⟨k,0,none⟩) t.basic.length l) 209 2 t.basic.length ((cC t a).map bl).flatten,.arr (.slice (some ⟨w,0,none⟩) t.others.length x) 3 1 t.others.length ((t.others).map aU).flatten,.arr d 56 1 t.others.length ((t.worth.f).map aT).flatten]++((List.range t.basic.length).erase r).map (stE t a r s 0)) ?_ (fun fr _ aS M _ O=>?_)
  ·refine O9 (fun af=>?_) fun af=>?_
   ·have ag:j=s:=by
     have aa:((j:Int) == (s:Int))=true:=af;have:=eq_of_beq aa;omega
    refine C6 1 [0,1,2,7,8,9,10,41,42,43] Z<|Pj 0 (Mem.le.refl _) (hn_ [0,1,2,7,8,9,10,41,42,43] Z) ⟨trivial,by rw [aI ag,J7];rfl,Z⟩
   ·have ag:¬ j=s:=by
     have aa:((j:Int) == (s:Int))=false:=af;intro h;rw [h] at aa;simp at aa
    refine Pj 0 (Mem.le.refl _) (hn_ [0,1,2,7,8,9,10,41,42,43] Z) ⟨trivial,by rw [aC ag],Z⟩
  ·obtain ⟨aV,rfl,rfl⟩:=O;refine Pv [0,1,2,3,4,5,6,7,8,9,10,11] [(4,1),(6,1)] Z kr_ fun R hB y=>Pa U6<|Pe (.head _) U9<|Pc 2 Z<|Pw (fun _=>(dT _ (if j=s then (-1:Rat) else (t.line r).g j) (Md (bE ao dc_) dc_))) U9<|Pa U6<|Pw (fun _=>(gg _ Q.m_ (-(if j=s then (-1:Rat) else (t.line r).g j)) ((t.line r).g s) 16 dc_ dc_ (fk ao) ak hk)) U9<|Pc 3 Z<|PG (j*1) U10 (fun _=>⟨by omega,by omega,Z⟩) U2<|PJ (j:=1) U11 (by show j*1+1<=_;rw [bS bG,jJ];omega)<|Pd [0,1,2,7,8,41,42,43] y Z<|Pb fun R y=>Pi _ U7<|C4 1 [0,1,2,7,8,41,42,43] y Z<|G.perm (L':=[.obj E (.cells ⟨[al (qtx (Lp.byL (t.line r) s).c),.slice (some ⟨z,0,none⟩) t.others.length t.others.length]⟩ 209 (0,0)),.arr (.slice (some ⟨z,0,none⟩) t.others.length t.others.length) 56 1 t.others.length ((byF (t.line r) s (j+1)).map aT).flatten,.obj b (.cells ⟨[.int .i64 n,.slice (some ⟨o,0,none⟩) t.basic.length p,.slice (some ⟨k,0,none⟩) t.basic.length l,.slice (some ⟨w,0,none⟩) t.others.length x,al (qtx t.worth.c),d]⟩ 212 (0,0)),.arr (.slice (some ⟨o,0,none⟩) t.basic.length p) 3 1 t.basic.length ((t.basic).map aU).flatten,.arr (.slice (some ⟨k,0,none⟩) t.basic.length l) 209 2 t.basic.length ((cC t a).map bl).flatten,.arr (.slice (some ⟨w,0,none⟩) t.others.length x) 3 1 t.others.length ((t.others).map aU).flatten,.arr d 56 1 t.others.length ((t.worth.f).map aT).flatten]++((List.range t.basic.length).erase r).map (stE t a r s 0)) (by rw [<- Jo I,<- bK bG _ (by rw [jJ];exact I)];exact List.Perm.swap _ _ _)<|Pk (m':=(t.line r).f.length-(j+1)) om_ mup (hn_ [0,1,2,7,8,41,42,43] Z) ⟨j+1,om_,Z,Z,Z⟩
 ·have I:j=(t.line r).f.length:=by
   have:=LS ae;omega
  rw [I,Jp];refine G.freeze 0 Z fun _ _ ah=>O7 3 Z fun R y=>Pe (.tail _ (.head _)) U9<|C4 2 [0,1,2,8,67,68] y Z<|G.perm (L':=[.arr (.slice (some ⟨z,0,none⟩) t.others.length t.others.length) 56 1 t.others.length (((Lp.byL (t.line r) s).f).map aT).flatten,.arr (.slice (some ⟨k,0,none⟩) t.basic.length l) 209 2 t.basic.length ((stV t a r s 0).map bl).flatten,.obj b (.cells ⟨[.int .i64 n,.slice (some ⟨o,0,none⟩) t.basic.length p,.slice (some ⟨k,0,none⟩) t.basic.length l,.slice (some ⟨w,0,none⟩) t.others.length x,al (qtx t.worth.c),d]⟩ 212 (0,0)),.arr (.slice (some ⟨o,0,none⟩) t.basic.length p) 3 1 t.basic.length ((t.basic).map aU).flatten,.arr (.slice (some ⟨w,0,none⟩) t.others.length x) 3 1 t.others.length ((t.others).map aU).flatten,.arr d 56 1 t.others.length ((t.worth.f).map aT).flatten]++((List.range t.basic.length).erase r).map (stE t a r s 0)) (by rw [E5];(exact pkL [0,2] Z))<|G.loop (fun fr C' A M=>∃ (i:Nat),(i<=t.basic.length)/\fr=[(0,[],.pointer (some ⟨b,0,none⟩)),(1,[],.int .i64 r),(2,[],.int .i64 s),(8,[],.pointer (some ⟨E,0,none⟩)),(67,[],.int .i64 t.basic.length),(68,[],.int .i64 i)]/\A=[.arr (.slice (some ⟨z,0,none⟩) t.others.length t.others.length) 56 1 t.others.length (((Lp.byL (t.line r) s).f).map aT).flatten,.arr (.slice (some ⟨k,0,none⟩) t.basic.length l) 209 2 t.basic.length ((stV t a r s i).map bl).flatten,.obj b (.cells ⟨[.int .i64 n,.slice (some ⟨o,0,none⟩) t.basic.length p,.slice (some ⟨k,0,none⟩) t.basic.length l,.slice (some ⟨w,0,none⟩) t.others.length x,al (qtx t.worth.c),d]⟩ 212 (0,0)),.arr (.slice (some ⟨o,0,none⟩) t.basic.length p) 3 1 t.basic.length ((t.basic).map aU).flatten,.arr (.slice (some ⟨w,0,none⟩) t.others.length x) 3 1 t.others.length ((t.others).map aU).flatten,.arr d 56 1 t.others.length ((t.worth.f).map aT).flatten]++((List.range t.basic.length).erase r).map (stE t a r s i)/\M=t.basic.length-i) (hn_ [0,1,2,8,67,68] Z) ⟨0,LV _,Z,Z,Z⟩ (fun fr aW aX m _ O=>?_);obtain ⟨i,hi,rfl,rfl,rfl⟩:=O;refine C6 1 [0,1,2,8,67,68,69] Z<|O9 (fun ai=>?_) fun ai=>?_
  ·have F:i<t.basic.length:=by
    have:=K5 ai;omega
   refine C6 2 [0,1,2,8,11,67,68] Z<|C6 3 [0,1,2,8,11,67,68,73] Z<|O9 (fun aj=>?_) fun aj=>?_
   ·have H:i≠r:=by
     have ab:(!((i:Int) == (r:Int)))=true:=aj;intro h;rw [h] at ab;simp at ab
    have ap:i∈(List.range t.basic.length).erase r:=(List.Nodup.mem_erase_iff range_nd).2 ⟨H,Me.2 F⟩;have aq:=kg (range_nd.erase r) ap (stE t a r s i) (stE t a r s (i+1)) (fun q _ aD=>by unfold stE;rw [ni aD]);have he:stE t a r s i i=.arr (a i) 56 1 t.others.length ((t.line i).f.map aT).flatten:=by unfold stE;rw [(lZ H).1]
    have aE:stE t a r s (i+1) i=.arr (a i) 56 1 t.others.length ((Lp.putL (t.line i) s (Lp.byL (t.line r) s)).f.map aT).flatten:=by unfold stE;rw [(lZ H).2]
    have aF:(stV t a r s i)[i]?=some ((t.line i).c,a i):=by rw [xq F,(lZ H).1]
    rw [he] at aq;refine G.perm (L':=[.arr (.slice (some ⟨z,0,none⟩) t.others.length t.others.length) 56 1 t.others.length (((Lp.byL (t.line r) s).f).map aT).flatten,.arr (.slice (some ⟨k,0,none⟩) t.basic.length l) 209 2 t.basic.length ((stV t a r s i).map bl).flatten,.arr (a i) 56 1 t.others.length ((t.line i).f.map aT).flatten,.obj b (.cells ⟨[.int .i64 n,.slice (some ⟨o,0,none⟩) t.basic.length p,.slice (some ⟨k,0,none⟩) t.basic.length l,.slice (some ⟨w,0,none⟩) t.others.length x,al (qtx t.worth.c),d]⟩ 212 (0,0)),.arr (.slice (some ⟨o,0,none⟩) t.basic.length p) 3 1 t.basic.length ((t.basic).map aU).flatten,.arr (.slice (some ⟨w,0,none⟩) t.others.length x) 3 1 t.others.length ((t.others).map aU).flatten,.arr d 56 1 t.others.length ((t.worth.f).map aT).flatten]++(((List.range t.basic.length).erase r).erase i).map (stE t a r s (i+1))) ((List.Perm.append_left _ aq).trans (pkL [0,0,4] Z))<|Pv [0,1,2,3,4,5,6,7,8] [(8,3)] Z kr_ fun R hB y=>Pc 3 Z<|Pe (.tail _ (.tail _ (.tail _ (.head _)))) U9<|Pa U6<|PG (i*2) U10 (fun _=>⟨by omega,by omega,Z⟩) U2<|Pa U6<|O8 (bkT ah 2) U8<|D.call (FG _ Q.m_ k t.basic.length l i t.others.length s (a i) (.slice (some ⟨z,0,none⟩) t.others.length t.others.length) (stV t a r s i) (t.line i) (Lp.byL (t.line r) s) ig aF (gu V F) (by rw [sM];exact X) W ((hq i F).le dc_) (am.le dc_)) Z (.inr dc_) U6 (pkL [0,0,0] Z) fl_ fun aZ _ a0 _ aG=>Pd [0,1,2,8,67,68] y Z ?_;obtain ⟨-,rfl⟩:=aG;refine G.perm (L':=[.arr (.slice (some ⟨z,0,none⟩) t.others.length t.others.length) 56 1 t.others.length (((Lp.byL (t.line r) s).f).map aT).flatten,.arr (.slice (some ⟨k,0,none⟩) t.basic.length l) 209 2 t.basic.length ((stV t a r s (i+1)).map bl).flatten,.obj b (.cells ⟨[.int .i64 n,.slice (some ⟨o,0,none⟩) t.basic.length p,.slice (some ⟨k,0,none⟩) t.basic.length l,.slice (some ⟨w,0,none⟩) t.others.length x,al (qtx t.worth.c),d]⟩ 212 (0,0)),.arr (.slice (some ⟨o,0,none⟩) t.basic.length p) 3 1 t.basic.length ((t.basic).map aU).flatten,.arr (.slice (some ⟨w,0,none⟩) t.others.length x) 3 1 t.others.length ((t.others).map aU).flatten,.arr d 56 1 t.others.length ((t.worth.f).map aT).flatten]++((List.range t.basic.length).erase r).map (stE t a r s (i+1))) (by
     rw [<- HZ F H];refine List.Perm.trans (l₂:=[.arr (.slice (some ⟨z,0,none⟩) t.others.length t.others.length) 56 1 t.others.length (((Lp.byL (t.line r) s).f).map aT).flatten,.arr (.slice (some ⟨k,0,none⟩) t.basic.length l) 209 2 t.basic.length (((stV t a r s i).set i ((Lp.putL (t.line i) s (Lp.byL (t.line r) s)).c,a i)).map bl).flatten,.obj b (.cells ⟨[.int .i64 n,.slice (some ⟨o,0,none⟩) t.basic.length p,.slice (some ⟨k,0,none⟩) t.basic.length l,.slice (some ⟨w,0,none⟩) t.others.length x,al (qtx t.worth.c),d]⟩ 212 (0,0)),.arr (.slice (some ⟨o,0,none⟩) t.basic.length p) 3 1 t.basic.length ((t.basic).map aU).flatten,.arr (.slice (some ⟨w,0,none⟩) t.others.length x) 3 1 t.others.length ((t.others).map aU).flatten,.arr d 56 1 t.others.length ((t.worth.f).map aT).flatten]++(.arr (a i) 56 1 t.others.length ((Lp.putL (t.line i) s (Lp.byL (t.line r) s)).f.map aT).flatten::(((List.range t.basic.length).erase r).erase i).map (stE t a r s (i+1)))) (pkL [0,0,1,1,1,1] Z) (List.Perm.append_left _ ?_);rw [<- aE];exact (kg (range_nd.erase r) ap (stE t a r s (i+1)) (stE t a r s (i+1)) (fun _ _ _=>rfl)).symm) ?_
    refine Pb fun R y=>Pi _ U7<|C4 1 [0,1,2,8,67,68] y Z<|Pk (m':=t.basic.length-(i+1)) om_ mup (hn_ [0,1,2,8,67,68] Z) ⟨i+1,om_,Z,Z,Z⟩
   ·have H:i=r:=by
     have ab:(!((i:Int) == (r:Int)))=false:=aj;simp at ab;omega
    refine Po (L':=[.arr (.slice (some ⟨z,0,none⟩) t.others.length t.others.length) 56 1 t.others.length (((Lp.byL (t.line r) s).f).map aT).flatten,.arr (.slice (some ⟨k,0,none⟩) t.basic.length l) 209 2 t.basic.length ((stV t a r s (i+1)).map bl).flatten,.obj b (.cells ⟨[.int .i64 n,.slice (some ⟨o,0,none⟩) t.basic.length p,.slice (some ⟨k,0,none⟩) t.basic.length l,.slice (some ⟨w,0,none⟩) t.others.length x,al (qtx t.worth.c),d]⟩ 212 (0,0)),.arr (.slice (some ⟨o,0,none⟩) t.basic.length p) 3 1 t.basic.length ((t.basic).map aU).flatten,.arr (.slice (some ⟨w,0,none⟩) t.others.length x) 3 1 t.others.length ((t.others).map aU).flatten,.arr d 56 1 t.others.length ((t.worth.f).map aT).flatten]++((List.range t.basic.length).erase r).map (stE t a r s (i+1))) (by
     have e:stE t a r s (r+1)=stE t a r s r:=funext fun q=>by unfold stE;rw [xr]
     rw [H,E6,e]) ?_
    refine Pb fun R y=>Pi _ U7<|C4 1 [0,1,2,8,67,68] y Z<|Pk (m':=t.basic.length-(i+1)) om_ mup (hn_ [0,1,2,8,67,68] Z) ⟨i+1,om_,Z,Z,Z⟩
  ·have F:i=t.basic.length:=by
    have:=LS ai;omega
   rw [F];refine G.perm (L':=[.arr (.slice (some ⟨z,0,none⟩) t.others.length t.others.length) 56 1 t.others.length (((Lp.byL (t.line r) s).f).map aT).flatten,.obj b (.cells ⟨[.int .i64 n,.slice (some ⟨o,0,none⟩) t.basic.length p,.slice (some ⟨k,0,none⟩) t.basic.length l,.slice (some ⟨w,0,none⟩) t.others.length x,al (qtx t.worth.c),d]⟩ 212 (0,0)),.arr d 56 1 t.others.length ((t.worth.f).map aT).flatten,.arr (.slice (some ⟨k,0,none⟩) t.basic.length l) 209 2 t.basic.length ((stV t a r s t.basic.length).map bl).flatten,.arr (.slice (some ⟨o,0,none⟩) t.basic.length p) 3 1 t.basic.length ((t.basic).map aU).flatten,.arr (.slice (some ⟨w,0,none⟩) t.others.length x) 3 1 t.others.length ((t.others).map aU).flatten]++((List.range t.basic.length).erase r).map (stE t a r s t.basic.length)) (pkL [0,1,3,0,0,0] Z)<|Pv [0,1,2,3,4,5] [(5,3)] Z kr_ fun R hB y=>Pc 4 Z<|O8 (bkT ah 2) U8<|D.call (FE _ Q.m_ b t.others.length s (.int .i64 n) (.slice (some ⟨o,0,none⟩) t.basic.length p) (.slice (some ⟨k,0,none⟩) t.basic.length l) (.slice (some ⟨w,0,none⟩) t.others.length x) d (.slice (some ⟨z,0,none⟩) t.others.length t.others.length) t.worth (Lp.byL (t.line r) s) av (by rw [sM];exact X) W (ar.le dc_) (am.le dc_)) Z (.inr dc_) U6 (pkL [0,0,0] Z) fl_ fun a1 _ a2 _ aH=>Pd [0,1,2,8] y Z ?_;obtain ⟨-,rfl⟩:=aH;refine G.perm (L':=[.obj b (.cells ⟨[.int .i64 n,.slice (some ⟨o,0,none⟩) t.basic.length p,.slice (some ⟨k,0,none⟩) t.basic.length l,.slice (some ⟨w,0,none⟩) t.others.length x,al (qtx (Lp.putL t.worth s (Lp.byL (t.line r) s)).c),d]⟩ 212 (0,0)),.arr (.slice (some ⟨o,0,none⟩) t.basic.length p) 3 1 t.basic.length ((t.basic).map aU).flatten,.arr (.slice (some ⟨k,0,none⟩) t.basic.length l) 209 2 t.basic.length ((stV t a r s t.basic.length).map bl).flatten,.arr (.slice (some ⟨w,0,none⟩) t.others.length x) 3 1 t.others.length ((t.others).map aU).flatten,.arr d 56 1 t.others.length (((Lp.putL t.worth s (Lp.byL (t.line r) s)).f).map aT).flatten,.arr (.slice (some ⟨z,0,none⟩) t.others.length t.others.length) 56 1 t.others.length (((Lp.byL (t.line r) s).f).map aT).flatten]++((List.range t.basic.length).erase r).map (stE t a r s t.basic.length)) (pkL [1,3,2,2,1] Z)<|Pv [0,1,2,3,4,5,6,7] [] Z kr_ fun R hB y=>Pc 3 Z<|Pe (.head _) U9<|Pa U6<|O8 (bkT ah 2) U8<|PG (r*2) U10 (fun _=>⟨by omega,by omega,Z⟩) U2<|PJ (j:=2) U11 (by show r*2+2<=_;rw [bS fU,ig];omega)<|Pd [0,1,2] y Z<|Po (L':=[.arr (.slice (some ⟨k,0,none⟩) t.basic.length l) 209 2 t.basic.length (((stV t a r s t.basic.length).set r ((Lp.byL (t.line r) s).c,.slice (some ⟨z,0,none⟩) t.others.length t.others.length)).map bl).flatten,.obj b (.cells ⟨[.int .i64 n,.slice (some ⟨o,0,none⟩) t.basic.length p,.slice (some ⟨k,0,none⟩) t.basic.length l,.slice (some ⟨w,0,none⟩) t.others.length x,al (qtx (Lp.putL t.worth s (Lp.byL (t.line r) s)).c),d]⟩ 212 (0,0)),.arr (.slice (some ⟨o,0,none⟩) t.basic.length p) 3 1 t.basic.length ((t.basic).map aU).flatten,.arr (.slice (some ⟨w,0,none⟩) t.others.length x) 3 1 t.others.length ((t.others).map aU).flatten,.arr d 56 1 t.others.length (((Lp.putL t.worth s (Lp.byL (t.line r) s)).f).map aT).flatten,.arr (.slice (some ⟨z,0,none⟩) t.others.length t.others.length) 56 1 t.others.length (((Lp.byL (t.line r) s).f).map aT).flatten]++((List.range t.basic.length).erase r).map (stE t a r s t.basic.length)) (by rw [<- bK fU _ (by rw [ig];exact B)];rfl)<|Pv [0,1,2,3,4,5,6,7,8,9,10,11,12,13,14,15,16,17,18,19,20,21,22,23,24,25,26,27] [] Z kr_ fun R hB y=>Pc 3 Z<|Pe (.tail _ (.head _)) U9<|Pc 4 Z<|Pe (.tail _ (.head _)) U9<|Pc 4 Z<|Pe (.tail _ (.head _)) U9<|Pa U6<|PG (s*1) U10 (fun _=>⟨by omega,by omega,Z⟩) U2<|PT (.tail _ (.tail _ (.tail _ (.head _)))) U6 (fun _=>(by rw [ec gD (show t.others[s]?=some (t.oth s) from vJ W)];rfl)) U2<|Pc 3 Z<|Pe (.tail _ (.head _)) U9<|Pa U6<|PG (r*1) U10 (fun _=>⟨by omega,by omega,Z⟩) U2<|PT (.tail _ (.tail _ (.head _))) U6 (fun _=>(by rw [ec gD (show t.basic[r]?=some (t.bas r) from vJ B)];rfl)) U2<|PG (r*1) U10 (fun _=>⟨by omega,by omega,Z⟩) U2<|PJ (j:=2) U11 (by show r*1+1<=_;rw [bS gD];omega)<|PG (s*1) U10 (fun _=>⟨by omega,by omega,Z⟩) U2<|PJ (j:=3) U11 (by show s*1+1<=_;rw [bS gD];omega)<|P0 [] trivial (y _ _ _ Z ?_);refine G.perm (L':=(eD b n (t.pivot r s) (.slice (some ⟨o,0,none⟩) t.basic.length p) (.slice (some ⟨k,0,none⟩) t.basic.length l) (.slice (some ⟨w,0,none⟩) t.others.length x) d (fun q=>if q=r then (.slice (some ⟨z,0,none⟩) t.others.length t.others.length) else a q)).map Lent.ent) (by
    refine List.Perm.trans ?_ (HY V B);rw [<- bK gD _ B,<- bK gD _ W]
    (exact pkL [3,1,1,0,0,0] rfl)) ?_
   exact P9 Z<|⟨Z,_,Z⟩
theorem sa (h:Lp.Inv p cc t)(b:Lp.Lim p cc 16)(a:i<t.basic.length):LineQ 16 (t.line i):=by
 refine ⟨h.con b a,fun x c=>?_⟩;obtain ⟨s,hs,rfl⟩:=List.mem_iff_getElem.1 c;have d:=gu h.tab.ok a;have h1:=h.fac b a (s:=s) om_;unfold Lp.Line.g at h1;rw [ak,aj hs] at h1;exact h1
theorem mM (h:Lp.Inv p cc t)(a:Lp.Lim p cc 16):LineQ 16 t.worth:=by
 refine ⟨h.wcon a,fun x b=>?_⟩;obtain ⟨s,hs,rfl⟩:=List.mem_iff_getElem.1 b;have c:=h.tab.ok.wl;have h1:=h.wfac a (s:=s) om_;unfold Lp.Line.g at h1;rw [ak,aj hs] at h1;exact h1
theorem LineQ.g0 {k:Nat}(h:LineQ k l)(a:k<=m)(b:1<=m)(j:Nat):QB m (l.g j):=by
 unfold Lp.Line.g;rw [ak];by_cases c:j<l.f.length
 ·rw [aj c];exact (h.2 _ (MP _)).le a
 ·rw [LX om_];exact Lp.qb_zero b
theorem kJ {c:Nat->Prop}(h:Lp.LeastR vs q n o)(e:∀ i,i<n->(q i ↔ c i)):Lp.LeastR vs c n o:=by
 cases h with
 | none h=>exact .none fun i a b=>h i a ((e i a).2 b)
 | some i a b hm=>exact .some i a ((e i a).1 b) fun j d f=>hm j d ((e j d).2 f)
theorem gv (h:Lp.LeastR vs q n o)(a:¬ o<0):∃ i:Nat,o=i/\i<n/\q i/\∀ j,j<n->q j->vs.getD i 0<=vs.getD j 0:=by
 cases h with
 | none h=>exact absurd dc_ a
 | some i b c hm=>exact ⟨i,rfl,b,c,hm⟩
theorem gw (h:Lp.LeastR vs q n o)(a:o<0):∀ i,i<n->¬ q i:=by
 cases h with
 | none h=>exact h
 | some i b c hm=>omega
section
variable {C:Mem} {a a2 b n N:Nat} {r:Int} {t:Lp.Tab} {wB wL wO wW:Value} {wF:Nat->Value}
theorem xm (c:t.Ok N):∀ x∈.obj a2 [.int .i64 r] 3::eD b n t wB wL wO wW wF,x.wf:=fun x a=>by
 rcases Ma.1 a with rfl | a
 ·trivial
 ·exact fB c x a
theorem Du (d:t.Ok N)(j:C a=some (.cells ⟨[.pointer (some ⟨b,0,none⟩)]⟩ 202 (0,0)))(k:∀ i,i<t.basic.length->LineQ 16 (t.line i)) :
  Jog.Fn cx.P 180 [wB,.func (.func 181) #[] #[.pointer (some ⟨a,0,none⟩)]] C ((.obj a2 [.int .i64 r] 3::eD b n t wB wL wO wW wF).map Lent.ent)
   fun u _ e=>(∃ o:Int,u=.int .i64 o/\Lp.LeastR t.basic (fun i=>n<=t.bas i/\(t.line i).c<0) t.basic.length o)/\e=(.obj a2 [.int .i64 r] 3::eD b n t wB wL wO wW wF).map Lent.ent:=by
 refine P7 kr_ _ (xm d) fun C' l hs=>?_;have f:=ei d fun x m=>hs x (LW _ m);refine (mq C' wB t.basic 181 [.pointer (some ⟨a,0,none⟩)] (fun i=>decide (n<=t.bas i) && decide ((t.line i).c<0)) f.B kr_ fun i g D h =>
  Gr D a b n i N t wB wL wO wW _ (f.mono h) d ((l.trans h) _ _ j) g ((k i g).1.le dc_)).mono ?_
 rintro u D e _ ⟨h1,o,rfl,h2⟩;exact ⟨h1,o,Z,kJ h2 fun i _=>by simp⟩
theorem Dt {r:Nat}(c:t.Ok N)(h:C a=some (.cells ⟨[.pointer (some ⟨b,0,none⟩)]⟩ 202 (0,0)))(j:r<t.basic.length)(k:LineQ 16 (t.line r)) :
  Jog.Fn cx.P 180 [wO,.func (.func 182) #[] #[.pointer (some ⟨a,0,none⟩),.pointer (some ⟨a2,0,none⟩)]] C ((.obj a2 [.int .i64 r] 3::eD b n t wB wL wO wW wF).map Lent.ent)
   fun u _ e=>(∃ o:Int,u=.int .i64 o/\Lp.LeastR t.others (fun i=>n<=t.oth i/\0<(t.line r).g i) t.others.length o)/\e=(.obj a2 [.int .i64 r] 3::eD b n t wB wL wO wW wF).map Lent.ent:=by
 refine P7 kr_ _ (xm c) fun C' l hs=>?_;have f:=ei c fun x m=>hs x (LW _ m);have h2:=hs _ (aF ..);refine (mq C' wO t.others 182 [.pointer (some ⟨a,0,none⟩),.pointer (some ⟨a2,0,none⟩)] (fun i=>decide (n<=t.oth i) && decide (0<(t.line r).g i)) f.O kr_ fun i p D d =>
  Gq D a a2 b n i r N t wB wL wO wW _ (f.mono d) c ((l.trans d) _ _ h) (d _ _ h2) j p (k.g0 dc_ dc_ i)).mono ?_
 rintro u D e _ ⟨h1,o,rfl,h2⟩;exact ⟨h1,o,Z,kJ h2 fun i _=>by simp⟩
end
inductive FeasO (p:Lp.Sys) (t:Lp.Tab):Value->Prop where
 | yes:t.Feas p.n->FeasO p t (.tuple #[.int .i64 0,.bool true])
 | no (r:Nat):r<t.basic.length->p.n<=t.bas r->(t.line r).c<0->(∀ s,s<t.others.length->p.n<=t.oth s->(t.line r).g s<=0)->FeasO p t (.tuple #[.int .i64 r,.bool false])
theorem wa (C:Mem)(X:Tabs C)(p:Lp.Sys)(A:Nat->Rat)(b:Nat)(d:Lp.Tab)(e h k l:Value)(B:Nat->Value)(q:Lp.Inv p A d)(a:Lp.Rel p.n d p.n)(S:Lp.Lim p A 16)(Y:p.m<=1000000)(hn:p.n<=1000000) :
  Jog.Fn cx.P 116 [.pointer (some ⟨b,0,none⟩)] C ((eD b p.n d e h k l B).map Lent.ent) fun u _ w=>∃ t wF,Lp.Inv p A t/\Lp.Rel p.n t p.n/\FeasO p t u/\w=(eD b p.n t e h k l wF).map Lent.ent:=by
 have ak:maxLen<=9223372036854775807:=by simp [maxLen]
 refine Ph func116 26 U3 fun w0=>?_;refine Pb fun R a=>?_;refine Pr U6 (fun b1=>?_);refine Pq U5 (fun v=>?_);refine C4 1 [1,2] a Z ?_;clear a R;refine G.freeze 1 Z (fun _ _ x=>?_);refine Po (L':=[.obj v (.cells ⟨[.int .i64 0]⟩ 3 (0,0)),.obj b (.cells ⟨[.int .i64 p.n,e,h,k,al (qtx d.worth.c),l]⟩ 212 (0,0)),.arr e 3 1 d.basic.length ((d.basic).map aU).flatten,.arr h 209 2 d.basic.length ((cC d B).map bl).flatten,.arr k 3 1 d.others.length ((d.others).map aU).flatten,.arr l 56 1 d.others.length ((d.worth.f).map aT).flatten]++(List.range d.basic.length).map (stE d B 0 0 0)) (by rw [aY 0 0];rfl) ?_;refine G.loop (fun fr C' w μ=>∃ (t:Lp.Tab)(wF:Nat->Value)(o:Int)(E:Nat),(Lp.Inv p A t/\Lp.Rel p.n t p.n/\∀ K,Lp.Reach (Lp.FeasP p.n) t K->K<=E)/\fr=[(1,[],.pointer (some ⟨b1,0,none⟩)),(2,[],.pointer (some ⟨v,0,none⟩))]/\w=[.obj v (.cells ⟨[.int .i64 o]⟩ 3 (0,0)),.obj b (.cells ⟨[.int .i64 p.n,e,h,k,al (qtx t.worth.c),l]⟩ 212 (0,0)),.arr e 3 1 t.basic.length ((t.basic).map aU).flatten,.arr h 209 2 t.basic.length ((cC t wF).map bl).flatten,.arr k 3 1 t.others.length ((t.others).map aU).flatten,.arr l 56 1 t.others.length ((t.worth.f).map aT).flatten]++(List.range t.basic.length).map (stE t wF 0 0 0)/\μ=E) (hn_ [1,2] Z) ⟨d,B,0,2 ^ (p.n+p.m),⟨q,a,fun K F=>Lp.feas_len q.tab.ok F⟩,Z,Z,Z⟩ (fun fr am an m _ q=>?_);obtain ⟨t,wF,o,E,⟨q,a,F⟩,rfl,rfl,rfl⟩:=q;have ok:=q.tab.ok;have aa:t.basic.length<=1000000:=by rw [q.tab.lb];exact Y
 have ab:t.others.length<=1000000:=by rw [q.tab.lo];exact hn
 have H:∀ i,i<t.basic.length->LineQ 16 (t.line i):=fun i y=>sa q S y;refine Px [(5,3)] Z (fun R a=>?_);refine O8 (bkT x 1) U8 ?_;refine Pc 2 Z ?_;refine Pe (.tail _ (.head _)) U9 ?_;refine Pa U6 ?_;refine D.call (Du ok (Mem.get x mup) H) Z (.inr dc_) U6 (show List.Perm _ (((.obj v [.int .i64 o] 3::eD b p.n t e h k l wF).map Lent.ent)++[]) from List.Perm.of_eq (by rw [Mi,Mp,aY 0 0];rfl)) fl_ (fun ao _ ap _ ac=>?_);obtain ⟨⟨o1,rfl,T⟩,rfl⟩:=ac;refine Pg (j:=0) U12 ?_;refine Pd [1,2] a Z ?_;clear a R;refine Po (L':=[.obj v (.cells ⟨[.int .i64 o1]⟩ 3 (0,0)),.obj b (.cells ⟨[.int .i64 p.n,e,h,k,al (qtx t.worth.c),l]⟩ 212 (0,0)),.arr e 3 1 t.basic.length ((t.basic).map aU).flatten,.arr h 209 2 t.basic.length ((cC t wF).map bl).flatten,.arr k 3 1 t.others.length ((t.others).map aU).flatten,.arr l 56 1 t.others.length ((t.worth.f).map aT).flatten]++(List.range t.basic.length).map (stE t wF 0 0 0)) (by rw [Mi,Mp,aY 0 0];rfl) ?_;refine Pb fun R a=>?_;refine Pe (.head _) U9 ?_;refine C4 1 [1,2,12] a Z ?_;clear a R;refine O9 (fun I=>?_) fun I=>?_
 ·have J:o1<0:=K5 I;have L:=gw T J;refine Pb fun R a=>?_;refine Pg (j:=0) U12 ?_;refine C4 1 [2,3] a Z ?_;clear a R;refine Pl (Q2 0 Z Z Z Z Z Z ?_);exact ⟨t,wF,q,a,.yes (fun i y z=>by have:=L i y;grind),by rw [aY 0 0];rfl⟩
 ·have J:¬ o1<0:=LS I;obtain ⟨r,rfl,hr,⟨M,U⟩,ad⟩:=gv T J;refine Px [(5,3)] Z (fun R a=>?_);refine O8 (bkT x 1) U8 ?_;refine Pc 2 Z ?_;refine Pe (.tail _ (.head _)) U9 ?_;refine Pa U6 ?_;refine D.call (Dt ok (Mem.get x mup) hr (H r hr)) Z (.inr dc_) U6 (show List.Perm _ (((.obj v [.int .i64 (r:Nat)] 3::eD b p.n t e h k l wF).map Lent.ent)++[]) from List.Perm.of_eq (by rw [Mi,Mp,aY 0 0];rfl)) fl_ (fun aq _ ar _ ae=>?_);refine C4 1 [1,2,4] a Z ?_;clear a R;obtain ⟨⟨o2,rfl,V⟩,rfl⟩:=ae;refine Po (L':=[.obj v (.cells ⟨[.int .i64 (r:Nat)]⟩ 3 (0,0)),.obj b (.cells ⟨[.int .i64 p.n,e,h,k,al (qtx t.worth.c),l]⟩ 212 (0,0)),.arr e 3 1 t.basic.length ((t.basic).map aU).flatten,.arr h 209 2 t.basic.length ((cC t wF).map bl).flatten,.arr k 3 1 t.others.length ((t.others).map aU).flatten,.arr l 56 1 t.others.length ((t.worth.f).map aT).flatten]++(List.range t.basic.length).map (stE t wF 0 0 0)) (by rw [Mi,Mp,aY 0 0];rfl) ?_;refine C6 2 [1,2,4,20] Z ?_;refine O9 (fun N=>?_) fun N=>?_
  ·have O:o2<0:=K5 N;have L:=gw V O;refine Pb fun R a=>?_;refine Pe (.head _) U9 ?_;refine Pg (j:=0) U12 ?_;refine C4 1 [2,3] a Z ?_;clear a R;refine Pl (Q2 0 Z Z Z Z Z Z ?_);exact ⟨t,wF,q,a,.no r hr M U (fun s hs z=>by have:=L s hs;grind),by rw [aY 0 0];rfl⟩
  ·have O:¬ o2<0:=LS N;obtain ⟨s,rfl,hs,⟨af,ag⟩,ah⟩:=gv V O;have hP:Lp.FeasP p.n t r s:=⟨hr,hs,M,af,U,fun i y z hc=>ad i y ⟨z,hc⟩,ag,fun j hj z hg=>ah j hj ⟨z,hg⟩⟩;have W:(t.line r).g s≠0:=by grind
   obtain ⟨au,ai⟩:=Lp.Reach.fall hP F;refine Px [(3,3)] Z (fun R a=>?_);refine O8 (bkT x 1) U8 ?_;refine Pe (.head _) U9 ?_;refine Pa U6 ?_;refine D.call (rM _ X.m_ b p.n r s (p.n+p.m) t e h k l wF ok aa ab hr hs W H (mM q S)) Z (.inr dc_) U6 (by rw [aY 0 0];exact (List.perm_append_singleton _ _).symm) fl_ (fun av _ aw _ aj=>?_);refine Pd [1,2] a Z ?_;clear a R;obtain ⟨-,Q,rfl⟩:=aj;refine G.perm (L':=[.obj v (.cells ⟨[.int .i64 (r:Nat)]⟩ 3 (0,0)),.obj b (.cells ⟨[.int .i64 p.n,e,h,k,al (qtx (t.pivot r s).worth.c),l]⟩ 212 (0,0)),.arr e 3 1 (t.pivot r s).basic.length (((t.pivot r s).basic).map aU).flatten,.arr h 209 2 (t.pivot r s).basic.length ((cC (t.pivot r s) Q).map bl).flatten,.arr k 3 1 (t.pivot r s).others.length (((t.pivot r s).others).map aU).flatten,.arr l 56 1 (t.pivot r s).others.length (((t.pivot r s).worth.f).map aT).flatten]++(List.range (t.pivot r s).basic.length).map (stE (t.pivot r s) Q 0 0 0)) (by rw [aY 0 0];exact List.perm_append_singleton _ _) ?_;refine Pk (m':=m-1) om_ mup (hn_ [1,2] Z) ⟨t.pivot r s,Q,(r:Int),m-1,⟨q.pivot hr hs W,Lp.rel_pivot ok a hr hs M,ai⟩,Z,Z,Z⟩
section
variable {C:Mem} {a b n N:Nat} {t:Lp.Tab} {wB wL wO wW:Value} {wF:Nat->Value}
theorem Dr (c:t.Ok N)(h:C a=some (.cells ⟨[.pointer (some ⟨b,0,none⟩)]⟩ 202 (0,0))) :
  Jog.Fn cx.P 180 [wO,.func (.func 183) #[] #[.pointer (some ⟨a,0,none⟩)]] C ((eD b n t wB wL wO wW wF).map Lent.ent)
   fun u _ d=>(∃ o:Int,u=.int .i64 o/\Lp.LeastR t.others (fun i=>¬ n<=t.oth i/\¬ t.worth.g i=0) t.others.length o)/\d=(eD b n t wB wL wO wW wF).map Lent.ent:=by
 refine P7 kr_ _ (fB c) fun C' j hs=>?_;have e:=ei c hs;refine (mq C' wO t.others 183 [.pointer (some ⟨a,0,none⟩)] (fun i=>!decide (n<=t.oth i) && !decide (t.worth.g i=0)) e.O kr_ fun i k D f =>
  IK D a b n i N t wB wL wO wW _ (e.mono f) c ((j.trans f) _ _ h) k).mono ?_
 rintro u D d _ ⟨h1,o,rfl,h2⟩;exact ⟨h1,o,Z,kJ h2 fun i _=>by simp⟩
theorem Dq (c:t.Ok N)(h:C a=some (.cells ⟨[.pointer (some ⟨b,0,none⟩)]⟩ 202 (0,0)))(j:LineQ 16 t.worth) :
  Jog.Fn cx.P 180 [wO,.func (.func 184) #[] #[.pointer (some ⟨a,0,none⟩)]] C ((eD b n t wB wL wO wW wF).map Lent.ent)
   fun u _ d=>(∃ o:Int,u=.int .i64 o/\Lp.LeastR t.others (fun i=>n<=t.oth i/\t.worth.g i<0) t.others.length o)/\d=(eD b n t wB wL wO wW wF).map Lent.ent:=by
 refine P7 kr_ _ (fB c) fun C' k hs=>?_;have e:=ei c hs;refine (mq C' wO t.others 184 [.pointer (some ⟨a,0,none⟩)] (fun i=>decide (n<=t.oth i) && decide (t.worth.g i<0)) e.O kr_ fun i l D f =>
  IJ D a b n i N t wB wL wO wW _ (e.mono f) c ((k.trans f) _ _ h) l (j.g0 dc_ dc_ i)).mono ?_
 rintro u D d _ ⟨h1,o,rfl,h2⟩;exact ⟨h1,o,Z,kJ h2 fun i _=>by simp⟩
theorem Dp {s:Nat}(f:Tabs C)(a:t.Ok N)(d:s<t.others.length)(e:∀ i,i<t.basic.length->LineQ 16 (t.line i)) :
  Jog.Fn cx.P 185 [.pointer (some ⟨b,0,none⟩),.int .i64 s] C ((eD b n t wB wL wO wW wF).map Lent.ent)
   fun u _ h=>(∃ o:Int,u=.int .i64 o/\Lp.LeaveR n t s t.basic.length o)/\h=(eD b n t wB wL wO wW wF).map Lent.ent :=
 P7 kr_ _ (fB a) fun C' j k=>F9 C' (f.mono j) b n s N t wB wL wO wW _ (ei a k) a d fun i c=>⟨(e i c).1,(e i c).g (by rw [gu a c];exact d)⟩
end
theorem vP (h:Lp.LeaveR F t s n o)(a:o<0):∀ i,i<n->F<=t.bas i->0<=(t.line i).g s:=by
 cases h with
 | none h=>exact h
 | some r _ _ _ _=>omega
theorem vN (h:Lp.LeaveR F t s n o)(a:¬ o<0):∃ r:Nat,o=r/\r<n/\F<=t.bas r/\(t.line r).g s<0 /\
  ∀ i,i<n->F<=t.bas i->(t.line i).g s<0->(t.line r).c / -(t.line r).g s<(t.line i).c / -(t.line i).g s∨(t.line r).c / -(t.line r).g s=(t.line i).c / -(t.line i).g s/\t.bas r<=t.bas i:=by
 cases h with
 | none h=>exact absurd dc_ a
 | some r h1 h2 h3 h4=>exact ⟨r,rfl,h1,h2,h3,h4⟩
inductive MinO (p:Lp.Sys) (t:Lp.Tab):Value->Prop where
 | yes:Lp.RelW p.n t->(∀ s,s<t.others.length->p.n<=t.oth s->0<=t.worth.g s)->MinO p t (.tuple #[.int .i64 0,.bool true])
 | no (s:Nat):s<t.others.length->jN t s*t.worth.g s<0->(∀ i,i<t.basic.length->p.n<=t.bas i->0<=jN t s*(t.line i).g s)->(p.n<=t.oth s->0<=jN t s)->MinO p t (.tuple #[.int .i64 s,.bool false])
theorem vK (C:Mem)(U:Tabs C)(p:Lp.Sys)(F:Nat->Rat)(b:Nat)(a:Lp.Tab)(e k l o:Value)(v:Nat->Value)(q:Lp.Inv p F a)(d:Lp.Rel p.n a p.n)(A:a.Feas p.n)(V:Lp.Lim p F 16)(hm:p.m<=1000000)(hn:p.n<=1000000) :
  Jog.Fn cx.P 118 [.pointer (some ⟨b,0,none⟩)] C ((eD b p.n a e k l o v).map Lent.ent) fun u _ w=>∃ t wF,Lp.Inv p F t/\t.Feas p.n/\MinO p t u/\w=(eD b p.n t e k l o wF).map Lent.ent:=by
 have av:maxLen<=9223372036854775807:=by simp [maxLen]
 refine Ph func118 32 U3 fun w0=>?_;refine Pb fun R d=>?_;refine Pr U6 (fun b1=>?_);refine C4 2 [1] d Z ?_;clear d R;refine G.freeze 0 Z (fun _ _ B=>?_);refine Po (L':=[.obj b (.cells ⟨[.int .i64 p.n,e,k,l,al (qtx a.worth.c),o]⟩ 212 (0,0)),.arr e 3 1 a.basic.length ((a.basic).map aU).flatten,.arr k 209 2 a.basic.length ((cC a v).map bl).flatten,.arr l 3 1 a.others.length ((a.others).map aU).flatten,.arr o 56 1 a.others.length ((a.worth.f).map aT).flatten]++(List.range a.basic.length).map (stE a v 0 0 0)) (by rw [aY 0 0];rfl) ?_;refine Px [(5,3)] Z (fun R d=>?_);refine O8 (bkT B 1) U8 ?_;refine Pc 2 Z ?_;refine Pe (.head _) U9 ?_;refine Pa U6 ?_;refine D.call (Dr q.tab.ok (Mem.get B mup)) Z (.inr dc_) U6 (show List.Perm _ (((eD b p.n a e k l o v).map Lent.ent)++[]) from List.Perm.of_eq (by rw [Mi,aY 0 0])) fl_ (fun aw _ ax _ af=>?_);refine C4 1 [1,2] d Z ?_;clear d R;obtain ⟨⟨W,rfl,X⟩,rfl⟩:=af;refine Po (L':=[.obj b (.cells ⟨[.int .i64 p.n,e,k,l,al (qtx a.worth.c),o]⟩ 212 (0,0)),.arr e 3 1 a.basic.length ((a.basic).map aU).flatten,.arr k 209 2 a.basic.length ((cC a v).map bl).flatten,.arr l 3 1 a.others.length ((a.others).map aU).flatten,.arr o 56 1 a.others.length ((a.worth.f).map aT).flatten]++(List.range a.basic.length).map (stE a v 0 0 0)) (by rw [Mi,aY 0 0]) ?_;refine C6 2 [1,2,12] Z ?_;refine O9 (fun H=>?_) fun H=>?_
 ·have y:¬ W<0:=by
   have:=K5 H;omega
  obtain ⟨s,rfl,hs,⟨I,Y⟩,_⟩:=gv X y;have ag:jN a s*a.worth.g s<0:=by
   unfold jN;split <;> grind
  refine C6 3 [2,3] Z ?_;refine Pl (PE U3 ?_);refine ⟨a,v,q,A,.no s hs ag (fun i z x=>?_) (fun h=>absurd h I),by rw [aY 0 0]⟩;rw [d s (by rw [<- q.tab.lo];exact hs) hs om_ i z x,Rat.mul_zero];exact Rat.le_refl
 ·have y:W<0:=by
   have:=LS H;omega
  have E:=gw X y;have ah:Lp.RelW p.n a:=fun s hs ay=>by
   have:=E s hs;have h2:¬ p.n<=a.oth s:=by omega
   grind
  refine G.loop (fun fr C' w μ=>∃ (t:Lp.Tab)(wF:Nat->Value)(J:Nat),(Lp.Inv p F t/\Lp.Rel p.n t p.n/\t.Feas p.n/\Lp.RelW p.n t/\∀ K,Lp.Reach (Lp.MinP p.n) t K->K<=J)/\fr=[(1,[],.pointer (some ⟨b1,0,none⟩))]/\w=[.obj b (.cells ⟨[.int .i64 p.n,e,k,l,al (qtx t.worth.c),o]⟩ 212 (0,0)),.arr e 3 1 t.basic.length ((t.basic).map aU).flatten,.arr k 209 2 t.basic.length ((cC t wF).map bl).flatten,.arr l 3 1 t.others.length ((t.others).map aU).flatten,.arr o 56 1 t.others.length ((t.worth.f).map aT).flatten]++(List.range t.basic.length).map (stE t wF 0 0 0)/\μ=J) (hn_ [1] Z) ⟨a,v,2 ^ (p.n+p.m),⟨q,d,A,ah,fun K L=>Lp.min_len q.tab.ok L⟩,Z,Z,Z⟩ (fun fr az aA m _ q=>?_);obtain ⟨t,wF,J,⟨q,d,A,hW,L⟩,rfl,rfl,rfl⟩:=q;have ok:=q.tab.ok;have ai:t.basic.length<=1000000:=by rw [q.tab.lb];exact hm
  have aj:t.others.length<=1000000:=by rw [q.tab.lo];exact hn
  have hq:∀ i,i<t.basic.length->LineQ 16 (t.line i):=fun i z=>sa q V z;have aa:=mM q V;refine Px [(5,3)] Z (fun R d=>?_);refine O8 (bkT B 1) U8 ?_;refine Pc 2 Z ?_;refine Pe (.head _) U9 ?_;refine Pa U6 ?_;refine D.call (Dq ok (Mem.get B mup) aa) Z (.inr dc_) U6 (show List.Perm _ (((eD b p.n t e k l o wF).map Lent.ent)++[]) from List.Perm.of_eq (by rw [Mi,aY 0 0])) fl_ (fun aB _ aD _ ak=>?_);refine C4 1 [1,2] d Z ?_;clear d R;obtain ⟨⟨o1,rfl,ab⟩,rfl⟩:=ak;refine Po (L':=[.obj b (.cells ⟨[.int .i64 p.n,e,k,l,al (qtx t.worth.c),o]⟩ 212 (0,0)),.arr e 3 1 t.basic.length ((t.basic).map aU).flatten,.arr k 209 2 t.basic.length ((cC t wF).map bl).flatten,.arr l 3 1 t.others.length ((t.others).map aU).flatten,.arr o 56 1 t.others.length ((t.worth.f).map aT).flatten]++(List.range t.basic.length).map (stE t wF 0 0 0)) (by rw [Mi,aY 0 0]) ?_;refine C6 2 [1,2,21] Z ?_;refine O9 (fun M=>?_) fun M=>?_
  ·have y:o1<0:=K5 M;have E:=gw ab y;refine C6 2 [2,3] Z ?_;refine Pl (PE U3 ?_);exact ⟨t,wF,q,A,.yes hW (fun s hs x=>by have:=E s hs;grind),by rw [aY 0 0]⟩
  ·have y:¬ o1<0:=LS M;obtain ⟨s,rfl,hs,⟨I,Y⟩,am⟩:=gv ab y;refine Px [(2,3)] Z (fun R d=>?_);refine O8 (bkT B 1) U8 ?_;refine Pa U6 ?_;refine D.call (Dp U.m_ ok hs hq) Z (.inr dc_) U6 (show List.Perm _ (((eD b p.n t e k l o wF).map Lent.ent)++[]) from List.Perm.of_eq (by rw [Mi,aY 0 0])) fl_ (fun aE _ aF _ an=>?_);refine C4 1 [1,2,4] d Z ?_;clear d R;obtain ⟨⟨o2,rfl,ac⟩,rfl⟩:=an;refine Po (L':=[.obj b (.cells ⟨[.int .i64 p.n,e,k,l,al (qtx t.worth.c),o]⟩ 212 (0,0)),.arr e 3 1 t.basic.length ((t.basic).map aU).flatten,.arr k 209 2 t.basic.length ((cC t wF).map bl).flatten,.arr l 3 1 t.others.length ((t.others).map aU).flatten,.arr o 56 1 t.others.length ((t.worth.f).map aT).flatten]++(List.range t.basic.length).map (stE t wF 0 0 0)) (by rw [Mi,aY 0 0]) ?_;refine C6 2 [1,2,4,26] Z ?_;refine O9 (fun N=>?_) fun N=>?_
   ·have O:o2<0:=K5 N;have E:=vP ac O;have Q:jN t s=1:=by
     unfold jN;rw [aC (by grind)]
    refine C6 3 [2,3] Z ?_;refine Pl (PE U3 ?_);refine ⟨t,wF,q,A,.no s hs (by rw [Q];grind) (fun i z x=>?_) (fun _=>by rw [Q];decide),by rw [aY 0 0]⟩;rw [Q];have:=E i z x;grind
   ·have O:¬ o2<0:=LS N;obtain ⟨r,rfl,hr,S,ao,ap⟩:=vN ac O;have hP:Lp.MinP p.n t r s:=⟨hr,hs,S,I,Y,fun j hj x hg=>am j hj ⟨x,hg⟩,ao,ap,A⟩;have ad:(t.line r).g s≠0:=by grind
    obtain ⟨aG,aq⟩:=Lp.Reach.fall hP L;refine Px [(3,3)] Z (fun R d=>?_);refine O8 (bkT B 1) U8 ?_;refine Pc 2 Z ?_;refine D.call (rM _ U.m_ b p.n r s (p.n+p.m) t e k l o wF ok ai aj hr hs ad hq aa) Z (.inr dc_) U6 (show List.Perm _ (((eD b p.n t e k l o wF).map Lent.ent)++[]) from List.Perm.of_eq (by rw [Mi,aY 0 0])) fl_ (fun aH _ aI _ ar=>?_);refine Pd [1] d Z ?_;clear d R;obtain ⟨-,T,rfl⟩:=ar;refine Po (L':=[.obj b (.cells ⟨[.int .i64 p.n,e,k,l,al (qtx (t.pivot r s).worth.c),o]⟩ 212 (0,0)),.arr e 3 1 (t.pivot r s).basic.length (((t.pivot r s).basic).map aU).flatten,.arr k 209 2 (t.pivot r s).basic.length ((cC (t.pivot r s) T).map bl).flatten,.arr l 3 1 (t.pivot r s).others.length (((t.pivot r s).others).map aU).flatten,.arr o 56 1 (t.pivot r s).others.length (((t.pivot r s).worth.f).map aT).flatten]++(List.range (t.pivot r s).basic.length).map (stE (t.pivot r s) T 0 0 0)) (by rw [Mi,aY 0 0]) ?_;refine Pk (m':=m-1) om_ mup (hn_ [1] Z) ⟨t.pivot r s,T,m-1,⟨q.pivot hr hs ad,Lp.rel_pivot ok d hr hs S,Lp.min_feas ok hP,Lp.relw_pivot ok (fun s' ae au i z x=>d s' (by rw [<- q.tab.lo];exact ae) ae au i z x) hW hr hs S,aq⟩,Z,Z,Z⟩
end Go.Proofs.YthnpijdjlddpmaaGreatDoor
namespace Go.Jog
open Go
theorem QF {F:Fx}{k:List KI}{d:Fr}{C:Mem}{L:List Ent}{e:Exit}(j:Nat){v:Value}{t s m:Nat}{f:List Value}(l:L[j]?=some (.arr v t s m f))
  (h:∀ A c,v=.slice A m c->(0<m->A=some ⟨(A.getD ⟨0,0,none⟩).block,0,none⟩)->m<=c->c<=maxLen->G F k e d C L):G F k e d C L:=fun h0 a w i b=>by
 have n:=St.perm b (ae l);have o:w.ownsRow 0 t s v m f:=n.sep.e _ (aF ..);rcases o.2 with ⟨h1,h2⟩ | ⟨g,p,q,h1,_,_,h3,h4,_⟩
 ·subst h2;exact h _ _ h1 (fun h=>absurd h om_) om_ (LV _) h0 a w i b
 ·exact h _ _ h1 fl_ h3 h4 h0 a w i b
theorem Qg {F:Fx}{k:List KI}{g:Fr}{e:Exit}:∀ (ls:List Lent){C:Mem}{L2:List Ent},(∀ x∈ls,x.wf)->(∀ C',C.le C'->(∀ x∈ls,x.seen C')->G F k e g C' L2)->G F k e g C (ls.map Lent.ent++L2)
 | [],C,_,_,h=>h C (Mem.le.refl C) fun x a=>by cases a
 | .obj b cs t::ls,C,L2,c,h=>by
  refine G.freeze 0 Z fun C1 h1 d=>Qg ls (fun x a=>c x (LW _ a)) fun f h2 hs=>h f (h1.trans h2) fun x a=>?_;rcases Ma.1 a with rfl | a
  ·exact h2 _ _ d
  ·exact hs x a
 | .arr v m s t rows::ls,C,L2,c,h=>by
  have i:=c _ aF;refine G.freezeArr 0 rows Z Z i.2 i.1 fun C1 h1 d=>Qg ls (fun x a=>c x (LW _ a)) fun f h2 hs=>h f (h1.trans h2) fun x a=>?_;rcases Ma.1 a with rfl | a
  ·exact Sl.mono d h2
  ·exact hs x a
section
variable {cx:Cx} {n:Nat} {ds:List (Option Nat)} {R:Rg n ds} {its:List It} {fr:Fr} {C:Mem} {L:List Ent} {i k d:Nat} {o:Oper} {g:GL} {v:Value}
theorem Rh (b c:Nat){t e j r l:Nat}{A:Option Addr}{x y:Operand}{s:IntKind}{m:Int}{f p:TI}(u:Nat.ble k 1=true)(v:o.dst=some d)(z:o.op=.indexAddr t x y)
  (B:gOf ds fr o.guard=some g) (E:ev fr g x=some (.slice A j r)) (F:ev fr g y=some (.int s m)) (G:cx.T.get t=some f) (q:f.k=.slice e) (H:cx.T.get e=some p) (I:p.size=l)
  (J:GT ds fr g->A=some ⟨b,0,none⟩/\0<=m/\m<j/\c=m.toNat*l) (K:aO n ds ((d,g,.pointer (some ⟨b,c,none⟩))::fr) d=true) (M:wfG ds fr g=true)
  (h:D cx R its ((d,g,.pointer (some ⟨b,c,none⟩))::fr) C L):D cx R ((i,k,o)::its) fr C L:=by
 have N:cx.P.underlying t=some (.slice e):=by
  obtain ⟨V,W,X,Y,Z⟩:=f;simp only at q;subst q;exact ck cx.hT G
 refine D.run _ u v B (fun O a hs w=>?_) K M h;obtain ⟨rfl,Q,S,rfl⟩:=J O;have U:execOp a.eval o=(do Pure.pure (.value (<- Instr.indexAt t (a.eval x) (a.eval y))):Sem Next):=by unfold execOp;rw [z]
 rw [U,hs _ _ E,hs _ _ F];have h2:=dI cx.hT H w;rw [I] at h2;simp [Instr.indexAt,asIntOf,run_underlying N,h2,Q,S,Addr.add_lit]
theorem Ra {t c f e q r m s:Nat}{A:Option Addr}{x:Operand}{l:List Value}{p:TI}(z:Ent.arr (.slice A m s) e q r l∈L)(y:k=1)(B:o.dst=some d)(E:o.op=.load t x)(F:gOf ds fr o.guard=some g)(G:ev fr g x=some (.pointer (some ⟨c,f,none⟩)))
  (H:cx.T.get t=some p) (I:GT ds fr g->A=some ⟨c,0,none⟩/\cQ p ((l.drop f).take p.size)=some v) (J:aO n ds ((d,g,v)::fr) d=true) (K:wfG ds fr g=true)
  (h:D cx R its ((d,g,v)::fr) C L):D cx R ((i,k,o)::its) fr C L :=
 PO (by subst y;rfl) B F J K (fun M a hs aa N w O=>by
  obtain ⟨Q,S⟩:=I M;subst Q;have U:w.ownsRow 0 e q (.slice (some ⟨c,0,none⟩) m s) r l:=O.sep.e _ ((N y).2 _ z);obtain ⟨_,_,_,ab,V,_,W⟩:=cG U;have X:∀ j u,((l.drop f).take p.size)[j]?=some u->w.cell? ((⟨c,f,none⟩:Addr).add j)=some u:=fun j u b=>by
   rw [Addr.add_lit,cell_of_row w c (f+j) _ e (0,0) V];rw [Mz] at b;split at b
   ·rw [List.getElem?_drop,<- W,Mz] at b;split at b
    ·simpa using b
    ·cases b
   ·cases b
  have Y:(execOp a.eval o).run cx.P w=.ok (.value v) w:=by
   have e1:execOp a.eval o=(do Pure.pure (.value (<- Instr.loadAt t (a.eval x))):Sem Next):=by unfold execOp;rw [E]
   rw [e1,hs _ _ G];simp only [Instr.loadAt,Instr.sureAddr,Sem.run_bind,Sem.run_pure,Result.andThen_ok];rw [dS cx.hT H X S];rfl
  unfold Oper.quietAt;rw [Y];exact ⟨Z,Z⟩) h
theorem Qv {f:Operand}{e:Array Operand}{t:Array TypeId}{j:FuncId}{l m:Array Value}{p q:List Value}{x:Ent}(z:x∈L)(c:GT ds fr g->Fn cx.P j q C [x] fun u _ A=>u=v/\A=[x])(B:Z9 k 1 o.dst (some d) (gOf ds fr o.guard) (some g) o.op (.call ⟨.value f,e,t⟩) (ev fr g f) (some (.func (.func j) l m)) (jm (ev fr g) e.toList) (some p) (l.toList++p++m.toList) q (aO n ds ((d,g,v)::fr) d) true (wfG ds fr g) true)(h:D cx R its ((d,g,v)::fr) C L):D cx R ((i,k,o)::its) fr C L :=
 have ⟨b,E,F,G,H,I,J,K,M⟩:=B;PO (by subst b;rfl) E F K M (fun r a hs O s w N=>by
  unfold Oper.quietAt;rw [mb G (hs _ _ H) (dG (fun x y=>hs x y) I) J (c r).1 w];exact ⟨Z,(c r).quiet1 (s b).1 ((s b).2 _ z) N⟩) h
end
end Go.Jog
namespace Go.Proofs.YthnpijdjlddpmaaGreatDoor
open Tryz
open Go Go.Jog
set_option maxRecDepth 100000
variable {b i n:Nat}{o:Int}{ob:List Rat}{q:Nat->Prop}{r:List Rat × Rat}{rs:List (List Rat × Rat)}{t:Lp.Tab}{w wB:Value}{wF:Nat->Value}{wL wO wW:Value}
theorem KH (C:Mem)(v:Value)(l:List Nat)(b:Sl C 1 v (l.map aU))(t:l.length<=1000000):Jog.Fn cx.P 50 [v] C [] fun u _w e=>∃ A n c,u=.slice A n c/\e=[.arr (.slice A n c) 3 1 l.length (l.map aU).flatten]:=by
 obtain ⟨f,c0,rfl,m,x,y,o⟩:=id b;have z:maxLen<=9223372036854775807:=by simp [maxLen]
 simp only [ax] at b m ⊢;refine Ph func50 8 U3 fun w0=>C6 1 [0] Z<|O7 1 Z fun R d=>Qy U9<|Pd [0,4] d Z<|O9 (fun h4=>?_) fun h4=>?_
 ·have p:f=none:=by
   cases f with
   | none=>rfl
   | some a=>cases h4
  have s:l=[]:=by
   cases l with
   | nil=>rfl
   | cons q r =>
    obtain ⟨a,g,_⟩:=o 0 (aU q) rfl;rw [p] at g;cases g
  refine C6 1 [2] Z<|G.nilArr 3 1<|Pl (PM Z Z ?_);exact ⟨none,0,0,Z,by rw [s];rfl⟩
 ·refine Pb fun R d=>Qo [] U12 fl_ fun B=>Pa U6<|Pu (j:=0) U11 b.m_ (by simp [aU,nT]) (by simp only [ax,MM,maxLen];omega) (by simp only [ax,MM];omega) fl_ fun h i k=>C4 1 [2] d Z<|Po (L':=[.arr (.slice h i k) 3 1 l.length (l.map aU).flatten]) (by simp)<|Pl (PM Z Z ?_);exact ⟨h,i,k,Z,Z⟩
theorem If (C:Mem)(b s:Nat)(q:Rat)(w:Value)(l:List Rat)(c:Sl C 1 w (l.map aT))(d:C b=some (.cells ⟨[.int .i64 s]⟩ 3 (0,0)))(e:s<l.length) :
  Gives cx.P 176 [.agg ⟨[al (qtx q),w]⟩,.pointer (some ⟨b,0,none⟩)] C (.bool (!decide (l.getD s 0=0))):=by
 obtain ⟨h,i,rfl,j,k,_⟩:=id c;have m:maxLen<=9223372036854775807:=by simp [maxLen]
 refine Ph func176 10 U3 fun w0=>Pb fun R a=>Pr U6 fun n=>C4 1 [1,2] a Z<|G.freeze 0 Z fun _ _ f=>O7 1 Z fun R a=>O8 (bkT f 1) U8<|O8 (bkT d 1) U8<|Pm c.m_ U10 om_ (de e) fl_ fun o g=>O8 g U8<|C4 2 [3] a Z<|Pf U2<|⟨?_,Z⟩;show Value.bool _=Value.bool _;congr 1;show (!((⟨(qtx (l.getD s 0)).toArray⟩:ByteArray).data.toList == (⟨#[48]⟩:ByteArray).data.toList))=_;rw [fw]
theorem Ie (C:Mem)(b s:Nat)(q:Rat)(w:Value)(l:List Rat)(c:Sl C 1 w (l.map aT))(d:C b=some (.cells ⟨[.int .i64 s]⟩ 3 (0,0)))(e:s<l.length) :
  Gives cx.P 178 [.agg ⟨[al (qtx q),w]⟩,.pointer (some ⟨b,0,none⟩)] C (.bool (!decide (l.getD s 0=0))):=by
 obtain ⟨h,i,rfl,j,k,_⟩:=id c;have m:maxLen<=9223372036854775807:=by simp [maxLen]
 refine Ph func178 10 U3 fun w0=>Pb fun R a=>Pr U6 fun n=>C4 1 [1,2] a Z<|G.freeze 0 Z fun _ _ f=>O7 1 Z fun R a=>O8 (bkT f 1) U8<|O8 (bkT d 1) U8<|Pm c.m_ U10 om_ (de e) fl_ fun o g=>O8 g U8<|C4 2 [3] a Z<|Pf U2<|⟨?_,Z⟩;show Value.bool _=Value.bool _;congr 1;show (!((⟨(qtx (l.getD s 0)).toArray⟩:ByteArray).data.toList == (⟨#[48]⟩:ByteArray).data.toList))=_;rw [fw]
inductive FirstR (q:Nat->Prop) (n:Nat):Int->Prop where
 | none:(∀ i,i<n->¬ q i)->FirstR q n (-1)
 | some (r:Nat):r<n->q r->(∀ i,i<r->¬ q i)->FirstR q n r
theorem Dn (C:Mem)(v:Value)(a:List (Rat × Value))(g:Nat)(c:List Value)(q:Nat->Prop)[DecidablePred q](d:Sl C 2 v (a.map bl))(_E:Jog.Enters cx.P g=true)
  (p:∀ i x,a[i]?=some x->∀ D:Mem,C.le D->Gives cx.P g (.agg ⟨bl x⟩::c) D (.bool (decide (q i)))) :
  Pur cx.P 175 [v,.func (.func g) #[] ⟨c⟩] C fun u _=>∃ o:Int,u=.int .i64 o/\FirstR q a.length o:=by
 obtain ⟨r,c0,rfl,s,F,_⟩:=id d;have H:maxLen<=9223372036854775807:=by simp [maxLen]
 simp only [ax] at d s ⊢;refine Ph func175 19 U3 fun w0=>C6 1 [0,1] Z<|C6 3 [0,1,7,8] Z<|G.loop (fun fr C' t w=>∃ (i:Nat),(i<=a.length/\∀ j,j<i->¬ q j)/\fr=[(0,[],.slice r a.length c0),(1,[],.func (.func g) #[] ⟨c⟩),(7,[],.int .i64 a.length),(8,[],.int .i64 i)]/\t=[]/\w=a.length-i) (hn_ [0,1,7,8] Z) ⟨0,⟨LV _,fun j e=>absurd e (Nat.not_lt_zero _)⟩,Z,Z,Z⟩ (fun fr I J m _ y=>?_);obtain ⟨i,⟨K,f⟩,rfl,rfl,rfl⟩:=y;refine C6 1 [0,1,7,8,9] Z<|O9 (fun h=>?_) fun h=>?_
 ·have b:i<a.length:=by simpa using h
  obtain ⟨x,n⟩:∃ x,a[i]?=some x:=⟨a[i],aj b⟩;refine C6 2 [0,1,5,7,8] Z<|O7 3 Z fun R k=>Pm d.m_ U10 om_ (show (a.map bl)[i]?=some [al (qtx x.1),x.2] from fD n) fl_ fun L z=>O8 z U8<|Pn (p i x n _ mup) U7<|Pd [0,1,5,7,8,16] k Z<|O9 (fun l=>?_) fun l=>?_
  ·have A:q i:=K5 l;exact C6 2 [4] Z<|Pf U2<|⟨Z,(i:Int),Z,.some i b A f⟩
  ·have B:¬ q i:=LS l;refine Pb fun R k=>Pi _ U7<|C4 1 [0,1,7,8] k Z<|Pk (m':=a.length-(i+1)) om_ mup (hn_ [0,1,7,8] Z) ⟨i+1,⟨by omega,fun j e=>by
    rcases Nat.lt_or_eq_of_le (Nat.le_of_lt_succ e) with h1 | h1
    ·exact f j h1
    ·rw [h1];exact B⟩,rfl,rfl,rfl⟩
 ·have b:i=a.length:=by
   have:¬ i<a.length:=by simpa using h
   omega
  exact C6 1 [4] Z<|Pf U2<|⟨Z, -1,Z,.none (by rw [<- b];exact f)⟩
theorem BL (C:Mem)(b n v:Nat)(a:List Value)(c:C b=some (.cells ⟨.int .i64 n::a⟩ 212 (0,0))) :
  Gives cx.P 177 [.pointer (some ⟨b,0,none⟩),.int .i64 v] C (.bool (decide (n<=v))):=by
 refine Ph func177 11 U3 fun w0=>C6 1 [0,1] Z<|O7 4 Z fun R d=>O8 (bkT c 1) U8<|C4 2 [4] d Z<|Pf U2<|⟨?_,Z⟩;congr 1;rw [MH];omega
theorem nk (C:Mem)(b n v:Nat)(a:List Value):Jog.Fn cx.P 177 [.pointer (some ⟨b,0,none⟩),.int .i64 v] C [.obj b (.cells ⟨.int .i64 n::a⟩ 212 (0,0))]
   fun u _ d=>u=.bool (decide (n<=v))/\d=[.obj b (.cells ⟨.int .i64 n::a⟩ 212 (0,0))]:=by
 have h:=P7 (P:=cx.P) (f:=177) (args:=[.pointer (some ⟨b,0,none⟩),.int .i64 v]) (C:=C) (q:=fun u=>u=.bool (decide (n<=v))) kr_ [.obj b (.int .i64 n::a) 212] (fun x c=>by
  rcases Ma.1 c with rfl | c
  ·trivial
  ·cases c) fun C' e hs=>(BL C' b n v a (hs _ (aF ..))).mono fun u _ g _ ⟨h1,h2⟩=>⟨h2,h1⟩
 exact h
theorem na {C:Mem}(h:∀ x∈eD b n t wB wL wO wW wF,x.seen C):Sl C 1 wO (t.others.map aU)/\Sl C 2 wL ((cC t wF).map bl)/\∀ i,i<t.basic.length->Sl C 1 (wF i) ((t.line i).f.map aT) :=
 ⟨h _ (LW _ (LW _ (LW _ (aF ..)))),h _ (LW _ (LW _ (aF ..))),fun i a =>
  h (Hd t wF i) (LW _ (LW _ (LW _ (LW _ (LW _ (L4.2 ⟨i,Me.2 a,rfl⟩))))))⟩
section
variable {C:Mem} {a2 b n N s:Nat} {t:Lp.Tab} {wB wO wW:Value} {wF:Nat->Value}
theorem KG {d:Value}(g:t.Ok N)(i:t.others.length<=1000000):Jog.Fn cx.P 50 [wO] C ((eD b n t wB d wO wW wF).map Lent.ent)
   fun u _ a=>∃ A n2 c,u=.slice A n2 c/\a=.arr (.slice A n2 c) 3 1 t.others.length (t.others.map aU).flatten::(eD b n t wB d wO wW wF).map Lent.ent:=by
 have h:=Qr (P:=cx.P) (f:=50) (args:=[wO]) (L:=[]) (C:=C) (post:=fun u a=>∃ A n2 c,u=.slice A n2 c/\a=[.arr (.slice A n2 c) 3 1 t.others.length (t.others.map aU).flatten]) kr_ (eD b n t wB d wO wW wF) (fB g) fun C' m hs=>KH C' wO t.others (na hs).1 i;rw [Mi] at h;refine ⟨h.1,fun w j=>(h.2 w j).mono ?_⟩;rintro e w' ⟨v,C',a,k,l,o,rfl,A,n2,c,rfl,rfl⟩;exact ⟨_,C',_,k,St.perm l (List.perm_append_singleton _ _),A,n2,c,Z,Z⟩
theorem IV {a:Value}(h:t.Ok N)(l:C a2=some (.cells ⟨[.int .i64 s]⟩ 3 (0,0)))(m:s<t.others.length) :
  Jog.Fn cx.P 175 [a,.func (.func 176) #[] #[.pointer (some ⟨a2,0,none⟩)]] C ((eD b n t wB a wO wW wF).map Lent.ent)
   fun u _ j=>(∃ o:Int,u=.int .i64 o/\FirstR (fun i=>¬ (t.line i).g s=0) t.basic.length o)/\j=(eD b n t wB a wO wW wF).map Lent.ent:=by
 refine P7 kr_ _ (fB h) fun C' p q=>?_;obtain ⟨_,r,v⟩:=na q;refine (Dn C' a (cC t wF) 176 [.pointer (some ⟨a2,0,none⟩)] (fun i=>¬ (t.line i).g s=0) r kr_ fun i x d D k=>?_).mono ?_
 ·have e:i<t.basic.length:=by rw [<- eT (wF:=wF)];exact (aX.1 d).1
  rw [me e] at d;cases d
  rw [decide_not];exact If D a2 s (t.line i).c (wF i) (t.line i).f ((v i e).mono k) ((p.trans k) _ _ l) (by rw [gu h e];exact m)
 ·rintro u D j _ ⟨h1,o,rfl,h2⟩;rw [eT] at h2;exact ⟨h1,o,Z,h2⟩
theorem IU {A:Option Addr}{c r M:Nat}(v:t.basic.length=M)(j:t.Ok N)(w:C a2=some (.cells ⟨[.int .i64 s]⟩ 3 (0,0)))(y:s<t.others.length)(I:r<t.basic.length)(z:M<=c) :
  Jog.Fn cx.P 175 [.slice (if c=r+1 then A else A.map (·.add ((r+1)*2))) (M-(r+1)) (c-(r+1)),.func (.func 178) #[] #[.pointer (some ⟨a2,0,none⟩)]] C ((eD b n t wB (.slice A M c) wO wW wF).map Lent.ent)
   fun u _ k=>(∃ o:Int,u=.int .i64 o/\FirstR (fun i=>¬ (t.line (r+1+i)).g s=0) (t.basic.length-(r+1)) o)/\k=(eD b n t wB (.slice A M c) wO wW wF).map Lent.ent:=by
 subst v;refine P7 kr_ _ (fB j) fun C' B E=>?_;obtain ⟨_,F,G⟩:=na E;have p:=Sl.sub (l:=r+1) (h:=t.basic.length) (m:=c) F om_ (by rw [ax,eT];exact LP _) z (LP _);have e:((cC t wF).map bl).take t.basic.length=(cC t wF).map bl:=MZ (by rw [ax,eT];exact LP _);rw [e,<- List.map_drop] at p;have H:((cC t wF).drop (r+1)).length=t.basic.length-(r+1):=by rw [Oi,eT]
 refine (Dn C' _ ((cC t wF).drop (r+1)) 178 [.pointer (some ⟨a2,0,none⟩)] (fun i=>¬ (t.line (r+1+i)).g s=0) p kr_ fun i x a D q=>?_).mono ?_
 ·have d:r+1+i<t.basic.length:=by have:=(aX.1 a).1;omega
  rw [List.getElem?_drop,me d] at a;cases a
  rw [decide_not];exact Ie D a2 s (t.line (r+1+i)).c (wF (r+1+i)) (t.line (r+1+i)).f ((G _ d).mono q) ((B.trans q) _ _ w) (by rw [gu j d];exact y)
 ·rintro u D k _ ⟨h1,o,rfl,h2⟩;rw [H] at h2;exact ⟨h1,o,Z,h2⟩
end
def LN (p:Lp.Sys)(t:Lp.Tab)(s:Nat)(o:Int):Prop:=(o=-1/\∀ i,i<t.basic.length->p.n<=t.bas i->(t.line i).g s=0)∨∃ r:Nat,o=r/\r<t.basic.length/\¬ (t.line r).g s=0/\∀ i,i<r->p.n<=t.bas i->(t.line i).g s=0
theorem vY (h:FirstR q n o)(a:o<0):∀ i,i<n->¬ q i:=by
 cases h with
 | none h=>exact h
 | some r _ _ _=>omega
theorem vX (h:FirstR q n o)(a:¬ o<0):∃ r:Nat,o=r/\r<n/\q r/\∀ i,i<r->¬ q i:=by
 cases h with
 | none h=>exact absurd dc_ a
 | some r h1 h2 h3=>exact ⟨r,rfl,h1,h2,h3⟩
theorem ze {p:Lp.Sys}{s:Nat}(h:FirstR (fun i=>¬ (t.line i).g s=0) t.basic.length o):LN p t s o:=by
 cases h with
 | none h=>exact .inl ⟨rfl,fun i a _=>Decidable.not_not.1 (h i a)⟩
 | some r h1 h2 h3=>exact .inr ⟨r,rfl,h1,h2,fun i a _=>Decidable.not_not.1 (h3 i a)⟩
theorem zr (C:Mem)(hT:Tabs C)(p:Lp.Sys)(M:Nat->Rat)(b:Nat)(a:Lp.Tab)(N O e l:Value)(B:Nat->Value)(q:Lp.Inv p M a)(ho:a.others=List.range p.n)(hl:Lp.Lim p M 16)(hm:p.m<=1000000)(hn:p.n<=1000000) :
  Jog.Fn cx.P 115 [.pointer (some ⟨b,0,none⟩)] C ((eD b p.n a N O e l B).map Lent.ent) fun u _ A=>u=.tuple #[]/\∃ t wF,Lp.Inv p M t/\Lp.Rel p.n t p.n/\A=(eD b p.n t N O e l wF).map Lent.ent:=by
 have aJ:maxLen<=9223372036854775807:=by simp [maxLen]
 have ao:a.others.length=p.n:=q.tab.lo;refine Ph func115 65 U3 fun w0=>?_;refine Po (L':=[.obj b (.cells ⟨[.int .i64 p.n,N,O,e,al (qtx a.worth.c),l]⟩ 212 (0,0)),.arr N 3 1 a.basic.length ((a.basic).map aU).flatten,.arr O 209 2 a.basic.length ((cC a B).map bl).flatten,.arr e 3 1 a.others.length ((a.others).map aU).flatten,.arr l 56 1 a.others.length ((a.worth.f).map aT).flatten]++(List.range a.basic.length).map (stE a B 0 0 0)) (by rw [aY 0 0]) ?_;refine QF 1 Z (fun w y J S ap _=>?_);rw [q.tab.lb] at J S ap;subst J;refine QF 2 Z (fun z x J _ T _=>?_);rw [q.tab.lb] at J T;subst J;refine Po (L':=[.obj b (.cells ⟨[.int .i64 p.n,(.slice w p.m y),(.slice z p.m x),e,al (qtx a.worth.c),l]⟩ 212 (0,0)),.arr (.slice w p.m y) 3 1 a.basic.length ((a.basic).map aU).flatten,.arr (.slice z p.m x) 209 2 a.basic.length ((cC a B).map bl).flatten,.arr e 3 1 a.others.length ((a.others).map aU).flatten,.arr l 56 1 a.others.length ((a.worth.f).map aT).flatten]++(List.range a.basic.length).map (stE a B 0 0 0)) Z ?_;refine Px [(4,3)] Z (fun R d=>?_);refine Pc 3 Z ?_;refine Pe (.head _) U9 ?_;refine D.call (KG q.tab.ok om_) Z (.inr dc_) U6 (show List.Perm _ (((eD b p.n a (.slice w p.m y) (.slice z p.m x) e l B).map Lent.ent)++[]) from List.Perm.of_eq (by rw [Mi,aY 0 0] <;> rfl)) fl_ (fun aK aq aL _ ar=>?_);obtain ⟨Ac,n2,c2,rfl,rfl⟩:=ar;refine C4 2 [0,10,11,12] d Z ?_;clear d R;refine G.freezeArr 0 (a.others.map aU) Z Z sr (by simp) (fun aq _ aj=>?_);have au:n2=p.n:=by
  obtain ⟨A9,c9,av,_⟩:=id aj;injection av with e1 e2 e3;rw [e2,ax,ao]
 subst au;refine Po (L':=[.obj b (.cells ⟨[.int .i64 p.n,(.slice w p.m y),(.slice z p.m x),e,al (qtx a.worth.c),l]⟩ 212 (0,0)),.arr (.slice w p.m y) 3 1 a.basic.length ((a.basic).map aU).flatten,.arr (.slice z p.m x) 209 2 a.basic.length ((cC a B).map bl).flatten,.arr e 3 1 a.others.length ((a.others).map aU).flatten,.arr l 56 1 a.others.length ((a.worth.f).map aT).flatten]++(List.range a.basic.length).map (stE a B 0 0 0)) (by rw [aY 0 0,Mi];rfl) ?_;refine G.loop (fun fr C' A U=>∃ (k:Nat)(t:Lp.Tab)(wF:Nat->Value),(k<=p.n/\Lp.Inv p M t/\Lp.Rel p.n t k)/\fr=[(0,[],.pointer (some ⟨b,0,none⟩)),(10,[],.slice Ac p.n c2),(11,[],.int .i64 p.n),(12,[],.int .i64 k)]/\A=[.obj b (.cells ⟨[.int .i64 p.n,(.slice w p.m y),(.slice z p.m x),e,al (qtx t.worth.c),l]⟩ 212 (0,0)),.arr (.slice w p.m y) 3 1 t.basic.length ((t.basic).map aU).flatten,.arr (.slice z p.m x) 209 2 t.basic.length ((cC t wF).map bl).flatten,.arr e 3 1 t.others.length ((t.others).map aU).flatten,.arr l 56 1 t.others.length ((t.worth.f).map aT).flatten]++(List.range t.basic.length).map (stE t wF 0 0 0)/\U=p.n-k) (hn_ [0,10,11,12] Z) ⟨0,a,B,⟨LV _,q,fun s hs=>absurd hs (Nat.not_lt_zero _)⟩,Z,Z,Z⟩ (fun fr aM aN m _ q=>?_);obtain ⟨k,t,wF,⟨hk,q,d⟩,rfl,rfl,rfl⟩:=q;refine C6 1 [0,10,11,12,13] Z ?_;refine O9 (fun V=>?_) fun V=>?_
 ·have ak:k<p.n:=by
   have:=K5 V;omega
  have ok:=q.tab.ok;have aw:=q.tab.lb;have ay:t.basic.length<=1000000:=by rw [q.tab.lb];exact hm
  have az:t.others.length<=1000000:=by rw [q.tab.lo];exact hn
  have hq:∀ i,i<t.basic.length->LineQ 16 (t.line i):=fun i W=>sa q hl W;have K:k<t.others.length:=by rw [q.tab.lo];exact ak
  refine O7 1 Z fun R d=>?_;refine Pm aj.m_ U10 om_ (show (a.others.map aU)[k]?=some (aU k) from rS (by rw [ho,Mr ak])) fl_ (fun aO aA=>?_);refine O8 aA U8 ?_;refine Pq U5 (fun b2=>?_);refine Pg (j:=0) U12 ?_;refine C4 1 [0,2,3,10,11,12] d Z ?_;clear d R;refine G.freeze 0 Z (fun _ _ X=>?_);refine Px [(5,3)] Z (fun R d=>?_);refine Pc 3 Z ?_;refine Pe (.head _) U9 ?_;refine Pa U6 ?_;refine D.call (IV ok (Mem.get X mup) K) Z (.inr dc_) U6 (show List.Perm _ (((eD b p.n t (.slice w p.m y) (.slice z p.m x) e l wF).map Lent.ent)++[]) from List.Perm.of_eq (by rw [Mi,aY 0 0] <;> rfl)) fl_ (fun aP _ aQ _ aB=>?_);refine C4 1 [0,2,3,4,10,11,12] d Z ?_;clear d R;obtain ⟨⟨o0,rfl,aC⟩,rfl⟩:=aB;refine Po (L':=[.obj b (.cells ⟨[.int .i64 p.n,(.slice w p.m y),(.slice z p.m x),e,al (qtx t.worth.c),l]⟩ 212 (0,0)),.arr (.slice w p.m y) 3 1 t.basic.length ((t.basic).map aU).flatten,.arr (.slice z p.m x) 209 2 t.basic.length ((cC t wF).map bl).flatten,.arr e 3 1 t.others.length ((t.others).map aU).flatten,.arr l 56 1 t.others.length ((t.worth.f).map aT).flatten]++(List.range t.basic.length).map (stE t wF 0 0 0)) (by rw [Mi,aY 0 0]) ?_;refine G.loop (fun fr C' A U=>∃ (o:Int),(LN p t k o)/\fr=[(0,[],.pointer (some ⟨b,0,none⟩)),(2,[],.pointer (some ⟨b2,0,none⟩)),(3,[],.int .i64 k),(4,[],.int .i64 o),(10,[],.slice Ac p.n c2),(11,[],.int .i64 p.n),(12,[],.int .i64 k)]/\A=[.obj b (.cells ⟨[.int .i64 p.n,(.slice w p.m y),(.slice z p.m x),e,al (qtx t.worth.c),l]⟩ 212 (0,0)),.arr (.slice w p.m y) 3 1 t.basic.length ((t.basic).map aU).flatten,.arr (.slice z p.m x) 209 2 t.basic.length ((cC t wF).map bl).flatten,.arr e 3 1 t.others.length ((t.others).map aU).flatten,.arr l 56 1 t.others.length ((t.worth.f).map aT).flatten]++(List.range t.basic.length).map (stE t wF 0 0 0)/\U=t.basic.length-o.toNat) (hn_ [0,2,3,4,10,11,12] Z) ⟨o0,ze aC,Z,Z,Z⟩ (fun fr aR aS m _ q=>?_);obtain ⟨o,hS,rfl,rfl,rfl⟩:=q;refine O7 7 Z fun R d=>?_;refine Pe (.head _) U9 ?_;refine Pa U6 ?_;refine Rh (w.getD ⟨0,0,none⟩).block (o.toNat*1) Z Z Z Z Z Z Z Z Z Z (fun Y=>by
   have h:decide (o ≥ 0)=true:=Y.1;have h2:=K5 h;obtain ⟨r,L,E,_⟩:=hS.resolve_left om_;exact ⟨S om_,by omega,by omega,Z⟩) Z Z ?_
  refine Ra (v:=.int .i64 (t.bas o.toNat)) (.tail _ (.head _)) Z Z Z Z Z Z (fun Y=>by
   have h:decide (o ≥ 0)=true:=Y.1;have h2:=K5 h;obtain ⟨r,L,E,_⟩:=hS.resolve_left om_;refine ⟨S om_, ?_⟩;rw [ec gD (show t.basic[o.toNat]?=some (t.bas o.toNat) from vJ om_)];rfl) rfl rfl ?_
  refine Qv (.head _) (fun _=>nk _ b p.n (t.bas o.toNat) _) U9 ?_;refine Pa U6 ?_;refine Pz U8 ?_;refine Pd [0,2,3,4,10,11,12,36] d Z ?_;clear d R;refine O9 (fun aa=>?_) fun aa=>?_
  ·have Q:o ≥ 0/\¬ p.n<=t.bas o.toNat:=by simpa using aa
   obtain ⟨aV,ab⟩:=Q;obtain ⟨r,L,E,ac,ad⟩:=hS.resolve_left om_;subst L;rw [NO] at ab;refine Px [(8,3)] Z (fun R d=>?_);refine Pc 3 Z ?_;refine Pe (.head _) U9 ?_;refine Pa U6 ?_;refine Pi _ U7 ?_;refine PX (r+1) p.m x U12 (fun _=>⟨.inr ⟨_,Z⟩,.inl ⟨Z,Z⟩,.inl ⟨Z,Z⟩,by omega,T,LP _⟩) U2 ?_;refine Pa U6 ?_;refine D.call (IU aw ok (Mem.get X mup) K E T) Z (.inr dc_) U6 (show List.Perm _ (((eD b p.n t (.slice w p.m y) (.slice z p.m x) e l wF).map Lent.ent)++[]) from List.Perm.of_eq (by rw [Mi,aY 0 0] <;> rfl)) fl_ (fun aW _ aX _ aD=>?_);refine C4 1 [0,2,3,4,5,10,11,12] d Z ?_;clear d R;obtain ⟨⟨o2,rfl,am⟩,rfl⟩:=aD;refine Po (L':=[.obj b (.cells ⟨[.int .i64 p.n,(.slice w p.m y),(.slice z p.m x),e,al (qtx t.worth.c),l]⟩ 212 (0,0)),.arr (.slice w p.m y) 3 1 t.basic.length ((t.basic).map aU).flatten,.arr (.slice z p.m x) 209 2 t.basic.length ((cC t wF).map bl).flatten,.arr e 3 1 t.others.length ((t.others).map aU).flatten,.arr l 56 1 t.others.length ((t.worth.f).map aT).flatten]++(List.range t.basic.length).map (stE t wF 0 0 0)) (by rw [Mi,aY 0 0]) ?_;refine C6 2 [0,2,3,4,5,10,11,12,47] Z ?_;refine O9 (fun ae=>?_) fun ae=>?_
   ·have af:o2<0:=K5 ae;have hz:∀ i,i<t.basic.length->p.n<=t.bas i->(t.line i).g k=0:=fun i W F=>by
     rcases Nat.lt_trichotomy i r with h1 | h1 | h1
     ·exact ad i h1 F
     ·rw [h1] at F;exact absurd F ab
     ·have:=vY am af (i-(r+1)) om_;rw [show r+1+(i-(r+1))=i by omega] at this;exact Decidable.not_not.1 this
    refine C6 1 [0,2,3,4,10,11,12] Z ?_;refine O7 5 Z fun R d=>?_;refine Qv (.head _) (fun _=>nk _ b p.n k _) U9 ?_;refine Pa U6 ?_;refine Pz U8 ?_;refine Pd [0,2,4,10,11,12,59] d Z ?_;clear d R;refine O9 (fun an=>?_) fun an=>?_
    ·exact absurd an (by simp)
    ·refine Pb fun R d=>?_;refine Pi _ U7 ?_;refine C4 1 [0,10,11,12] d Z ?_;clear d R;refine Pk (m':=p.n-(k+1)) om_ mup (hn_ [0,10,11,12] Z) ⟨k+1,t,wF,⟨by omega,q,Lp.rel_none d hz⟩,Z,Z,Z⟩
   ·have af:¬ o2<0:=LS ae;obtain ⟨H,rfl,aZ,aE,aF⟩:=vX am af;have aG:LN p t k ((r+(1+H):Nat):Int):=.inr ⟨r+(1+H),rfl,by omega,by rw [show r+(1+H)=r+1+H by omega];exact aE,fun i W F=>by
     rcases Nat.lt_trichotomy i r with h1 | h1 | h1
     ·exact ad i h1 F
     ·rw [h1] at F;exact absurd F ab
     ·have:=aF (i-(r+1)) om_;rw [show r+1+(i-(r+1))=i by omega] at this;exact Decidable.not_not.1 this⟩
    refine O7 2 Z fun R d=>?_;refine Pi _ U7 ?_;refine Pi _ U7 ?_;refine C4 1 [0,2,3,4,10,11,12] d Z ?_;clear d R;refine Pk (m':=t.basic.length-((r+(1+H):Nat):Int).toNat) om_ mup (hn_ [0,2,3,4,10,11,12] Z) ⟨((r+(1+H):Nat):Int),aG,Z,Z,Z⟩
  ·have Q:¬ (o ≥ 0/\¬ p.n<=t.bas o.toNat):=by simpa using aa
   refine O7 5 Z fun R d=>?_;refine Qv (.head _) (fun _=>nk _ b p.n k _) U9 ?_;refine Pa U6 ?_;refine Pz U8 ?_;refine Pd [0,2,4,10,11,12,59] d Z ?_;clear d R;refine O9 (fun ag=>?_) fun ag=>?_
   ·have I:0<=o:=by
     have I:(decide (0<=o) && !decide (p.n<=k))=true:=ag;simp only [L3,LY] at I;exact I.1
    obtain ⟨r,L,E,ac,ad⟩:=hS.resolve_left om_;subst L;rw [NO] at Q;have aH:p.n<=t.bas r:=by
     apply Decidable.byContradiction;intro h;exact Q ⟨by omega,h⟩
    refine Px [(3,3)] Z (fun R d=>?_);refine Pc 2 Z ?_;refine O8 (bkT X 1) U8 ?_;refine D.call (rM _ hT.m_ b p.n r k (p.n+p.m) t (.slice w p.m y) (.slice z p.m x) e l wF ok ay az E K ac hq (mM q hl)) Z (.inr dc_) U6 (show List.Perm _ (((eD b p.n t (.slice w p.m y) (.slice z p.m x) e l wF).map Lent.ent)++[]) from List.Perm.of_eq (by rw [Mi,aY 0 0] <;> rfl)) fl_ (fun a0 _ a1 _ aI=>?_);refine Pd [0,10,11,12] d Z ?_;clear d R;refine Pb fun R d=>?_;refine Pi _ U7 ?_;refine C4 1 [0,10,11,12] d Z ?_;clear d R;obtain ⟨-,ah,rfl⟩:=aI;refine Po (L':=[.obj b (.cells ⟨[.int .i64 p.n,(.slice w p.m y),(.slice z p.m x),e,al (qtx (t.pivot r k).worth.c),l]⟩ 212 (0,0)),.arr (.slice w p.m y) 3 1 (t.pivot r k).basic.length (((t.pivot r k).basic).map aU).flatten,.arr (.slice z p.m x) 209 2 (t.pivot r k).basic.length ((cC (t.pivot r k) ah).map bl).flatten,.arr e 3 1 (t.pivot r k).others.length (((t.pivot r k).others).map aU).flatten,.arr l 56 1 (t.pivot r k).others.length (((t.pivot r k).worth.f).map aT).flatten]++(List.range (t.pivot r k).basic.length).map (stE (t.pivot r k) ah 0 0 0)) (by rw [Mi,aY 0 0]) ?_;refine Pk (m':=p.n-(k+1)) om_ mup (hn_ [0,10,11,12] Z) ⟨k+1,t.pivot r k,ah,⟨by omega,q.pivot E K ac,Lp.rel_next ok d E K aH⟩,Z,Z,Z⟩
   ·have I:¬ 0<=o:=by
     have I:(decide (0<=o) && !decide (p.n<=k))=false:=ag;have ai:¬ p.n<=k:=by omega
     simpa [ai] using I
    have hz:∀ i,i<t.basic.length->p.n<=t.bas i->(t.line i).g k=0:=by
     rcases hS with ⟨_,h2⟩ | ⟨r,h1,_⟩
     ·exact h2
     ·omega
    refine Pb fun R d=>?_;refine Pi _ U7 ?_;refine C4 1 [0,10,11,12] d Z ?_;clear d R;refine Pk (m':=p.n-(k+1)) om_ mup (hn_ [0,10,11,12] Z) ⟨k+1,t,wF,⟨by omega,q,Lp.rel_none d hz⟩,Z,Z,Z⟩
 ·have ai:k=p.n:=by
   have:=LS V;omega
  refine P9 Z ?_;exact ⟨Z,t,wF,q,by rw [ai] at d;exact d,by rw [aY 0 0]⟩
theorem KF (C:Mem)(v:Value)(l:List Rat)(b:Sl C 1 v (l.map aT))(t:l.length<=1000000):Jog.Fn cx.P 173 [v] C [] fun u _w e=>∃ A n c,u=.slice A n c/\e=[.arr (.slice A n c) 56 1 l.length (l.map aT).flatten]:=by
 obtain ⟨f,c0,rfl,m,x,y,o⟩:=id b;have z:maxLen<=9223372036854775807:=by simp [maxLen]
 simp only [ax] at b m ⊢;refine Ph func173 8 U3 fun w0=>C6 1 [0] Z<|O7 1 Z fun R d=>Qy U9<|Pd [0,4] d Z<|O9 (fun h4=>?_) fun h4=>?_
 ·have p:f=none:=by
   cases f with
   | none=>rfl
   | some a=>cases h4
  have s:l=[]:=by
   cases l with
   | nil=>rfl
   | cons q r =>
    obtain ⟨a,g,_⟩:=o 0 (aT q) rfl;rw [p] at g;cases g
  refine C6 1 [2] Z<|G.nilArr 56 1<|Pl (PM Z Z ?_);exact ⟨none,0,0,Z,by rw [s];rfl⟩
 ·refine Pb fun R d=>Qo [] U12 fl_ fun B=>Pa U6<|Pu (j:=0) U11 b.m_ (by simp [aT,nT,al]) (by simp only [ax,MM,maxLen];omega) (by simp only [ax,MM];omega) fl_ fun h i k=>C4 1 [2] d Z<|Po (L':=[.arr (.slice h i k) 56 1 l.length (l.map aT).flatten]) (by simp)<|Pl (PM Z Z ?_);exact ⟨h,i,k,Z,Z⟩
def ek (n:Nat)(rs:List (List Rat × Rat)):Lp.Sys:=⟨n,rs.length,fun r j=>(rs.getD r ([],0)).1.getD j 0,fun r=>(rs.getD r ([],0)).2⟩
abbrev sA (A:Option Addr)(n c:Nat):Value:=.slice A n c
abbrev sB (A:Option Addr)(n c:Nat):Value:=.slice A n c
abbrev sO (A:Option Addr)(n c:Nat):Value:=.slice A n c
abbrev sW (A:Option Addr)(n c:Nat):Value:=.slice A n c
abbrev sF (A:Option Addr)(n c:Nat):Value:=.slice A n c
def lbF (n i:Nat):List Nat:=(List.range i).map fun q=>n+q
def lvF (rs:List (List Rat × Rat))(wF:Nat->Value)(i:Nat):List (Rat × Value):=(List.range i).map fun q=>((rs.getD q ([],0)).2,wF q)
def opE (n:Nat)(rs:List (List Rat × Rat))(wF:Nat->Value)(q:Nat):Ent:=.arr (wF q) 56 1 n (((List.range n).map fun j=>-(rs.getD q ([],0)).1.getD j 0).map aT).flatten
def ET (wF:Nat->Value)(i:Nat)(w:Value):Nat->Value:=fun q=>if q=i then w else wF q
theorem Bt :ET wF i w i=w:=aI rfl
theorem Br {q:Nat}(h:q≠i):ET wF i w q=wF q:=aC h
theorem Gb :lbF n (i+1)=lbF n i++[n+i]:=by unfold lbF;rw [MU,My];rfl
theorem F3 (h:rs.getD i ([],0)=r):lvF rs (ET wF i w) (i+1)=lvF rs wF i++[(r.2,w)]:=by
 unfold lvF;rw [MU,My,List.map_singleton,h,Bt];congr 1;refine List.map_congr_left fun q a=>?_;rw [Br (by have:=Me.1 a;omega)]
theorem FX (h:rs.getD i ([],0)=r):(List.range (i+1)).map (opE n rs (ET wF i w))=(List.range i).map (opE n rs wF)++[.arr w 56 1 n (((List.range n).map fun j=>-r.1.getD j 0).map aT).flatten]:=by
 rw [MU,My,List.map_singleton];congr 1
 ·refine List.map_congr_left fun q a=>?_;unfold opE;rw [Br (by have:=Me.1 a;omega)]
 ·unfold opE;rw [h,Bt]
theorem zu {l:List Rat}(h:l.length=n):(List.range n).map (fun j=>l.getD j 0)=l:=by
 refine List.ext_getElem? fun j=>?_;rw [LU];by_cases a:j<n
 ·rw [Mr a,aj om_];show some (l.getD j 0)=_;rw [ak,aj om_];rfl
 ·rw [LX (show (List.range n).length<=j by simp;omega),LX om_];rfl
theorem CO (g:ob.length=n) :
  (eD b n (Lp.openT (ek n rs) fun j=>ob.getD j 0) wB wL wO wW wF).map Lent.ent=[.obj b (.cells ⟨[.int .i64 n,wB,wL,wO,al [48],wW]⟩ 212 (0,0)),.arr wB 3 1 rs.length ((lbF n rs.length).map aU).flatten,.arr wL 209 2 rs.length ((lvF rs wF rs.length).map bl).flatten,.arr wO 3 1 n ((List.range n).map aU).flatten,.arr wW 56 1 n (ob.map aT).flatten]++(List.range rs.length).map (opE n rs wF):=by
 have d:(Lp.openT (ek n rs) fun j=>ob.getD j 0).basic.length=rs.length:=Lp.openT_lb;have e:(Lp.openT (ek n rs) fun j=>ob.getD j 0).others.length=n:=Lp.openT_lo;have h1:cC (Lp.openT (ek n rs) fun j=>ob.getD j 0) wF=lvF rs wF rs.length:=by
  unfold cC lvF;rw [d];refine List.map_congr_left fun q a=>?_;rw [Lp.openT_line (p:=ek n rs) (Me.1 a)];rfl
 have h2:(List.range rs.length).map (Lent.ent ∘ Hd (Lp.openT (ek n rs) fun j=>ob.getD j 0) wF)=(List.range rs.length).map (opE n rs wF):=by
  refine List.map_congr_left fun q a=>?_;show Ent.arr _ _ 1 _ _=_;rw [Lp.openT_line (p:=ek n rs) (Me.1 a),e];rfl
 have h3:(Lp.openT (ek n rs) fun j=>ob.getD j 0).worth.f=ob:=zu g;have h4:(Lp.openT (ek n rs) fun j=>ob.getD j 0).worth.c=0:=rfl;unfold eD;rw [h1,h3,h4,d,e,K0];simp only [Mp,ME,h2];rfl
def kM (n:Nat)(rs:List (List Rat × Rat))(ob:List Rat)(b17:Nat)(Aw:Option Addr)(nw cw:Nat)(A1:Option Addr)(n1 c1:Nat)(i:Nat)(wF:Nat->Value)(r:List Rat × Rat)(A4:Option Addr)(n4 c4:Nat)(A71:Option Addr)(n71 c71:Nat)(A78:Option Addr)(n78 c78:Nat):List Ent:=[.arr (sA A71 n71 c71) 3 1 (i+1) (((lbF n i).map aU).flatten++[[.int .i64 ((n:Int)+(i:Int))]].flatten),.arr (sB A78 n78 c78) 209 2 (i+1) (((lvF rs wF i).map bl).flatten++[[al (qtx r.2),.slice A4 n4 c4]].flatten),.obj b17 (.cells ⟨[.int .i64 n,.slice A71 n71 c71,.slice A78 n78 c78,.slice A1 n1 c1,al [48],.slice Aw nw cw]⟩ 212 (0,0)),.arr (sO A1 n1 c1) 3 1 n (((List.range n)).map aU).flatten,.arr (sW Aw nw cw) 56 1 n (ob.map aT).flatten,.arr (sF A4 n4 c4) 56 1 n (((List.range n).map fun q=>-r.1.getD q 0).map aT).flatten]++(List.range i).map (opE n rs wF)
def opX1 (n:Nat)(rs:List (List Rat × Rat))(ob:List Rat)(b17:Nat)(Aw:Option Addr)(nw cw:Nat)(A1:Option Addr)(n1 c1:Nat)(i:Nat)(wF:Nat->Value)(A4:Option Addr)(n4 c4:Nat)(A71:Option Addr)(n71 c71:Nat)(A78:Option Addr)(n78 c78:Nat):List Ent:=[.arr (sA A71 n71 c71) 3 1 (i+1) ((lbF n (i+1)).map aU).flatten,.arr (sB A78 n78 c78) 209 2 (i+1) ((lvF rs (ET wF i (.slice A4 n4 c4)) (i+1)).map bl).flatten,.obj b17 (.cells ⟨[.int .i64 n,.slice A71 n71 c71,.slice A78 n78 c78,.slice A1 n1 c1,al [48],.slice Aw nw cw]⟩ 212 (0,0)),.arr (sO A1 n1 c1) 3 1 n (((List.range n)).map aU).flatten,.arr (sW Aw nw cw) 56 1 n (ob.map aT).flatten]++(List.range (i+1)).map (opE n rs (ET wF i (.slice A4 n4 c4)))
theorem bk {a:Nat}{b:Option Addr}{c d:Nat}{e:Option Addr}{f g:Nat}{h:Option Addr}{j k:Nat}{l:Option Addr}{m o:Nat}{p:Option Addr}{q s:Nat}(t:rs.getD i ([],0)=r):(kM n rs ob a b c d e f g i wF r h j k l m o p q s).Perm (opX1 n rs ob a b c d e f g i wF h j k l m o p q s):=by
 unfold kM opX1;rw [Gb,F3 t,FX t];simp only [My,MK];exact List.Perm.append_left [_,_,_,_,_] (List.perm_append_singleton _ _).symm
theorem FN (C:Mem)(_aK:Tabs C)(n:Nat)(rv ov:Value)(k:List (List Rat × Rat))(H:List Rat)(hr:RowsT C rv (k.map gZ))(ho:Sl C 1 ov (H.map aT))(hq:RowsQ n k)(hn:n<=1000)(ap:H.length=n) :
  Jog.Fn cx.P 114 [.agg ⟨[.int .i64 n,rv,ov]⟩] C [] fun u _aL E=>∃ b wB wL wO wW wF,u=.pointer (some ⟨b,0,none⟩)/\E=(eD b n (Lp.openT (ek n k) fun j=>H.getD j 0) wB wL wO wW wF).map Lent.ent:=by
 obtain ⟨vs,aq,ay,Y⟩:=hr;obtain ⟨Ar,cr,rfl,ar,aM,_⟩:=id Y;have hm:=hq.m;have aN:maxLen<=9223372036854775807:=by simp [maxLen]
 rw [rh aq] at Y ar ⊢;simp only [ax] at Y ar aq ⊢;refine Ph func114 85 U3 fun w0=>?_;refine Pb fun R a=>?_;refine Pr U6 (fun b1=>?_);refine C4 1 [1] a Z ?_;clear a R;refine G.freeze 0 Z (fun _ _ X=>?_);refine Pv [0,1,2,3,4,5,6,7,8] [(4,3),(1,0)] Z kr_ (fun R J a=>?_);refine Pa U6 ?_;refine P4 (fun _=>((PtrTo.blockT X _ 1).mono J)) U9 ?_;refine Pa U6 ?_;refine O8 (bkT X 1) U8 ?_;refine D.call (KF _ ov H ho.m_ om_) Z (.inr dc_) U6 (LR _) fl_ (fun aO _ aP _ az=>?_);obtain ⟨t,v,x,rfl,rfl⟩:=az;refine PB [al [48],.slice t v x] U8 ?_;refine PB [.int .i64 n,.slice none 0 0,.slice none 0 0,.slice none 0 0,al [48],.slice t v x] U8 ?_;refine Pr U6 (fun F=>?_);refine Pa U6 ?_;refine Pd [1,3] a Z ?_;clear a J R;refine O7 1 Z fun R a=>?_;refine O8 (bkT X 1) U8 ?_;refine C4 1 [1,3,19,20] a Z ?_;clear a R;refine G.nilArr 3 1 ?_;refine Po (L':=[.arr (sO none 0 0) 3 1 0 (((List.range 0)).map aU).flatten,.obj F (.cells ⟨[.int .i64 n,.slice none 0 0,.slice none 0 0,.slice none 0 0,al [48],.slice t v x]⟩ 212 (0,0)),.arr (sW t v x) 56 1 n (H.map aT).flatten]) (by rw [ap];rfl) ?_;refine G.loop (fun fr C' E V=>∃ (i:Nat)(A:Option Addr)(n1 B:Nat),(i<=n)/\fr=[(1,[],.pointer (some ⟨b1,0,none⟩)),(3,[],.pointer (some ⟨F,0,none⟩)),(19,[],.int .i64 n),(20,[],.int .i64 i)]/\E=[.arr (sO A n1 B) 3 1 i (((List.range i)).map aU).flatten,.obj F (.cells ⟨[.int .i64 n,.slice none 0 0,.slice none 0 0,.slice A n1 B,al [48],.slice t v x]⟩ 212 (0,0)),.arr (sW t v x) 56 1 n (H.map aT).flatten]/\V=n-i) (hn_ [1,3,19,20] Z) ⟨0,none,0,0,LV _,Z,Z,Z⟩ (fun fr aQ aR m _ W=>?_);obtain ⟨i,A,n1,B,hi,rfl,rfl,rfl⟩:=W;refine C6 1 [1,3,19,20,21] Z ?_;refine O9 (fun ab=>?_) fun ab=>?_
 ·have au:i<n:=by
   have:=K5 ab;omega
  refine C6 2 [1,3,4,19,20] Z ?_;refine O7 4 Z fun R a=>?_;refine Pe (.tail _ (.head _)) U9 ?_;refine Pa U6 ?_;refine Ps [[.int .i64 i]] U12 (fun aS _ _ aA=>?_);refine Pu (j:=0) U11 aA Z (by simp only [aE,maxLen];omega) (by show (i+1)*8<=_;omega) fl_ (fun ac ad ae=>?_);refine Pc 2 Z ?_;refine Pg (j:=1) U12 ?_;refine Pd [1,3,19,20] a Z ?_;clear a R;refine Pb fun R a=>?_;refine Pi _ U7 ?_;refine C4 1 [1,3,19,20] a Z ?_;clear a R;refine G.perm (L':=[.arr (sO ac ad ae) 3 1 (i+1) (((List.range (i+1))).map aU).flatten,.obj F (.cells ⟨[.int .i64 n,.slice none 0 0,.slice none 0 0,.slice ac ad ae,al [48],.slice t v x]⟩ 212 (0,0)),.arr (sW t v x) 56 1 n (H.map aT).flatten]) (by rw [MU,My,MK];exact List.Perm.swap _ _ _) ?_;refine Pk (m':=n-(i+1)) om_ mup (hn_ [1,3,19,20] Z) ⟨i+1,ac,ad,ae,om_,Z,Z,Z⟩
 ·have af:i=n:=by
   have:=LS ab;omega
  rw [af];refine O7 1 Z fun R a=>?_;refine O8 (bkT X 1) U8 ?_;refine C4 2 [1,3,35,36,37] a Z ?_;clear a R;refine G.nilArr 209 2 ?_;refine G.nilArr 3 1 ?_;refine G.perm (L':=[.arr (sA none 0 0) 3 1 0 ((lbF n 0).map aU).flatten,.arr (sB none 0 0) 209 2 0 ((lvF k (fun _=>.slice none 0 0) 0).map bl).flatten,.obj F (.cells ⟨[.int .i64 n,.slice none 0 0,.slice none 0 0,.slice A n1 B,al [48],.slice t v x]⟩ 212 (0,0)),.arr (sO A n1 B) 3 1 n (((List.range n)).map aU).flatten,.arr (sW t v x) 56 1 n (H.map aT).flatten]++(List.range 0).map (opE n k (fun _=>.slice none 0 0))) (by
   show List.Perm ([_,_,_,_,_]++[]) _
   (exact pkL [0,0,1,0,0] rfl)) ?_
  refine G.loop (fun fr C' E V=>∃ (i:Nat)(A2:Option Addr)(n2 c2:Nat)(N:Option Addr)(O Q:Nat)(wF:Nat->Value),(i<=k.length)/\fr=[(1,[],.pointer (some ⟨b1,0,none⟩)),(3,[],.pointer (some ⟨F,0,none⟩)),(35,[],.slice Ar k.length cr),(36,[],.int .i64 k.length),(37,[],.int .i64 i)]/\E=[.arr (sA A2 n2 c2) 3 1 i ((lbF n i).map aU).flatten,.arr (sB N O Q) 209 2 i ((lvF k wF i).map bl).flatten,.obj F (.cells ⟨[.int .i64 n,.slice A2 n2 c2,.slice N O Q,.slice A n1 B,al [48],.slice t v x]⟩ 212 (0,0)),.arr (sO A n1 B) 3 1 n (((List.range n)).map aU).flatten,.arr (sW t v x) 56 1 n (H.map aT).flatten]++(List.range i).map (opE n k wF)/\V=k.length-i) (hn_ [1,3,35,36,37] Z) ⟨0,none,0,0,none,0,0,fun _=>.slice none 0 0,LV _,Z,Z,Z⟩ (fun fr aV aW m _ W=>?_);obtain ⟨i,A2,n2,c2,N,O,Q,wF,hi,rfl,rfl,rfl⟩:=W;refine C6 1 [1,3,35,36,37,38] Z ?_;refine O9 (fun ag=>?_) fun ag=>?_
  ·have au:i<k.length:=by
    have:=K5 ag;omega
   obtain ⟨r,aa⟩:∃ r,k[i]?=some r:=⟨k[i],aj au⟩;have K:k.getD i ([],0)=r:=by rw [ak,aa];rfl
   have aX:r.1.length=n:=hq.l r (LQ aa);obtain ⟨aB,aY⟩:=hq.q r (LQ aa);obtain ⟨w,hw⟩:∃ w,vs[i]?=some w:=⟨vs[i]'om_,aj om_⟩;have av:(k.map gZ)[i]?=some (gZ r):=by rw [LU,aa];rfl
   have hx:=ay i w (gZ r) hw av;have ah:Sl C 1 w (r.1.map aT):=by rw [yo];exact hx
   obtain ⟨Ax,aC,rfl,aD,aZ,_⟩:=id ah;simp only [ax] at ah aD hw;refine O7 1 Z fun R a=>?_;refine Pm Y.m_ U10 om_ (Bd hw av) fl_ (fun a0 aF=>?_);refine O8 aF U8 ?_;refine Pq U5 (fun b6=>?_);refine Pa U6 ?_;refine Pg (j:=0) U12 ?_;refine Pd [1,3,5,6,35,36,37] a Z ?_;clear a R;refine G.freeze 0 Z (fun _ _ aw=>?_);refine O7 1 Z fun R a=>?_;refine O8 (bkT aw 1) U8 ?_;refine PB [al (qtx r.2),.slice none 0 0] U8 ?_;refine Pq U5 (fun b7=>?_);refine Pg (j:=0) U12 ?_;refine Pd [1,3,5,6,7,35,36,37] a Z ?_;clear a R;refine O7 1 Z fun R a=>?_;refine O8 (bkT aw 1) U8 ?_;refine C4 2 [1,3,5,7,35,36,37,46,47,48] a Z ?_;clear a R;refine G.nilArr 56 1 ?_;refine Po (L':=[.arr (sF none 0 0) 56 1 0 (((List.range 0).map fun q=>-r.1.getD q 0).map aT).flatten,.obj b7 (.cells ⟨[al (qtx r.2),.slice none 0 0]⟩ 209 (0,0)),.arr (sA A2 n2 c2) 3 1 i ((lbF n i).map aU).flatten,.arr (sB N O Q) 209 2 i ((lvF k wF i).map bl).flatten,.obj F (.cells ⟨[.int .i64 n,.slice A2 n2 c2,.slice N O Q,.slice A n1 B,al [48],.slice t v x]⟩ 212 (0,0)),.arr (sO A n1 B) 3 1 n (((List.range n)).map aU).flatten,.arr (sW t v x) 56 1 n (H.map aT).flatten]++(List.range i).map (opE n k wF)) Z ?_;refine G.loop (fun fr C' E V=>∃ (j:Nat)(o:Option Addr)(p s:Nat),(j<=n)/\fr=[(1,[],.pointer (some ⟨b1,0,none⟩)),(3,[],.pointer (some ⟨F,0,none⟩)),(5,[],.int .i64 i),(7,[],.pointer (some ⟨b7,0,none⟩)),(35,[],.slice Ar k.length cr),(36,[],.int .i64 k.length),(37,[],.int .i64 i),(46,[],.slice Ax r.1.length aC),(47,[],.int .i64 r.1.length),(48,[],.int .i64 j)]/\E=[.arr (sF o p s) 56 1 j (((List.range j).map fun q=>-r.1.getD q 0).map aT).flatten,.obj b7 (.cells ⟨[al (qtx r.2),.slice o p s]⟩ 209 (0,0)),.arr (sA A2 n2 c2) 3 1 i ((lbF n i).map aU).flatten,.arr (sB N O Q) 209 2 i ((lvF k wF i).map bl).flatten,.obj F (.cells ⟨[.int .i64 n,.slice A2 n2 c2,.slice N O Q,.slice A n1 B,al [48],.slice t v x]⟩ 212 (0,0)),.arr (sO A n1 B) 3 1 n (((List.range n)).map aU).flatten,.arr (sW t v x) 56 1 n (H.map aT).flatten]++(List.range i).map (opE n k wF)/\V=n-j) (hn_ [1,3,5,7,35,36,37,46,47,48] Z) ⟨0,none,0,0,LV _,Z,Z,Z⟩ (fun fr a1 a2 m _ W=>?_);obtain ⟨j,o,p,s,hj,rfl,rfl,rfl⟩:=W;refine C6 1 [1,3,5,7,35,36,37,46,47,48,49] Z ?_;refine O9 (fun ai=>?_) fun ai=>?_
   ·have a3:j<n:=by
     have:=K5 ai;omega
    have aG:QB 23 (r.1.getD j 0):=KA aB;refine Pb fun R a=>?_;refine Pm ah.m_ U10 om_ (de om_) fl_ (fun a4 aH=>?_);refine O8 aH U8 ?_;refine C4 1 [1,3,5,7,9,35,36,37,46,47,48] a Z ?_;clear a R;refine Pv [0,1,2,3,4,5,6,7] [(3,1)] Z kr_ (fun R J a=>?_);refine Pa U6 ?_;refine Pe (.tail _ (.head _)) U9 ?_;refine Pa U6 ?_;refine Pw (fun _=>(dT _ (r.1.getD j 0) (Md (bE aG dc_) dc_))) U9 ?_;refine Ps [[al (qtx (-(r.1.getD j 0)))]] U12 (fun a5 _ _ aI=>?_);refine Pu (j:=0) U11 aI Z (by simp only [aE,maxLen];omega) (by show (j+1)*16<=_;omega) fl_ (fun am an ao=>?_);refine Pa U6 ?_;refine Pg (j:=1) U12 ?_;refine Pd [1,3,5,7,35,36,37,46,47,48] a Z ?_;clear a J R;refine Pb fun R a=>?_;refine Pi _ U7 ?_;refine C4 1 [1,3,5,7,35,36,37,46,47,48] a Z ?_;clear a R;refine G.perm (L':=[.arr (sF am an ao) 56 1 (j+1) (((List.range (j+1)).map fun q=>-r.1.getD q 0).map aT).flatten,.obj b7 (.cells ⟨[al (qtx r.2),.slice am an ao]⟩ 209 (0,0)),.arr (sA A2 n2 c2) 3 1 i ((lbF n i).map aU).flatten,.arr (sB N O Q) 209 2 i ((lvF k wF i).map bl).flatten,.obj F (.cells ⟨[.int .i64 n,.slice A2 n2 c2,.slice N O Q,.slice A n1 B,al [48],.slice t v x]⟩ 212 (0,0)),.arr (sO A n1 B) 3 1 n (((List.range n)).map aU).flatten,.arr (sW t v x) 56 1 n (H.map aT).flatten]++(List.range i).map (opE n k wF)) (by rw [MU,My,My,MK];exact List.Perm.swap _ _ _) ?_;refine Pk (m':=n-(j+1)) om_ mup (hn_ [1,3,5,7,35,36,37,46,47,48] Z) ⟨j+1,am,an,ao,om_,Z,Z,Z⟩
   ·have aJ:j=n:=by
     have:=LS ai;omega
    rw [aJ];refine G.freeze 1 Z (fun _ _ S=>?_);refine Po (L':=[.arr (sF o p s) 56 1 n (((List.range n).map fun q=>-r.1.getD q 0).map aT).flatten,.arr (sA A2 n2 c2) 3 1 i ((lbF n i).map aU).flatten,.arr (sB N O Q) 209 2 i ((lvF k wF i).map bl).flatten,.obj F (.cells ⟨[.int .i64 n,.slice A2 n2 c2,.slice N O Q,.slice A n1 B,al [48],.slice t v x]⟩ 212 (0,0)),.arr (sO A n1 B) 3 1 n (((List.range n)).map aU).flatten,.arr (sW t v x) 56 1 n (H.map aT).flatten]++(List.range i).map (opE n k wF)) Z ?_;refine G.cut (fun fr C' E V=>∃ (A7:Option Addr)(n7 c7:Nat)(A8:Option Addr)(n8 c8:Nat),(True)/\fr=[(1,[],.pointer (some ⟨b1,0,none⟩)),(3,[],.pointer (some ⟨F,0,none⟩)),(35,[],.slice Ar k.length cr),(36,[],.int .i64 k.length),(37,[],.int .i64 i)]/\E=[.arr (sA A7 n7 c7) 3 1 (i+1) ((lbF n (i+1)).map aU).flatten,.arr (sB A8 n8 c8) 209 2 (i+1) ((lvF k (ET wF i (.slice o p s)) (i+1)).map bl).flatten,.obj F (.cells ⟨[.int .i64 n,.slice A7 n7 c7,.slice A8 n8 c8,.slice A n1 B,al [48],.slice t v x]⟩ 212 (0,0)),.arr (sO A n1 B) 3 1 n (((List.range n)).map aU).flatten,.arr (sW t v x) 56 1 n (H.map aT).flatten]++(List.range (i+1)).map (opE n k (ET wF i (.slice o p s)))) ?_ (fun fr a6 a7 V a8 W=>?_)
    ·refine PV (.cut [0,1,2,3,4,5,6,7,8,9,12,13,14] (.alt 10 (.cut [] (.alt 11 (.fin [15,16,17,18,19,20,21,22,23,24]) (.alt 15 (.cut [] (.alt 11 (.fin [16,17,18,19,20,21,22,23,24]) (.alt 16 (.cut [] (.alt 11 (.fin [17,18,19,20,21,22,23,24]) (.alt 17 (.fin [11,18,19,20,21,22,23,24]) .stop))) .stop))) (.alt 16 (.cut [] (.alt 11 (.fin [15,17,18,19,20,21,22,23,24]) (.alt 15 (.cut [] (.alt 11 (.fin [17,18,19,20,21,22,23,24]) (.alt 17 (.fin [11,18,19,20,21,22,23,24]) .stop))) (.alt 17 (.cut [] (.alt 11 (.fin [15,18,19,20,21,22,23,24]) (.alt 15 (.fin [11,18,19,20,21,22,23,24]) .stop))) .stop)))) .stop)))) (.alt 15 (.cut [] (.alt 10 (.cut [] (.alt 11 (.fin [16,17,18,19,20,21,22,23,24]) (.alt 16 (.cut [] (.alt 11 (.fin [17,18,19,20,21,22,23,24]) (.alt 17 (.fin [11,18,19,20,21,22,23,24]) .stop))) .stop))) (.alt 16 (.cut [] (.alt 10 (.cut [] (.alt 11 (.fin [17,18,19,20,21,22,23,24]) (.alt 17 (.fin [11,18,19,20,21,22,23,24]) .stop))) (.alt 17 (.fin [10,11,18,19,20,21,22,23,24]) .stop))) .stop))) (.alt 16 (.cut [] (.alt 10 (.cut [] (.alt 11 (.fin [15,17,18,19,20,21,22,23,24]) (.alt 15 (.cut [] (.alt 11 (.fin [17,18,19,20,21,22,23,24]) (.alt 17 (.fin [11,18,19,20,21,22,23,24]) .stop))) (.alt 17 (.cut [] (.alt 11 (.fin [15,18,19,20,21,22,23,24]) (.alt 15 (.fin [11,18,19,20,21,22,23,24]) .stop))) .stop)))) (.alt 15 (.cut [] (.alt 10 (.cut [] (.alt 11 (.fin [17,18,19,20,21,22,23,24]) (.alt 17 (.fin [11,18,19,20,21,22,23,24]) .stop))) (.alt 17 (.fin [10,11,18,19,20,21,22,23,24]) .stop))) (.alt 17 (.cut [] (.alt 10 (.cut [] (.alt 11 (.fin [15,18,19,20,21,22,23,24]) (.alt 15 (.fin [11,18,19,20,21,22,23,24]) .stop))) (.alt 15 (.fin [10,11,18,19,20,21,22,23,24]) .stop))) .stop)))) .stop)))) [] Z Z kr_ (fun R J a z=>?_);refine Pc 5 Z ?_;refine Pe (.tail _ (.tail _ (.tail _ (.head _)))) U9 ?_;refine Pa U6 ?_;refine O8 (bkT X 1) U8 ?_;refine Pa U6 ?_;refine Pi _ U7 ?_;refine Pc 3 Z ?_;refine PF z Z ⟨?_, ?_, ?_,trivial⟩
     ·refine Ps [[.int .i64 ((n:Int)+(i:Int))]] U12 (fun T U _ I=>?_);refine PF z Z ⟨?_, ?_, ?_,trivial⟩
      ·refine Pu (j:=1) U11 I.m_ Z (by simp only [aE,maxLen];omega) (by show (i+1)*8<=_;omega) fl_ (fun c d e=>?_);refine Pe (.tail _ (.tail _ (.tail _ (.head _)))) U9 ?_;refine O8 (bkT S 2) U8 ?_;refine Ps [[al (qtx r.2),.slice o p s]] U12 (fun L M _ y=>?_);refine Pu (j:=2) U11 y.m_ Z (by simp only [aE,maxLen];omega) (by show (i+1)*40<=_;omega) fl_ (fun f g h=>?_);refine Pc 2 Z ?_;refine Pg (j:=3) U12 ?_;refine Pc 2 Z ?_;refine Pg (j:=0) U12 ?_;refine Pd [1,3,35,36,37] a Z ?_;clear a J z R;refine G.perm (L':=kM n k H F t v x A n1 B i wF r o p s c d e f g h) (pkL [2,1,0,1,1,0] Z) ?_;refine G.perm _ (bk K) ?_;exact Pj 0 mup (hn_ [1,3,35,36,37] Z) ⟨c,d,e,f,g,h,trivial,Z,Z⟩
      ·refine Pe (.tail _ (.tail _ (.tail _ (.head _)))) U9 ?_;refine PF z Z ⟨?_, ?_,trivial⟩
       ·refine Pu (j:=1) U11 I.m_ Z (by simp only [aE,maxLen];omega) (by show (i+1)*8<=_;omega) fl_ (fun c d e=>?_);refine O8 (bkT S 2) U8 ?_;refine Ps [[al (qtx r.2),.slice o p s]] U12 (fun L M _ y=>?_);refine Pu (j:=2) U11 y.m_ Z (by simp only [aE,maxLen];omega) (by show (i+1)*40<=_;omega) fl_ (fun f g h=>?_);refine Pc 2 Z ?_;refine Pg (j:=3) U12 ?_;refine Pc 2 Z ?_;refine Pg (j:=0) U12 ?_;refine Pd [1,3,35,36,37] a Z ?_;clear a J z R;refine G.perm (L':=kM n k H F t v x A n1 B i wF r o p s c d e f g h) (pkL [2,1,0,1,1,0] Z) ?_;refine G.perm _ (bk K) ?_;exact Pj 0 mup (hn_ [1,3,35,36,37] Z) ⟨c,d,e,f,g,h,trivial,Z,Z⟩
       ·refine O8 (bkT S 2) U8 ?_;refine PF z Z ⟨?_, ?_,trivial⟩
        ·refine Pu (j:=1) U11 I.m_ Z (by simp only [aE,maxLen];omega) (by show (i+1)*8<=_;omega) fl_ (fun c d e=>?_);refine Ps [[al (qtx r.2),.slice o p s]] U12 (fun L M _ y=>?_);refine Pu (j:=2) U11 y.m_ Z (by simp only [aE,maxLen];omega) (by show (i+1)*40<=_;omega) fl_ (fun f g h=>?_);refine Pc 2 Z ?_;refine Pg (j:=3) U12 ?_;refine Pc 2 Z ?_;refine Pg (j:=0) U12 ?_;refine Pd [1,3,35,36,37] a Z ?_;clear a J z R;refine G.perm (L':=kM n k H F t v x A n1 B i wF r o p s c d e f g h) (pkL [2,1,0,1,1,0] Z) ?_;refine G.perm _ (bk K) ?_;exact Pj 0 mup (hn_ [1,3,35,36,37] Z) ⟨c,d,e,f,g,h,trivial,Z,Z⟩
        ·refine Ps [[al (qtx r.2),.slice o p s]] U12 (fun L M _ y=>?_);refine Pu (j:=1) U11 I.m_ Z (by simp only [aE,maxLen];omega) (by show (i+1)*8<=_;omega) fl_ (fun c d e=>?_);refine Pu (j:=2) U11 y.m_ Z (by simp only [aE,maxLen];omega) (by show (i+1)*40<=_;omega) fl_ (fun f g h=>?_);refine Pc 2 Z ?_;refine Pg (j:=3) U12 ?_;refine Pc 2 Z ?_;refine Pg (j:=0) U12 ?_;refine Pd [1,3,35,36,37] a Z ?_;clear a J z R;refine G.perm (L':=kM n k H F t v x A n1 B i wF r o p s c d e f g h) (pkL [2,1,0,1,1,0] Z) ?_;refine G.perm _ (bk K) ?_;exact Pj 0 mup (hn_ [1,3,35,36,37] Z) ⟨c,d,e,f,g,h,trivial,Z,Z⟩
      ·refine O8 (bkT S 2) U8 ?_;refine PF z Z ⟨?_, ?_, ?_,trivial⟩
       ·refine Pu (j:=1) U11 I.m_ Z (by simp only [aE,maxLen];omega) (by show (i+1)*8<=_;omega) fl_ (fun c d e=>?_);refine Pe (.tail _ (.tail _ (.tail _ (.head _)))) U9 ?_;refine Ps [[al (qtx r.2),.slice o p s]] U12 (fun L M _ y=>?_);refine Pu (j:=2) U11 y.m_ Z (by simp only [aE,maxLen];omega) (by show (i+1)*40<=_;omega) fl_ (fun f g h=>?_);refine Pc 2 Z ?_;refine Pg (j:=3) U12 ?_;refine Pc 2 Z ?_;refine Pg (j:=0) U12 ?_;refine Pd [1,3,35,36,37] a Z ?_;clear a J z R;refine G.perm (L':=kM n k H F t v x A n1 B i wF r o p s c d e f g h) (pkL [2,1,0,1,1,0] Z) ?_;refine G.perm _ (bk K) ?_;exact Pj 0 mup (hn_ [1,3,35,36,37] Z) ⟨c,d,e,f,g,h,trivial,Z,Z⟩
       ·refine Pe (.tail _ (.tail _ (.tail _ (.head _)))) U9 ?_;refine PF z Z ⟨?_, ?_,trivial⟩
        ·refine Pu (j:=1) U11 I.m_ Z (by simp only [aE,maxLen];omega) (by show (i+1)*8<=_;omega) fl_ (fun c d e=>?_);refine Ps [[al (qtx r.2),.slice o p s]] U12 (fun L M _ y=>?_);refine Pu (j:=2) U11 y.m_ Z (by simp only [aE,maxLen];omega) (by show (i+1)*40<=_;omega) fl_ (fun f g h=>?_);refine Pc 2 Z ?_;refine Pg (j:=3) U12 ?_;refine Pc 2 Z ?_;refine Pg (j:=0) U12 ?_;refine Pd [1,3,35,36,37] a Z ?_;clear a J z R;refine G.perm (L':=kM n k H F t v x A n1 B i wF r o p s c d e f g h) (pkL [2,1,0,1,1,0] Z) ?_;refine G.perm _ (bk K) ?_;exact Pj 0 mup (hn_ [1,3,35,36,37] Z) ⟨c,d,e,f,g,h,trivial,Z,Z⟩
        ·refine Ps [[al (qtx r.2),.slice o p s]] U12 (fun L M _ y=>?_);refine Pu (j:=1) U11 I.m_ Z (by simp only [aE,maxLen];omega) (by show (i+1)*8<=_;omega) fl_ (fun c d e=>?_);refine Pu (j:=2) U11 y.m_ Z (by simp only [aE,maxLen];omega) (by show (i+1)*40<=_;omega) fl_ (fun f g h=>?_);refine Pc 2 Z ?_;refine Pg (j:=3) U12 ?_;refine Pc 2 Z ?_;refine Pg (j:=0) U12 ?_;refine Pd [1,3,35,36,37] a Z ?_;clear a J z R;refine G.perm (L':=kM n k H F t v x A n1 B i wF r o p s c d e f g h) (pkL [2,1,0,1,1,0] Z) ?_;refine G.perm _ (bk K) ?_;exact Pj 0 mup (hn_ [1,3,35,36,37] Z) ⟨c,d,e,f,g,h,trivial,Z,Z⟩
       ·refine Ps [[al (qtx r.2),.slice o p s]] U12 (fun L M _ y=>?_);refine PF z Z ⟨?_, ?_,trivial⟩
        ·refine Pu (j:=1) U11 I.m_ Z (by simp only [aE,maxLen];omega) (by show (i+1)*8<=_;omega) fl_ (fun c d e=>?_);refine Pe (.tail _ (.tail _ (.tail _ (.head _)))) U9 ?_;refine Pu (j:=2) U11 y.m_ Z (by simp only [aE,maxLen];omega) (by show (i+1)*40<=_;omega) fl_ (fun f g h=>?_);refine Pc 2 Z ?_;refine Pg (j:=3) U12 ?_;refine Pc 2 Z ?_;refine Pg (j:=0) U12 ?_;refine Pd [1,3,35,36,37] a Z ?_;clear a J z R;refine G.perm (L':=kM n k H F t v x A n1 B i wF r o p s c d e f g h) (pkL [2,1,0,1,1,0] Z) ?_;refine G.perm _ (bk K) ?_;exact Pj 0 mup (hn_ [1,3,35,36,37] Z) ⟨c,d,e,f,g,h,trivial,Z,Z⟩
        ·refine Pe (.tail _ (.tail _ (.tail _ (.head _)))) U9 ?_;refine Pu (j:=1) U11 I.m_ Z (by simp only [aE,maxLen];omega) (by show (i+1)*8<=_;omega) fl_ (fun c d e=>?_);refine Pu (j:=2) U11 y.m_ Z (by simp only [aE,maxLen];omega) (by show (i+1)*40<=_;omega) fl_ (fun f g h=>?_);refine Pc 2 Z ?_;refine Pg (j:=3) U12 ?_;refine Pc 2 Z ?_;refine Pg (j:=0) U12 ?_;refine Pd [1,3,35,36,37] a Z ?_;clear a J z R;refine G.perm (L':=kM n k H F t v x A n1 B i wF r o p s c d e f g h) (pkL [2,1,0,1,1,0] Z) ?_;refine G.perm _ (bk K) ?_;exact Pj 0 mup (hn_ [1,3,35,36,37] Z) ⟨c,d,e,f,g,h,trivial,Z,Z⟩
     ·refine Pe (.tail _ (.tail _ (.tail _ (.head _)))) U9 ?_;refine PF z Z ⟨?_, ?_,trivial⟩
      ·refine Ps [[.int .i64 ((n:Int)+(i:Int))]] U12 (fun T U _ I=>?_);refine PF z Z ⟨?_, ?_,trivial⟩
       ·refine Pu (j:=1) U11 I.m_ Z (by simp only [aE,maxLen];omega) (by show (i+1)*8<=_;omega) fl_ (fun c d e=>?_);refine O8 (bkT S 2) U8 ?_;refine Ps [[al (qtx r.2),.slice o p s]] U12 (fun L M _ y=>?_);refine Pu (j:=2) U11 y.m_ Z (by simp only [aE,maxLen];omega) (by show (i+1)*40<=_;omega) fl_ (fun f g h=>?_);refine Pc 2 Z ?_;refine Pg (j:=3) U12 ?_;refine Pc 2 Z ?_;refine Pg (j:=0) U12 ?_;refine Pd [1,3,35,36,37] a Z ?_;clear a J z R;refine G.perm (L':=kM n k H F t v x A n1 B i wF r o p s c d e f g h) (pkL [2,1,0,1,1,0] Z) ?_;refine G.perm _ (bk K) ?_;exact Pj 0 mup (hn_ [1,3,35,36,37] Z) ⟨c,d,e,f,g,h,trivial,Z,Z⟩
       ·refine O8 (bkT S 2) U8 ?_;refine PF z Z ⟨?_, ?_,trivial⟩
        ·refine Pu (j:=1) U11 I.m_ Z (by simp only [aE,maxLen];omega) (by show (i+1)*8<=_;omega) fl_ (fun c d e=>?_);refine Ps [[al (qtx r.2),.slice o p s]] U12 (fun L M _ y=>?_);refine Pu (j:=2) U11 y.m_ Z (by simp only [aE,maxLen];omega) (by show (i+1)*40<=_;omega) fl_ (fun f g h=>?_);refine Pc 2 Z ?_;refine Pg (j:=3) U12 ?_;refine Pc 2 Z ?_;refine Pg (j:=0) U12 ?_;refine Pd [1,3,35,36,37] a Z ?_;clear a J z R;refine G.perm (L':=kM n k H F t v x A n1 B i wF r o p s c d e f g h) (pkL [2,1,0,1,1,0] Z) ?_;refine G.perm _ (bk K) ?_;exact Pj 0 mup (hn_ [1,3,35,36,37] Z) ⟨c,d,e,f,g,h,trivial,Z,Z⟩
        ·refine Ps [[al (qtx r.2),.slice o p s]] U12 (fun L M _ y=>?_);refine Pu (j:=1) U11 I.m_ Z (by simp only [aE,maxLen];omega) (by show (i+1)*8<=_;omega) fl_ (fun c d e=>?_);refine Pu (j:=2) U11 y.m_ Z (by simp only [aE,maxLen];omega) (by show (i+1)*40<=_;omega) fl_ (fun f g h=>?_);refine Pc 2 Z ?_;refine Pg (j:=3) U12 ?_;refine Pc 2 Z ?_;refine Pg (j:=0) U12 ?_;refine Pd [1,3,35,36,37] a Z ?_;clear a J z R;refine G.perm (L':=kM n k H F t v x A n1 B i wF r o p s c d e f g h) (pkL [2,1,0,1,1,0] Z) ?_;refine G.perm _ (bk K) ?_;exact Pj 0 mup (hn_ [1,3,35,36,37] Z) ⟨c,d,e,f,g,h,trivial,Z,Z⟩
      ·refine O8 (bkT S 2) U8 ?_;refine PF z Z ⟨?_, ?_,trivial⟩
       ·refine Ps [[.int .i64 ((n:Int)+(i:Int))]] U12 (fun T U _ I=>?_);refine PF z Z ⟨?_, ?_,trivial⟩
        ·refine Pu (j:=1) U11 I.m_ Z (by simp only [aE,maxLen];omega) (by show (i+1)*8<=_;omega) fl_ (fun c d e=>?_);refine Ps [[al (qtx r.2),.slice o p s]] U12 (fun L M _ y=>?_);refine Pu (j:=2) U11 y.m_ Z (by simp only [aE,maxLen];omega) (by show (i+1)*40<=_;omega) fl_ (fun f g h=>?_);refine Pc 2 Z ?_;refine Pg (j:=3) U12 ?_;refine Pc 2 Z ?_;refine Pg (j:=0) U12 ?_;refine Pd [1,3,35,36,37] a Z ?_;clear a J z R;refine G.perm (L':=kM n k H F t v x A n1 B i wF r o p s c d e f g h) (pkL [2,1,0,1,1,0] Z) ?_;refine G.perm _ (bk K) ?_;exact Pj 0 mup (hn_ [1,3,35,36,37] Z) ⟨c,d,e,f,g,h,trivial,Z,Z⟩
        ·refine Ps [[al (qtx r.2),.slice o p s]] U12 (fun L M _ y=>?_);refine Pu (j:=1) U11 I.m_ Z (by simp only [aE,maxLen];omega) (by show (i+1)*8<=_;omega) fl_ (fun c d e=>?_);refine Pu (j:=2) U11 y.m_ Z (by simp only [aE,maxLen];omega) (by show (i+1)*40<=_;omega) fl_ (fun f g h=>?_);refine Pc 2 Z ?_;refine Pg (j:=3) U12 ?_;refine Pc 2 Z ?_;refine Pg (j:=0) U12 ?_;refine Pd [1,3,35,36,37] a Z ?_;clear a J z R;refine G.perm (L':=kM n k H F t v x A n1 B i wF r o p s c d e f g h) (pkL [2,1,0,1,1,0] Z) ?_;refine G.perm _ (bk K) ?_;exact Pj 0 mup (hn_ [1,3,35,36,37] Z) ⟨c,d,e,f,g,h,trivial,Z,Z⟩
       ·refine Ps [[al (qtx r.2),.slice o p s]] U12 (fun L M _ y=>?_);refine Ps [[.int .i64 ((n:Int)+(i:Int))]] U12 (fun T U _ I=>?_);refine Pu (j:=1) U11 I.m_ Z (by simp only [aE,maxLen];omega) (by show (i+1)*8<=_;omega) fl_ (fun c d e=>?_);refine Pu (j:=2) U11 y.m_ Z (by simp only [aE,maxLen];omega) (by show (i+1)*40<=_;omega) fl_ (fun f g h=>?_);refine Pc 2 Z ?_;refine Pg (j:=3) U12 ?_;refine Pc 2 Z ?_;refine Pg (j:=0) U12 ?_;refine Pd [1,3,35,36,37] a Z ?_;clear a J z R;refine G.perm (L':=kM n k H F t v x A n1 B i wF r o p s c d e f g h) (pkL [2,1,0,1,1,0] Z) ?_;refine G.perm _ (bk K) ?_;exact Pj 0 mup (hn_ [1,3,35,36,37] Z) ⟨c,d,e,f,g,h,trivial,Z,Z⟩
     ·refine O8 (bkT S 2) U8 ?_;refine PF z Z ⟨?_, ?_, ?_,trivial⟩
      ·refine Ps [[.int .i64 ((n:Int)+(i:Int))]] U12 (fun T U _ I=>?_);refine PF z Z ⟨?_, ?_, ?_,trivial⟩
       ·refine Pu (j:=1) U11 I.m_ Z (by simp only [aE,maxLen];omega) (by show (i+1)*8<=_;omega) fl_ (fun c d e=>?_);refine Pe (.tail _ (.tail _ (.tail _ (.head _)))) U9 ?_;refine Ps [[al (qtx r.2),.slice o p s]] U12 (fun L M _ y=>?_);refine Pu (j:=2) U11 y.m_ Z (by simp only [aE,maxLen];omega) (by show (i+1)*40<=_;omega) fl_ (fun f g h=>?_);refine Pc 2 Z ?_;refine Pg (j:=3) U12 ?_;refine Pc 2 Z ?_;refine Pg (j:=0) U12 ?_;refine Pd [1,3,35,36,37] a Z ?_;clear a J z R;refine G.perm (L':=kM n k H F t v x A n1 B i wF r o p s c d e f g h) (pkL [2,1,0,1,1,0] Z) ?_;refine G.perm _ (bk K) ?_;exact Pj 0 mup (hn_ [1,3,35,36,37] Z) ⟨c,d,e,f,g,h,trivial,Z,Z⟩
       ·refine Pe (.tail _ (.tail _ (.tail _ (.head _)))) U9 ?_;refine PF z Z ⟨?_, ?_,trivial⟩
        ·refine Pu (j:=1) U11 I.m_ Z (by simp only [aE,maxLen];omega) (by show (i+1)*8<=_;omega) fl_ (fun c d e=>?_);refine Ps [[al (qtx r.2),.slice o p s]] U12 (fun L M _ y=>?_);refine Pu (j:=2) U11 y.m_ Z (by simp only [aE,maxLen];omega) (by show (i+1)*40<=_;omega) fl_ (fun f g h=>?_);refine Pc 2 Z ?_;refine Pg (j:=3) U12 ?_;refine Pc 2 Z ?_;refine Pg (j:=0) U12 ?_;refine Pd [1,3,35,36,37] a Z ?_;clear a J z R;refine G.perm (L':=kM n k H F t v x A n1 B i wF r o p s c d e f g h) (pkL [2,1,0,1,1,0] Z) ?_;refine G.perm _ (bk K) ?_;exact Pj 0 mup (hn_ [1,3,35,36,37] Z) ⟨c,d,e,f,g,h,trivial,Z,Z⟩
        ·refine Ps [[al (qtx r.2),.slice o p s]] U12 (fun L M _ y=>?_);refine Pu (j:=1) U11 I.m_ Z (by simp only [aE,maxLen];omega) (by show (i+1)*8<=_;omega) fl_ (fun c d e=>?_);refine Pu (j:=2) U11 y.m_ Z (by simp only [aE,maxLen];omega) (by show (i+1)*40<=_;omega) fl_ (fun f g h=>?_);refine Pc 2 Z ?_;refine Pg (j:=3) U12 ?_;refine Pc 2 Z ?_;refine Pg (j:=0) U12 ?_;refine Pd [1,3,35,36,37] a Z ?_;clear a J z R;refine G.perm (L':=kM n k H F t v x A n1 B i wF r o p s c d e f g h) (pkL [2,1,0,1,1,0] Z) ?_;refine G.perm _ (bk K) ?_;exact Pj 0 mup (hn_ [1,3,35,36,37] Z) ⟨c,d,e,f,g,h,trivial,Z,Z⟩
       ·refine Ps [[al (qtx r.2),.slice o p s]] U12 (fun L M _ y=>?_);refine PF z Z ⟨?_, ?_,trivial⟩
        ·refine Pu (j:=1) U11 I.m_ Z (by simp only [aE,maxLen];omega) (by show (i+1)*8<=_;omega) fl_ (fun c d e=>?_);refine Pe (.tail _ (.tail _ (.tail _ (.head _)))) U9 ?_;refine Pu (j:=2) U11 y.m_ Z (by simp only [aE,maxLen];omega) (by show (i+1)*40<=_;omega) fl_ (fun f g h=>?_);refine Pc 2 Z ?_;refine Pg (j:=3) U12 ?_;refine Pc 2 Z ?_;refine Pg (j:=0) U12 ?_;refine Pd [1,3,35,36,37] a Z ?_;clear a J z R;refine G.perm (L':=kM n k H F t v x A n1 B i wF r o p s c d e f g h) (pkL [2,1,0,1,1,0] Z) ?_;refine G.perm _ (bk K) ?_;exact Pj 0 mup (hn_ [1,3,35,36,37] Z) ⟨c,d,e,f,g,h,trivial,Z,Z⟩
        ·refine Pe (.tail _ (.tail _ (.tail _ (.head _)))) U9 ?_;refine Pu (j:=1) U11 I.m_ Z (by simp only [aE,maxLen];omega) (by show (i+1)*8<=_;omega) fl_ (fun c d e=>?_);refine Pu (j:=2) U11 y.m_ Z (by simp only [aE,maxLen];omega) (by show (i+1)*40<=_;omega) fl_ (fun f g h=>?_);refine Pc 2 Z ?_;refine Pg (j:=3) U12 ?_;refine Pc 2 Z ?_;refine Pg (j:=0) U12 ?_;refine Pd [1,3,35,36,37] a Z ?_;clear a J z R;refine G.perm (L':=kM n k H F t v x A n1 B i wF r o p s c d e f g h) (pkL [2,1,0,1,1,0] Z) ?_;refine G.perm _ (bk K) ?_;exact Pj 0 mup (hn_ [1,3,35,36,37] Z) ⟨c,d,e,f,g,h,trivial,Z,Z⟩
      ·refine Pe (.tail _ (.tail _ (.tail _ (.head _)))) U9 ?_;refine PF z Z ⟨?_, ?_,trivial⟩
       ·refine Ps [[.int .i64 ((n:Int)+(i:Int))]] U12 (fun T U _ I=>?_);refine PF z Z ⟨?_, ?_,trivial⟩
        ·refine Pu (j:=1) U11 I.m_ Z (by simp only [aE,maxLen];omega) (by show (i+1)*8<=_;omega) fl_ (fun c d e=>?_);refine Ps [[al (qtx r.2),.slice o p s]] U12 (fun L M _ y=>?_);refine Pu (j:=2) U11 y.m_ Z (by simp only [aE,maxLen];omega) (by show (i+1)*40<=_;omega) fl_ (fun f g h=>?_);refine Pc 2 Z ?_;refine Pg (j:=3) U12 ?_;refine Pc 2 Z ?_;refine Pg (j:=0) U12 ?_;refine Pd [1,3,35,36,37] a Z ?_;clear a J z R;refine G.perm (L':=kM n k H F t v x A n1 B i wF r o p s c d e f g h) (pkL [2,1,0,1,1,0] Z) ?_;refine G.perm _ (bk K) ?_;exact Pj 0 mup (hn_ [1,3,35,36,37] Z) ⟨c,d,e,f,g,h,trivial,Z,Z⟩
        ·refine Ps [[al (qtx r.2),.slice o p s]] U12 (fun L M _ y=>?_);refine Pu (j:=1) U11 I.m_ Z (by simp only [aE,maxLen];omega) (by show (i+1)*8<=_;omega) fl_ (fun c d e=>?_);refine Pu (j:=2) U11 y.m_ Z (by simp only [aE,maxLen];omega) (by show (i+1)*40<=_;omega) fl_ (fun f g h=>?_);refine Pc 2 Z ?_;refine Pg (j:=3) U12 ?_;refine Pc 2 Z ?_;refine Pg (j:=0) U12 ?_;refine Pd [1,3,35,36,37] a Z ?_;clear a J z R;refine G.perm (L':=kM n k H F t v x A n1 B i wF r o p s c d e f g h) (pkL [2,1,0,1,1,0] Z) ?_;refine G.perm _ (bk K) ?_;exact Pj 0 mup (hn_ [1,3,35,36,37] Z) ⟨c,d,e,f,g,h,trivial,Z,Z⟩
       ·refine Ps [[al (qtx r.2),.slice o p s]] U12 (fun L M _ y=>?_);refine Ps [[.int .i64 ((n:Int)+(i:Int))]] U12 (fun T U _ I=>?_);refine Pu (j:=1) U11 I.m_ Z (by simp only [aE,maxLen];omega) (by show (i+1)*8<=_;omega) fl_ (fun c d e=>?_);refine Pu (j:=2) U11 y.m_ Z (by simp only [aE,maxLen];omega) (by show (i+1)*40<=_;omega) fl_ (fun f g h=>?_);refine Pc 2 Z ?_;refine Pg (j:=3) U12 ?_;refine Pc 2 Z ?_;refine Pg (j:=0) U12 ?_;refine Pd [1,3,35,36,37] a Z ?_;clear a J z R;refine G.perm (L':=kM n k H F t v x A n1 B i wF r o p s c d e f g h) (pkL [2,1,0,1,1,0] Z) ?_;refine G.perm _ (bk K) ?_;exact Pj 0 mup (hn_ [1,3,35,36,37] Z) ⟨c,d,e,f,g,h,trivial,Z,Z⟩
      ·refine Ps [[al (qtx r.2),.slice o p s]] U12 (fun L M _ y=>?_);refine PF z Z ⟨?_, ?_,trivial⟩
       ·refine Ps [[.int .i64 ((n:Int)+(i:Int))]] U12 (fun T U _ I=>?_);refine PF z Z ⟨?_, ?_,trivial⟩
        ·refine Pu (j:=1) U11 I.m_ Z (by simp only [aE,maxLen];omega) (by show (i+1)*8<=_;omega) fl_ (fun c d e=>?_);refine Pe (.tail _ (.tail _ (.tail _ (.head _)))) U9 ?_;refine Pu (j:=2) U11 y.m_ Z (by simp only [aE,maxLen];omega) (by show (i+1)*40<=_;omega) fl_ (fun f g h=>?_);refine Pc 2 Z ?_;refine Pg (j:=3) U12 ?_;refine Pc 2 Z ?_;refine Pg (j:=0) U12 ?_;refine Pd [1,3,35,36,37] a Z ?_;clear a J z R;refine G.perm (L':=kM n k H F t v x A n1 B i wF r o p s c d e f g h) (pkL [2,1,0,1,1,0] Z) ?_;refine G.perm _ (bk K) ?_;exact Pj 0 mup (hn_ [1,3,35,36,37] Z) ⟨c,d,e,f,g,h,trivial,Z,Z⟩
        ·refine Pe (.tail _ (.tail _ (.tail _ (.head _)))) U9 ?_;refine Pu (j:=1) U11 I.m_ Z (by simp only [aE,maxLen];omega) (by show (i+1)*8<=_;omega) fl_ (fun c d e=>?_);refine Pu (j:=2) U11 y.m_ Z (by simp only [aE,maxLen];omega) (by show (i+1)*40<=_;omega) fl_ (fun f g h=>?_);refine Pc 2 Z ?_;refine Pg (j:=3) U12 ?_;refine Pc 2 Z ?_;refine Pg (j:=0) U12 ?_;refine Pd [1,3,35,36,37] a Z ?_;clear a J z R;refine G.perm (L':=kM n k H F t v x A n1 B i wF r o p s c d e f g h) (pkL [2,1,0,1,1,0] Z) ?_;refine G.perm _ (bk K) ?_;exact Pj 0 mup (hn_ [1,3,35,36,37] Z) ⟨c,d,e,f,g,h,trivial,Z,Z⟩
       ·refine Pe (.tail _ (.tail _ (.tail _ (.head _)))) U9 ?_;refine Ps [[.int .i64 ((n:Int)+(i:Int))]] U12 (fun T U _ I=>?_);refine Pu (j:=1) U11 I.m_ Z (by simp only [aE,maxLen];omega) (by show (i+1)*8<=_;omega) fl_ (fun c d e=>?_);refine Pu (j:=2) U11 y.m_ Z (by simp only [aE,maxLen];omega) (by show (i+1)*40<=_;omega) fl_ (fun f g h=>?_);refine Pc 2 Z ?_;refine Pg (j:=3) U12 ?_;refine Pc 2 Z ?_;refine Pg (j:=0) U12 ?_;refine Pd [1,3,35,36,37] a Z ?_;clear a J z R;refine G.perm (L':=kM n k H F t v x A n1 B i wF r o p s c d e f g h) (pkL [2,1,0,1,1,0] Z) ?_;refine G.perm _ (bk K) ?_;exact Pj 0 mup (hn_ [1,3,35,36,37] Z) ⟨c,d,e,f,g,h,trivial,Z,Z⟩
    obtain ⟨A7,n7,c7,A8,n8,c8,_,rfl,rfl⟩:=W;refine Pb fun R a=>?_;refine Pi _ U7 ?_;refine C4 1 [1,3,35,36,37] a Z ?_;clear a R;refine Pk (m':=k.length-(i+1)) om_ mup (hn_ [1,3,35,36,37] Z) ⟨i+1,A7,n7,c7,A8,n8,c8,(ET wF i (.slice o p s)),om_,Z,Z,Z⟩
  ·have af:i=k.length:=by
    have:=LS ag;omega
   refine C6 2 [2] Z ?_;rw [af];refine G.perm (L':=(eD F n (Lp.openT (ek n k) fun j=>H.getD j 0) (.slice A2 n2 c2) (.slice N O Q) (.slice A n1 B) (.slice t v x) wF).map Lent.ent) (by rw [CO ap];(exact pkL [2,0,0,0] Z)) ?_;refine Pl (PM Z Z ?_);exact ⟨F,.slice A2 n2 c2,.slice N O Q,.slice A n1 B,.slice t v x,wF,Z,Z⟩
end Go.Proofs.YthnpijdjlddpmaaGreatDoor
