/- Laws that the proofs of this seat share, part 13. -/
import Derived.Test.YtfjcldheldflbaaGreatDoorG12
import Derived.Test.YtfjcldheldflbaaGreatDoorShelf
set_option maxHeartbeats 4000000
namespace Go.Proofs.YtfjcldheldflbaaGreatDoor
open Go.Proofs.Tryz
open Go Go.Jog
set_option maxRecDepth 100000
variable {F N b:Nat}{cc:Nat->Rat}{i j:Nat}{l:Lp.Line}{m n:Nat}{o:Int}{ob:List Rat}{p:Lp.Sys}{q:Nat->Prop}{r:Nat}{rows:List RowQ}{rs:List (List Rat × Rat)}{s:Nat}{t:Lp.Tab}{u:Value}{vs:List Nat}{w wB:Value}{wF:Nat->Value}{wL wO wW wy:Value}
theorem vQ {y:Lp.Line}(a:s<l.f.length):kr l.f y.f s (l.f.getD s 0) l.f.length=(Lp.putL l s y).f/\l.c+l.f.getD s 0*y.c=(Lp.putL l s y).c:=by
 have h:=EN (c:=l.c) (bc:=y.c) (bf:=y.f) a;exact ⟨(congrArg Lp.Line.f h).symm,(congrArg Lp.Line.c h).symm⟩
theorem Il (C:Mem)(k:Tabs C)(b m e i n s:Nat)(w d:Value)(a:List (Rat × Value))(l y:Lp.Line)(o:a.length=m)(p:a[i]?=some (l.c,w))(g:l.f.length=n)(q:y.f.length=n)(r:s<n)(h:QB 50 l.c/\∀ x∈l.f,QB 50 x)(j:QB 50 y.c/\∀ x∈y.f,QB 50 x) :
  Jog.Fn cx.P 262 [.pointer (some ⟨b,i*2,none⟩),.int .i64 s,.agg ⟨[ah (qtx y.c),d]⟩] C [.arr d 32 1 n (y.f.map aQ).flatten,.arr (.slice (some ⟨b,0,none⟩) m e) 228 2 m (a.map bE).flatten,.arr w 32 1 n (l.f.map aQ).flatten]
   fun u _ t=>u=.tuple #[]/\t=[.arr d 32 1 n (y.f.map aQ).flatten,.arr (.slice (some ⟨b,0,none⟩) m e) 228 2 m ((a.set i ((Lp.putL l s y).c,w)).map bE).flatten,.arr w 32 1 n ((Lp.putL l s y).f.map aQ).flatten]:=by
 obtain ⟨h1,h2⟩:=vQ (l:=l) (y:=y) (s:=s) om_;rw [<- h1,<- h2,g];exact Im C k b m e i n s w d a l.f y.f l.c y.c o p g q r h.1 h.2 j.1 j.2
theorem Ij (C:Mem)(m:Tabs C)(a n s:Nat)(d e g h w b:Value)(l y:Lp.Line)(i:l.f.length=n)(o:y.f.length=n)(p:s<n)(j:QB 50 l.c/\∀ x∈l.f,QB 50 x)(k:QB 50 y.c/\∀ x∈y.f,QB 50 x) :
  Jog.Fn cx.P 262 [.pointer (some ⟨a,4,none⟩),.int .i64 s,.agg ⟨[ah (qtx y.c),b]⟩] C [.arr b 32 1 n (y.f.map aQ).flatten,.obj a (.cells ⟨[d,e,g,h,ah (qtx l.c),w]⟩ 231 (0,0)),.arr w 32 1 n (l.f.map aQ).flatten]
   fun u _ q=>u=.tuple #[]/\q=[.arr b 32 1 n (y.f.map aQ).flatten,.obj a (.cells ⟨[d,e,g,h,ah (qtx (Lp.putL l s y).c),w]⟩ 231 (0,0)),.arr w 32 1 n ((Lp.putL l s y).f.map aQ).flatten]:=by
 obtain ⟨h1,h2⟩:=vQ (l:=l) (y:=y) (s:=s) om_;rw [<- h1,<- h2,i];exact Ik C m a n s d e g h w b l.f y.f l.c y.c i o p j.1 j.2 k.1 k.2
def byF (l:Lp.Line)(s j:Nat):List Rat:=(List.range l.f.length).map fun q=>if q<j then (Lp.byL l s).g q else 0
theorem kI :(byF l s j).length=l.f.length:=by simp [byF]
theorem Bx {q:Nat}(h:q<l.f.length):(byF l s j)[q]?=some (if q<j then (Lp.byL l s).g q else 0):=by
 unfold byF;rw [PD,Qd h];rfl
theorem JG :List.replicate l.f.length 0=byF l s 0:=by
 refine List.ext_getElem? fun v=>?_;by_cases a:v<l.f.length
 ·rw [Bx a,Q2,aL a,aF (Nat.not_lt_zero _)]
 rw [PJ aq,PJ (by rw [kI];omega)]
theorem MQ (h:j<l.f.length):(byF l s j).set j (-(if j=s then -1 else l.g j) / l.g s)=byF l s (j+1):=by
 refine List.ext_getElem? fun q=>?_;rw [List.getElem?_set,kI];by_cases a:q<l.f.length
 ·rw [Bx a,Bx a];by_cases e:j=q
  ·subst e;rw [aL rfl,aL a,aL (Nat.lt_succ_self j),Lp.byL_g a];congr 1;split <;> grind
  rw [aF e];by_cases h1:q<j
  ·rw [aL h1,aL om_]
  rw [aF h1,aF om_]
 rw [aF om_,PJ (by rw [kI];omega),PJ (by rw [kI];omega)]
theorem uG :(Lp.byL l s).f.length=l.f.length:=by simp [Lp.byL]
theorem MR :byF l s l.f.length=(Lp.byL l s).f:=by
 refine List.ext_getElem? fun q=>?_;by_cases a:q<l.f.length
 ·rw [Bx a,aL a];unfold Lp.Line.g;rw [ay,al (by rw [uG];exact a)];rfl
 rw [PJ (by rw [kI];omega),PJ (by rw [uG];omega)]
def stL (t:Lp.Tab)(r s i q:Nat):Lp.Line:=if q<i/\q≠r then Lp.putL (t.line q) s (Lp.byL (t.line r) s) else t.line q
def stV (t:Lp.Tab)(wF:Nat->Value)(r s i:Nat):List (Rat × Value):=(List.range t.basic.length).map fun q=>((stL t r s i q).c,wF q)
def stE (t:Lp.Tab)(wF:Nat->Value)(r s i q:Nat):Ent:=.arr (wF q) 32 1 t.others.length ((stL t r s i q).f.map aQ).flatten
theorem iH :(stV t wF r s i).length=t.basic.length:=by simp [stV]
theorem zM {q:Nat}(h:q<t.basic.length):(stV t wF r s i)[q]?=some ((stL t r s i q).c,wF q):=by
 unfold stV;rw [PD,Qd h];rfl
theorem tg {q:Nat}:stL t r s 0 q=t.line q:=aF fun h=>Nat.not_lt_zero _ h.1
theorem oF {q:Nat}(h:q≠i):stL t r s (i+1) q=stL t r s i q:=by
 unfold stL;by_cases h1:q<i/\q≠r
 ·rw [aL h1,aL ⟨by omega,h1.2⟩]
 rw [aF h1,aF fun h2=>h1 ⟨by omega,h2.2⟩]
theorem nL (h:i≠r):stL t r s i i=t.line i/\stL t r s (i+1) i=Lp.putL (t.line i) s (Lp.byL (t.line r) s) :=
 ⟨aF fun h2=>Nat.lt_irrefl _ h2.1,aL ⟨Nat.lt_succ_self _,h⟩⟩
theorem zN {q:Nat}:stL t r s (r+1) q=stL t r s r q:=by
 by_cases h:q=r
 ·subst h;unfold stL;rw [aF fun h=>h.2 rfl,aF fun h=>h.2 rfl]
 exact oF h
theorem Lc (b:i<t.basic.length)(h:i≠r):(stV t wF r s i).set i ((Lp.putL (t.line i) s (Lp.byL (t.line r) s)).c,wF i)=stV t wF r s (i+1):=by
 refine List.ext_getElem? fun q=>?_;rw [List.getElem?_set,iH];by_cases a:q<t.basic.length
 ·rw [zM a,zM a];by_cases e:i=q
  ·subst e;rw [aL rfl,aL a,(nL h).2]
  rw [aF e,oF (Ne.symm e)]
 rw [aF om_,PJ (by rw [iH];omega),PJ (by rw [iH];omega)]
theorem HL :stV t wF r s (r+1)=stV t wF r s r:=by
 unfold stV;simp only [zN]
theorem HK :stV t wF r s 0=cK t wF:=by
 unfold stV cK;simp only [tg]
theorem Ld (d:t.Ok N)(f:r<t.basic.length):(stV t wF r s t.basic.length).set r ((Lp.byL (t.line r) s).c,wy)=cK (t.pivot r s) fun q=>if q=r then wy else wF q:=by
 have b:(t.pivot r s).basic.length=t.basic.length:=Qf;refine List.ext_getElem? fun q=>?_;rw [List.getElem?_set,iH];by_cases a:q<t.basic.length
 ·rw [zM a,nO (by rw [b];exact a),Lp.pivot_line (by rw [d.ll];exact a)];by_cases e:r=q
  ·subst e;rw [aL rfl,aL a,aL rfl,aL rfl]
  rw [aF e,aF (Ne.symm e),aF (Ne.symm e)];unfold stL;rw [aL ⟨a,Ne.symm e⟩]
 rw [aF om_,PJ (by rw [iH];omega),PJ (by rw [fA,b];omega)]
theorem range_nd :(List.range m).Nodup:=List.nodup_range
theorem Le (b:t.Ok N)(c:r<t.basic.length) :
  (.arr wy 32 1 t.others.length ((Lp.byL (t.line r) s).f.map aQ).flatten::((List.range t.basic.length).erase r).map (stE t wF r s t.basic.length)).Perm (((List.range (t.pivot r s).basic.length).map (Ka (t.pivot r s) fun q=>if q=r then wy else wF q)).map Lent.ent):=by
 have g:(t.pivot r s).basic.length=t.basic.length:=Qf;have d:(t.pivot r s).others.length=t.others.length:=Qf;rw [g,Qv];have h0:(Lent.ent ∘ Ka (t.pivot r s) fun q=>if q=r then wy else wF q) r=.arr wy 32 1 t.others.length ((Lp.byL (t.line r) s).f.map aQ).flatten:=by
  show Ent.arr (if r=r then wy else wF r) _ 1 (t.pivot r s).others.length _=_;rw [aL rfl,d,Lp.pivot_line (by rw [b.ll];exact c),aL rfl]
 have h1:=lu range_nd (PS.2 c) (Lent.ent ∘ Ka (t.pivot r s) fun q=>if q=r then wy else wF q) (stE t wF r s t.basic.length) (fun q h a=>by
  have e:=PS.1 h;show Ent.arr (if q=r then wy else wF q) _ 1 (t.pivot r s).others.length _=_;rw [aF a,d,Lp.pivot_line (by rw [b.ll];exact e),aF a];unfold stE stL;rw [aL ⟨e,a⟩])
 rw [h0] at h1;exact h1.symm
theorem La (a:t.Ok N)(d:r<t.basic.length) :
  (([.obj b (.cells ⟨[.int .i64 n,wB,wL,wO,ah (qtx (Lp.putL t.worth s (Lp.byL (t.line r) s)).c),wW]⟩ 231 (0,0)),.arr wB 3 1 t.basic.length ((t.basic.set r (t.oth s)).map aS).flatten,.arr wL 228 2 t.basic.length (((stV t wF r s t.basic.length).set r ((Lp.byL (t.line r) s).c,wy)).map bE).flatten,.arr wO 3 1 t.others.length ((t.others.set s (t.bas r)).map aS).flatten,.arr wW 32 1 t.others.length (((Lp.putL t.worth s (Lp.byL (t.line r) s)).f).map aQ).flatten]:List Ent)++(.arr wy 32 1 t.others.length ((Lp.byL (t.line r) s).f.map aQ).flatten::((List.range t.basic.length).erase r).map (stE t wF r s t.basic.length))).Perm ((eY b n (t.pivot r s) wB wL wO wW fun q=>if q=r then wy else wF q).map Lent.ent):=by
 have e:(t.pivot r s).basic.length=t.basic.length:=Qf;have g:(t.pivot r s).others.length=t.others.length:=Qf;rw [Ld a d];refine (List.Perm.append_left _ (Le a d)).trans (List.Perm.of_eq ?_);unfold eY;simp only [Qa,Lent.ent,e,g];rfl
theorem yi {l:List Nat}(h:i<l.length):l[i]?=some (l.getD i 0):=by
 rw [ay,al h];rfl
theorem bg (r s:Nat):(eY b n t wB wL wO wW wF).map Lent.ent=[.obj b (.cells ⟨[.int .i64 n,wB,wL,wO,ah (qtx t.worth.c),wW]⟩ 231 (0,0)),.arr wB 3 1 t.basic.length ((t.basic).map aS).flatten,.arr wL 228 2 t.basic.length ((cK t wF).map bE).flatten,.arr wO 3 1 t.others.length ((t.others).map aS).flatten,.arr wW 32 1 t.others.length ((t.worth.f).map aQ).flatten]++(List.range t.basic.length).map (stE t wF r s 0):=by
 have e:stE t wF r s 0=Lent.ent ∘ Ka t wF:=funext fun q=>by
  unfold stE;rw [tg];rfl
 rw [e,<- Qv];rfl
def LineQ (k:Nat)(l:Lp.Line):Prop:=QB k l.c/\∀ x∈l.f,QB k x
theorem LineQ.le {k m:Nat}{l:Lp.Line}(h:LineQ k l)(a:k<=m):LineQ m l:=⟨h.1.le a,fun x b=>(h.2 x b).le a⟩
theorem LineQ.g {k:Nat}{l:Lp.Line}(h:LineQ k l){j:Nat}(a:j<l.f.length):QB k (l.g j):=by
 unfold Lp.Line.g;rw [ay,al a];exact h.2 _ (Qq _)
theorem Ph (h:LineQ 20 l)(c:s<l.f.length)(a:l.g s≠0):LineQ 40 (Lp.byL l s):=by
 have b:=h.g c;refine ⟨lY (fM h.1) b a,fun x d=>?_⟩;obtain ⟨q,e,rfl⟩:=PF.1 d;have i:=PS.1 e;split
 ·exact lY ⟨by decide,by decide⟩ b a
 exact lY (fM (h.g i)) b a
theorem tK (C:Mem)(Q:Tabs C)(b n r s N:Nat)(t:Lp.Tab)(S T U d:Value)(a:Nat->Value)(V:t.Ok N)(hm:t.basic.length<=1000000)(aO:t.others.length<=1000000)(B:r<t.basic.length)(W:s<t.others.length)(hk:(t.line r).g s≠0)(hq:∀ i,i<t.basic.length->LineQ 20 (t.line i))(az:LineQ 20 t.worth) :
  Jog.Fn cx.P 205 [.pointer (some ⟨b,0,none⟩),.int .i64 r,.int .i64 s] C ((eY b n t S T U d a).map Lent.ent) fun u _ A=>u=.tuple #[]/\∃ aA,A=(eY b n (t.pivot r s) S T U d aA).map Lent.ent:=by
 have aP:maxLen<=9223372036854775807:=by simp [maxLen]
 have X:=gW V B;have aB:=V.wl;have J:=hq r B;have ad:s<(t.line r).f.length:=by omega
 have ar:=J.g ad;have au:=Ph J ad hk;refine Tk func205 123 U3 fun w0=>?_;rw [bg r s];refine Tu (L':=[.obj b (.cells ⟨[.int .i64 n,S,T,U,ah (qtx t.worth.c),d]⟩ 231 (0,0)),.arr S 3 1 t.basic.length ((t.basic).map aS).flatten,.arr T 228 2 t.basic.length ((cK t a).map bE).flatten,.arr U 3 1 t.others.length ((t.others).map aS).flatten,.arr d 32 1 t.others.length ((t.worth.f).map aQ).flatten]++(List.range t.basic.length).map (stE t a r s 0)) Z<|UV 1 Z om_ (fun o p K=>?_);subst K;refine UV 2 Z om_ (fun k l K=>?_);subst K;refine UV 3 Z om_ (fun w x K=>?_);subst K;refine G.perm (L':=[.arr (a r) 32 1 t.others.length ((t.line r).f.map aQ).flatten,.obj b (.cells ⟨[.int .i64 n,.slice (some ⟨o,0,none⟩) t.basic.length p,.slice (some ⟨k,0,none⟩) t.basic.length l,.slice (some ⟨w,0,none⟩) t.others.length x,ah (qtx t.worth.c),d]⟩ 231 (0,0)),.arr (.slice (some ⟨o,0,none⟩) t.basic.length p) 3 1 t.basic.length ((t.basic).map aS).flatten,.arr (.slice (some ⟨k,0,none⟩) t.basic.length l) 228 2 t.basic.length ((cK t a).map bE).flatten,.arr (.slice (some ⟨w,0,none⟩) t.others.length x) 3 1 t.others.length ((t.others).map aS).flatten,.arr d 32 1 t.others.length ((t.worth.f).map aQ).flatten]++((List.range t.basic.length).erase r).map (stE t a r s 0)) (by
  have h1:=lu range_nd (PS.2 B) (stE t a r s 0) (stE t a r s 0) (fun _ _ _=>rfl);refine (List.Perm.append_left _ h1).trans ?_;have e:stE t a r s 0 r=.arr (a r) 32 1 t.others.length ((t.line r).f.map aQ).flatten:=by unfold stE;rw [tg]
  rw [e]
  (exact pkL [5] rfl)) ?_
 refine G.freezeArr 0 ((t.line r).f.map aQ) Z Z bS (by simp [X]) (fun _ _ L=>?_);obtain ⟨Y,c3,av,aC,aR,_⟩:=id L;rw [av] at L;simp only [am] at L aC;have aD:(cK t a)[r]?=some ((t.line r).c,.slice Y (t.line r).f.length c3):=by rw [nO B,av,am]
 refine Tc 3 Z fun R y=>Ti ag U9<|Te U6<|TE (r*2) U10 aj U2<|TZ (v:=.agg ⟨[ah (qtx (t.line r).c),.slice Y (t.line r).f.length c3]⟩) ae U6 (fun _=>(by rw [nR aD];rfl)) U2<|Tq U5 fun b6=>Tj (j:=0) U12<|Th [0,1,2,6] y Z<|G.freeze 0 Z fun _ _ ai=>Tc 1 Z fun R y=>Td (bkT ai 1) U8<|Te U6<|Tt L.m_ U10 om_ (dM ad) fl_ fun aT aE=>Td aE U8<|C6 1 [0,1,2,6,7] y Z<|TC [(5,3)] Z fun R y=>Tg 3 Z<|Ti ag U9<|Te U6<|D.call (iN _ t.others.length om_) Z (.inr dc_) U6 (PC _) fl_ (fun aU _ aV _ aG=>?_);obtain ⟨z,rfl,rfl⟩:=aG;refine Tw [ah [],.slice (some ⟨z,0,none⟩) t.others.length t.others.length] U8<|Tq U5 fun E=>Tj (j:=0) U12<|Th [0,1,2,6,7,8] y Z<|Tc 1 Z fun R y=>Td (bkT ai 1) U8<|Ts (eC _ (t.line r).c (PP (bl J.1 dc_) dc_)) U7 fl_<|Te U6<|Ts (gb _ Q.m_ (-(t.line r).c) ((t.line r).g s) 20 dc_ dc_ (fM J.1) ar hk) U7 fl_<|Tg 4 Z<|Tj (j:=0) U12<|Th [0,1,2,6,7,8] y Z<|Tc 1 Z fun R y=>Td (bkT ai 1) U8<|C6 2 [0,1,2,7,8,41,42,43] y Z<|Tu (L':=[.obj E (.cells ⟨[ah (qtx (Lp.byL (t.line r) s).c),.slice (some ⟨z,0,none⟩) t.others.length t.others.length]⟩ 228 (0,0)),.arr (.slice (some ⟨z,0,none⟩) t.others.length t.others.length) 32 1 t.others.length ((byF (t.line r) s 0).map aQ).flatten,.obj b (.cells ⟨[.int .i64 n,.slice (some ⟨o,0,none⟩) t.basic.length p,.slice (some ⟨k,0,none⟩) t.basic.length l,.slice (some ⟨w,0,none⟩) t.others.length x,ah (qtx t.worth.c),d]⟩ 231 (0,0)),.arr (.slice (some ⟨o,0,none⟩) t.basic.length p) 3 1 t.basic.length ((t.basic).map aS).flatten,.arr (.slice (some ⟨k,0,none⟩) t.basic.length l) 228 2 t.basic.length ((cK t a).map bE).flatten,.arr (.slice (some ⟨w,0,none⟩) t.others.length x) 3 1 t.others.length ((t.others).map aS).flatten,.arr d 32 1 t.others.length ((t.worth.f).map aQ).flatten]++((List.range t.basic.length).erase r).map (stE t a r s 0)) (by rw [<- JG,X,<- tA];rfl)<|G.loop (fun fr C' A M=>∃ (j:Nat),(j<=(t.line r).f.length)/\fr=[(0,[],.pointer (some ⟨b,0,none⟩)),(1,[],.int .i64 r),(2,[],.int .i64 s),(7,[],ah (qtx ((t.line r).g s))),(8,[],.pointer (some ⟨E,0,none⟩)),(41,[],.slice Y (t.line r).f.length c3),(42,[],.int .i64 (t.line r).f.length),(43,[],.int .i64 j)]/\A=[.obj E (.cells ⟨[ah (qtx (Lp.byL (t.line r) s).c),.slice (some ⟨z,0,none⟩) t.others.length t.others.length]⟩ 228 (0,0)),.arr (.slice (some ⟨z,0,none⟩) t.others.length t.others.length) 32 1 t.others.length ((byF (t.line r) s j).map aQ).flatten,.obj b (.cells ⟨[.int .i64 n,.slice (some ⟨o,0,none⟩) t.basic.length p,.slice (some ⟨k,0,none⟩) t.basic.length l,.slice (some ⟨w,0,none⟩) t.others.length x,ah (qtx t.worth.c),d]⟩ 231 (0,0)),.arr (.slice (some ⟨o,0,none⟩) t.basic.length p) 3 1 t.basic.length ((t.basic).map aS).flatten,.arr (.slice (some ⟨k,0,none⟩) t.basic.length l) 228 2 t.basic.length ((cK t a).map bE).flatten,.arr (.slice (some ⟨w,0,none⟩) t.others.length x) 3 1 t.others.length ((t.others).map aS).flatten,.arr d 32 1 t.others.length ((t.worth.f).map aQ).flatten]++((List.range t.basic.length).erase r).map (stE t a r s 0)/\M=(t.line r).f.length-j) (hn_ [0,1,2,7,8,41,42,43] Z) ⟨0,PG _,Z,Z,Z⟩ (fun fr aW aX m _ O=>?_);obtain ⟨j,hj,rfl,rfl,rfl⟩:=O;refine Tb 1 [0,1,2,7,8,41,42,43,44] Z<|G.cd (fun ak=>?_) fun ak=>?_
 ·have I:j<(t.line r).f.length:=by
   have:=OQ ak;omega
  have aw:QB 20 (if j=s then (-1:Rat) else (t.line r).g j):=by
   split
   ·exact ⟨by decide,by decide⟩
   exact J.g I
  refine Tc 1 Z fun R y=>Tt L.m_ U10 om_ (show ((t.line r).f.map aQ)[j]?=some (aQ ((t.line r).g j)) from dM I) fl_ fun aY aH=>Td aH U8<|C6 2 [0,1,2,7,8,9,10,41,42,43] y Z<|Tb 3 [0,1,2,7,8,9,10,41,42,43,50] Z<|G.cut (fun fr C' A M=>(True)/\fr=[(0,[],.pointer (some ⟨b,0,none⟩)),(1,[],.int .i64 r),(2,[],.int .i64 s),(7,[],ah (qtx ((t.line r).g s))),(8,[],.pointer (some ⟨E,0,none⟩)),(9,[],.int .i64 j),(10,[],ah (qtx (if j=s then (-1:Rat) else (t.line r).g j))),(41,[],.slice Y (t.line r).f.length c3),(42,[],.int .i64 (t.line r).f.length),(43,[],.int .i64 j)]/\A=[.obj E (.cells ⟨[ah (qtx (Lp.byL (t.line r) s).c),.slice (some ⟨z,0,none⟩) t.others.length t.others.length]⟩ 228 (0,0)),.arr (.slice (some ⟨z,0,none⟩) t.others.length t.others.length) 32 1 t.others.length ((byF (t.line r) s j).map aQ).flatten,.obj b (.cells ⟨[.int .i64 n,.slice (some ⟨o,0,none⟩) t.basic.length p,.slice (some ⟨k,0,none⟩) t.basic.length l,.slice (some ⟨w,0,none⟩) t.others.length x,ah (qtx t.worth.c),d]⟩ 231 (0,0)),.arr (.slice (some ⟨o,0,none⟩) t.basic.length p) 3 1 t.basic.length ((t.basic).map aS).flatten,.arr (.slice (some ⟨k,0,none⟩) t.basic.length l) 228 2 t.basic.length ((cK t a).map bE).flatten,.arr (.slice (some ⟨w,0,none⟩) t.others.length x) 3 1 t.others.length ((t.others).map aS).flatten,.arr d 32 1 t.others.length ((t.worth.f).map aQ).flatten]++((List.range t.basic.length).erase r).map (stE t a r s 0)) ?_ (fun fr _ aZ M _ O=>?_)
  ·refine G.cd (fun al=>?_) fun al=>?_
   ·have an:j=s:=by
     have aa:((j:Int) == (s:Int))=true:=al;have:=eq_of_beq aa;omega
    refine Tb 1 [0,1,2,7,8,9,10,41,42,43] Z<|Tr 0 (Mem.le.refl _) (hn_ [0,1,2,7,8,9,10,41,42,43] Z) ⟨trivial,by rw [aL an,NW];rfl,Z⟩
   have an:¬ j=s:=by
    have aa:((j:Int) == (s:Int))=false:=al;intro h;rw [h] at aa;simp at aa
   refine Tr 0 (Mem.le.refl _) (hn_ [0,1,2,7,8,9,10,41,42,43] Z) ⟨trivial,by rw [aF an],Z⟩
  obtain ⟨a0,rfl,rfl⟩:=O;refine Tx [0,1,2,3,4,5,6,7,8,9,10,11] [(4,1),(6,1)] Z kr_ fun R hB y=>Te U6<|Ti ag U9<|Tg 2 Z<|TA (fun _=>(eC _ (if j=s then (-1:Rat) else (t.line r).g j) (PP (bl aw dc_) dc_))) U9<|Te U6<|TA (fun _=>(gb _ Q.m_ (-(if j=s then (-1:Rat) else (t.line r).g j)) ((t.line r).g s) 20 dc_ dc_ (fM aw) ar hk)) U9<|Tg 3 Z<|TE (j*1) U10 aj U2<|TJ (j:=1) U11 (by show j*1+1<=_;rw [bP bI,kI];omega)<|Th [0,1,2,7,8,41,42,43] y Z<|Tf fun R y=>Tm _ U7<|C6 1 [0,1,2,7,8,41,42,43] y Z<|G.perm (L':=[.obj E (.cells ⟨[ah (qtx (Lp.byL (t.line r) s).c),.slice (some ⟨z,0,none⟩) t.others.length t.others.length]⟩ 228 (0,0)),.arr (.slice (some ⟨z,0,none⟩) t.others.length t.others.length) 32 1 t.others.length ((byF (t.line r) s (j+1)).map aQ).flatten,.obj b (.cells ⟨[.int .i64 n,.slice (some ⟨o,0,none⟩) t.basic.length p,.slice (some ⟨k,0,none⟩) t.basic.length l,.slice (some ⟨w,0,none⟩) t.others.length x,ah (qtx t.worth.c),d]⟩ 231 (0,0)),.arr (.slice (some ⟨o,0,none⟩) t.basic.length p) 3 1 t.basic.length ((t.basic).map aS).flatten,.arr (.slice (some ⟨k,0,none⟩) t.basic.length l) 228 2 t.basic.length ((cK t a).map bE).flatten,.arr (.slice (some ⟨w,0,none⟩) t.others.length x) 3 1 t.others.length ((t.others).map aS).flatten,.arr d 32 1 t.others.length ((t.worth.f).map aQ).flatten]++((List.range t.basic.length).erase r).map (stE t a r s 0)) (by rw [<- MQ I,<- bK bI _ (by rw [kI];exact I)];exact List.Perm.swap _ _ _)<|Tp (m':=(t.line r).f.length-(j+1)) om_ mup (hn_ [0,1,2,7,8,41,42,43] Z) ⟨j+1,om_,Z,Z,Z⟩
 have I:j=(t.line r).f.length:=by
  have:=PE ak;omega
 rw [I,MR];refine G.freeze 0 Z fun _ _ ao=>Tc 3 Z fun R y=>Ti af U9<|C6 2 [0,1,2,8,67,68] y Z<|G.perm (L':=[.arr (.slice (some ⟨z,0,none⟩) t.others.length t.others.length) 32 1 t.others.length (((Lp.byL (t.line r) s).f).map aQ).flatten,.arr (.slice (some ⟨k,0,none⟩) t.basic.length l) 228 2 t.basic.length ((stV t a r s 0).map bE).flatten,.obj b (.cells ⟨[.int .i64 n,.slice (some ⟨o,0,none⟩) t.basic.length p,.slice (some ⟨k,0,none⟩) t.basic.length l,.slice (some ⟨w,0,none⟩) t.others.length x,ah (qtx t.worth.c),d]⟩ 231 (0,0)),.arr (.slice (some ⟨o,0,none⟩) t.basic.length p) 3 1 t.basic.length ((t.basic).map aS).flatten,.arr (.slice (some ⟨w,0,none⟩) t.others.length x) 3 1 t.others.length ((t.others).map aS).flatten,.arr d 32 1 t.others.length ((t.worth.f).map aQ).flatten]++((List.range t.basic.length).erase r).map (stE t a r s 0)) (by rw [HK];(exact pkL [0,2] Z))<|G.loop (fun fr C' A M=>∃ (i:Nat),(i<=t.basic.length)/\fr=[(0,[],.pointer (some ⟨b,0,none⟩)),(1,[],.int .i64 r),(2,[],.int .i64 s),(8,[],.pointer (some ⟨E,0,none⟩)),(67,[],.int .i64 t.basic.length),(68,[],.int .i64 i)]/\A=[.arr (.slice (some ⟨z,0,none⟩) t.others.length t.others.length) 32 1 t.others.length (((Lp.byL (t.line r) s).f).map aQ).flatten,.arr (.slice (some ⟨k,0,none⟩) t.basic.length l) 228 2 t.basic.length ((stV t a r s i).map bE).flatten,.obj b (.cells ⟨[.int .i64 n,.slice (some ⟨o,0,none⟩) t.basic.length p,.slice (some ⟨k,0,none⟩) t.basic.length l,.slice (some ⟨w,0,none⟩) t.others.length x,ah (qtx t.worth.c),d]⟩ 231 (0,0)),.arr (.slice (some ⟨o,0,none⟩) t.basic.length p) 3 1 t.basic.length ((t.basic).map aS).flatten,.arr (.slice (some ⟨w,0,none⟩) t.others.length x) 3 1 t.others.length ((t.others).map aS).flatten,.arr d 32 1 t.others.length ((t.worth.f).map aQ).flatten]++((List.range t.basic.length).erase r).map (stE t a r s i)/\M=t.basic.length-i) (hn_ [0,1,2,8,67,68] Z) ⟨0,PG _,Z,Z,Z⟩ (fun fr a1 a2 m _ O=>?_);obtain ⟨i,hi,rfl,rfl,rfl⟩:=O;refine Tb 1 [0,1,2,8,67,68,69] Z<|G.cd (fun ap=>?_) fun ap=>?_
 ·have F:i<t.basic.length:=by
   have:=OQ ap;omega
  refine Tb 2 [0,1,2,8,11,67,68] Z<|Tb 3 [0,1,2,8,11,67,68,73] Z<|G.cd (fun aq=>?_) fun aq=>?_
  ·have H:i≠r:=by
    have ab:(!((i:Int) == (r:Int)))=true:=aq;intro h;rw [h] at ab;simp at ab
   have ax:i∈(List.range t.basic.length).erase r:=(List.Nodup.mem_erase_iff range_nd).2 ⟨H,PS.2 F⟩;have ay:=lu (range_nd.erase r) ax (stE t a r s i) (stE t a r s (i+1)) (fun q _ aI=>by unfold stE;rw [oF aI]);have he:stE t a r s i i=.arr (a i) 32 1 t.others.length ((t.line i).f.map aQ).flatten:=by unfold stE;rw [(nL H).1]
   have aJ:stE t a r s (i+1) i=.arr (a i) 32 1 t.others.length ((Lp.putL (t.line i) s (Lp.byL (t.line r) s)).f.map aQ).flatten:=by unfold stE;rw [(nL H).2]
   have aK:(stV t a r s i)[i]?=some ((t.line i).c,a i):=by rw [zM F,(nL H).1]
   rw [he] at ay;refine G.perm (L':=[.arr (.slice (some ⟨z,0,none⟩) t.others.length t.others.length) 32 1 t.others.length (((Lp.byL (t.line r) s).f).map aQ).flatten,.arr (.slice (some ⟨k,0,none⟩) t.basic.length l) 228 2 t.basic.length ((stV t a r s i).map bE).flatten,.arr (a i) 32 1 t.others.length ((t.line i).f.map aQ).flatten,.obj b (.cells ⟨[.int .i64 n,.slice (some ⟨o,0,none⟩) t.basic.length p,.slice (some ⟨k,0,none⟩) t.basic.length l,.slice (some ⟨w,0,none⟩) t.others.length x,ah (qtx t.worth.c),d]⟩ 231 (0,0)),.arr (.slice (some ⟨o,0,none⟩) t.basic.length p) 3 1 t.basic.length ((t.basic).map aS).flatten,.arr (.slice (some ⟨w,0,none⟩) t.others.length x) 3 1 t.others.length ((t.others).map aS).flatten,.arr d 32 1 t.others.length ((t.worth.f).map aQ).flatten]++(((List.range t.basic.length).erase r).erase i).map (stE t a r s (i+1))) ((List.Perm.append_left _ ay).trans (pkL [0,0,4] Z))<|Tx [0,1,2,3,4,5,6,7,8] [(8,3)] Z kr_ fun R hB y=>Tg 3 Z<|Ti ac U9<|Te U6<|TE (i*2) U10 aj U2<|Te U6<|Td (bkT ao 2) U8<|D.call (Il _ Q.m_ k t.basic.length l i t.others.length s (a i) (.slice (some ⟨z,0,none⟩) t.others.length t.others.length) (stV t a r s i) (t.line i) (Lp.byL (t.line r) s) iH aK (gW V F) (by rw [uG];exact X) W ((hq i F).le dc_) (au.le dc_)) Z (.inr dc_) U6 (pkL [0,0,0] Z) fl_ fun a3 _ a4 _ aM=>Th [0,1,2,8,67,68] y Z ?_;obtain ⟨-,rfl⟩:=aM;refine G.perm (L':=[.arr (.slice (some ⟨z,0,none⟩) t.others.length t.others.length) 32 1 t.others.length (((Lp.byL (t.line r) s).f).map aQ).flatten,.arr (.slice (some ⟨k,0,none⟩) t.basic.length l) 228 2 t.basic.length ((stV t a r s (i+1)).map bE).flatten,.obj b (.cells ⟨[.int .i64 n,.slice (some ⟨o,0,none⟩) t.basic.length p,.slice (some ⟨k,0,none⟩) t.basic.length l,.slice (some ⟨w,0,none⟩) t.others.length x,ah (qtx t.worth.c),d]⟩ 231 (0,0)),.arr (.slice (some ⟨o,0,none⟩) t.basic.length p) 3 1 t.basic.length ((t.basic).map aS).flatten,.arr (.slice (some ⟨w,0,none⟩) t.others.length x) 3 1 t.others.length ((t.others).map aS).flatten,.arr d 32 1 t.others.length ((t.worth.f).map aQ).flatten]++((List.range t.basic.length).erase r).map (stE t a r s (i+1))) (by
    rw [<- Lc F H];refine List.Perm.trans (l₂:=[.arr (.slice (some ⟨z,0,none⟩) t.others.length t.others.length) 32 1 t.others.length (((Lp.byL (t.line r) s).f).map aQ).flatten,.arr (.slice (some ⟨k,0,none⟩) t.basic.length l) 228 2 t.basic.length (((stV t a r s i).set i ((Lp.putL (t.line i) s (Lp.byL (t.line r) s)).c,a i)).map bE).flatten,.obj b (.cells ⟨[.int .i64 n,.slice (some ⟨o,0,none⟩) t.basic.length p,.slice (some ⟨k,0,none⟩) t.basic.length l,.slice (some ⟨w,0,none⟩) t.others.length x,ah (qtx t.worth.c),d]⟩ 231 (0,0)),.arr (.slice (some ⟨o,0,none⟩) t.basic.length p) 3 1 t.basic.length ((t.basic).map aS).flatten,.arr (.slice (some ⟨w,0,none⟩) t.others.length x) 3 1 t.others.length ((t.others).map aS).flatten,.arr d 32 1 t.others.length ((t.worth.f).map aQ).flatten]++(.arr (a i) 32 1 t.others.length ((Lp.putL (t.line i) s (Lp.byL (t.line r) s)).f.map aQ).flatten::(((List.range t.basic.length).erase r).erase i).map (stE t a r s (i+1)))) (pkL [0,0,1,1,1,1] Z) (List.Perm.append_left _ ?_);rw [<- aJ];exact (lu (range_nd.erase r) ax (stE t a r s (i+1)) (stE t a r s (i+1)) (fun _ _ _=>rfl)).symm) ?_
   refine Tf fun R y=>Tm _ U7<|C6 1 [0,1,2,8,67,68] y Z<|Tp (m':=t.basic.length-(i+1)) om_ mup (hn_ [0,1,2,8,67,68] Z) ⟨i+1,om_,Z,Z,Z⟩
  have H:i=r:=by
   have ab:(!((i:Int) == (r:Int)))=false:=aq;simp at ab;omega
  refine Tu (L':=[.arr (.slice (some ⟨z,0,none⟩) t.others.length t.others.length) 32 1 t.others.length (((Lp.byL (t.line r) s).f).map aQ).flatten,.arr (.slice (some ⟨k,0,none⟩) t.basic.length l) 228 2 t.basic.length ((stV t a r s (i+1)).map bE).flatten,.obj b (.cells ⟨[.int .i64 n,.slice (some ⟨o,0,none⟩) t.basic.length p,.slice (some ⟨k,0,none⟩) t.basic.length l,.slice (some ⟨w,0,none⟩) t.others.length x,ah (qtx t.worth.c),d]⟩ 231 (0,0)),.arr (.slice (some ⟨o,0,none⟩) t.basic.length p) 3 1 t.basic.length ((t.basic).map aS).flatten,.arr (.slice (some ⟨w,0,none⟩) t.others.length x) 3 1 t.others.length ((t.others).map aS).flatten,.arr d 32 1 t.others.length ((t.worth.f).map aQ).flatten]++((List.range t.basic.length).erase r).map (stE t a r s (i+1))) (by
   have e:stE t a r s (r+1)=stE t a r s r:=funext fun q=>by unfold stE;rw [zN]
   rw [H,HL,e]) ?_
  refine Tf fun R y=>Tm _ U7<|C6 1 [0,1,2,8,67,68] y Z<|Tp (m':=t.basic.length-(i+1)) om_ mup (hn_ [0,1,2,8,67,68] Z) ⟨i+1,om_,Z,Z,Z⟩
 have F:i=t.basic.length:=by
  have:=PE ap;omega
 rw [F];refine G.perm (L':=[.arr (.slice (some ⟨z,0,none⟩) t.others.length t.others.length) 32 1 t.others.length (((Lp.byL (t.line r) s).f).map aQ).flatten,.obj b (.cells ⟨[.int .i64 n,.slice (some ⟨o,0,none⟩) t.basic.length p,.slice (some ⟨k,0,none⟩) t.basic.length l,.slice (some ⟨w,0,none⟩) t.others.length x,ah (qtx t.worth.c),d]⟩ 231 (0,0)),.arr d 32 1 t.others.length ((t.worth.f).map aQ).flatten,.arr (.slice (some ⟨k,0,none⟩) t.basic.length l) 228 2 t.basic.length ((stV t a r s t.basic.length).map bE).flatten,.arr (.slice (some ⟨o,0,none⟩) t.basic.length p) 3 1 t.basic.length ((t.basic).map aS).flatten,.arr (.slice (some ⟨w,0,none⟩) t.others.length x) 3 1 t.others.length ((t.others).map aS).flatten]++((List.range t.basic.length).erase r).map (stE t a r s t.basic.length)) (pkL [0,1,3,0,0,0] Z)<|Tx [0,1,2,3,4,5] [(5,3)] Z kr_ fun R hB y=>Tg 4 Z<|Td (bkT ao 2) U8<|D.call (Ij _ Q.m_ b t.others.length s (.int .i64 n) (.slice (some ⟨o,0,none⟩) t.basic.length p) (.slice (some ⟨k,0,none⟩) t.basic.length l) (.slice (some ⟨w,0,none⟩) t.others.length x) d (.slice (some ⟨z,0,none⟩) t.others.length t.others.length) t.worth (Lp.byL (t.line r) s) aB (by rw [uG];exact X) W (az.le dc_) (au.le dc_)) Z (.inr dc_) U6 (pkL [0,0,0] Z) fl_ fun a5 _ a6 _ aN=>Th [0,1,2,8] y Z ?_;obtain ⟨-,rfl⟩:=aN;refine G.perm (L':=[.obj b (.cells ⟨[.int .i64 n,.slice (some ⟨o,0,none⟩) t.basic.length p,.slice (some ⟨k,0,none⟩) t.basic.length l,.slice (some ⟨w,0,none⟩) t.others.length x,ah (qtx (Lp.putL t.worth s (Lp.byL (t.line r) s)).c),d]⟩ 231 (0,0)),.arr (.slice (some ⟨o,0,none⟩) t.basic.length p) 3 1 t.basic.length ((t.basic).map aS).flatten,.arr (.slice (some ⟨k,0,none⟩) t.basic.length l) 228 2 t.basic.length ((stV t a r s t.basic.length).map bE).flatten,.arr (.slice (some ⟨w,0,none⟩) t.others.length x) 3 1 t.others.length ((t.others).map aS).flatten,.arr d 32 1 t.others.length (((Lp.putL t.worth s (Lp.byL (t.line r) s)).f).map aQ).flatten,.arr (.slice (some ⟨z,0,none⟩) t.others.length t.others.length) 32 1 t.others.length (((Lp.byL (t.line r) s).f).map aQ).flatten]++((List.range t.basic.length).erase r).map (stE t a r s t.basic.length)) (pkL [1,3,2,2,1] Z)<|Tx [0,1,2,3,4,5,6,7] [] Z kr_ fun R hB y=>Tg 3 Z<|Ti ag U9<|Te U6<|Td (bkT ao 2) U8<|TE (r*2) U10 aj U2<|TJ (j:=2) U11 (by show r*2+2<=_;rw [bP gx,iH];omega)<|Th [0,1,2] y Z<|Tu (L':=[.arr (.slice (some ⟨k,0,none⟩) t.basic.length l) 228 2 t.basic.length (((stV t a r s t.basic.length).set r ((Lp.byL (t.line r) s).c,.slice (some ⟨z,0,none⟩) t.others.length t.others.length)).map bE).flatten,.obj b (.cells ⟨[.int .i64 n,.slice (some ⟨o,0,none⟩) t.basic.length p,.slice (some ⟨k,0,none⟩) t.basic.length l,.slice (some ⟨w,0,none⟩) t.others.length x,ah (qtx (Lp.putL t.worth s (Lp.byL (t.line r) s)).c),d]⟩ 231 (0,0)),.arr (.slice (some ⟨o,0,none⟩) t.basic.length p) 3 1 t.basic.length ((t.basic).map aS).flatten,.arr (.slice (some ⟨w,0,none⟩) t.others.length x) 3 1 t.others.length ((t.others).map aS).flatten,.arr d 32 1 t.others.length (((Lp.putL t.worth s (Lp.byL (t.line r) s)).f).map aQ).flatten,.arr (.slice (some ⟨z,0,none⟩) t.others.length t.others.length) 32 1 t.others.length (((Lp.byL (t.line r) s).f).map aQ).flatten]++((List.range t.basic.length).erase r).map (stE t a r s t.basic.length)) (by rw [<- bK gx _ (by rw [iH];exact B)];rfl)<|Tx [0,1,2,3,4,5,6,7,8,9,10,11,12,13,14,15,16,17,18,19,20,21,22,23,24,25,26,27] [] Z kr_ fun R hB y=>Tg 3 Z<|Ti af U9<|Tg 4 Z<|Ti af U9<|Tg 4 Z<|Ti af U9<|Te U6<|TE (s*1) U10 aj U2<|TZ ac U6 (fun _=>(by rw [eA fk (show t.others[s]?=some (t.oth s) from yi W)];rfl)) U2<|Tg 3 Z<|Ti af U9<|Te U6<|TE (r*1) U10 aj U2<|TZ ae U6 (fun _=>(by rw [eA fk (show t.basic[r]?=some (t.bas r) from yi B)];rfl)) U2<|TE (r*1) U10 aj U2<|TJ (j:=2) U11 (by show r*1+1<=_;rw [bP fk];omega)<|TE (s*1) U10 aj U2<|TJ (j:=3) U11 (by show s*1+1<=_;rw [bP fk];omega)<|Ui [] trivial (y _ _ _ Z ?_);refine G.perm (L':=(eY b n (t.pivot r s) (.slice (some ⟨o,0,none⟩) t.basic.length p) (.slice (some ⟨k,0,none⟩) t.basic.length l) (.slice (some ⟨w,0,none⟩) t.others.length x) d (fun q=>if q=r then (.slice (some ⟨z,0,none⟩) t.others.length t.others.length) else a q)).map Lent.ent) (by
  refine List.Perm.trans ?_ (La V B);rw [<- bK fk _ B,<- bK fk _ W]
  (exact pkL [3,1,1,0,0,0] rfl)) ?_
 exact Ut Z<|⟨Z,_,Z⟩
theorem tU (h:Lp.Inv p cc t)(b:Lp.Lim p cc 20)(a:i<t.basic.length):LineQ 20 (t.line i):=by
 refine ⟨h.con b a,fun x c=>?_⟩;obtain ⟨s,hs,rfl⟩:=List.mem_iff_getElem.1 c;have d:=gW h.tab.ok a;have h1:=h.fac b a (s:=s) om_;unfold Lp.Line.g at h1;rw [ay,al hs] at h1;exact h1
theorem oq (h:Lp.Inv p cc t)(a:Lp.Lim p cc 20):LineQ 20 t.worth:=by
 refine ⟨h.wcon a,fun x b=>?_⟩;obtain ⟨s,hs,rfl⟩:=List.mem_iff_getElem.1 b;have c:=h.tab.ok.wl;have h1:=h.wfac a (s:=s) om_;unfold Lp.Line.g at h1;rw [ay,al hs] at h1;exact h1
theorem LineQ.g0 {k:Nat}(h:LineQ k l)(a:k<=m)(b:1<=m)(j:Nat):QB m (l.g j):=by
 unfold Lp.Line.g;rw [ay];by_cases c:j<l.f.length
 ·rw [al c];exact (h.2 _ (Qq _)).le a
 rw [PJ om_];exact Lp.qb_zero b
theorem lZ {c:Nat->Prop}(h:Lp.LeastR vs q n o)(e:∀ i,i<n->(q i ↔ c i)):Lp.LeastR vs c n o:=by
 cases h with
 | none h=>exact .none fun i a b=>h i a ((e i a).2 b)
 | some i a b hm=>exact .some i a ((e i a).1 b) fun j d f=>hm j d ((e j d).2 f)
theorem gY (h:Lp.LeastR vs q n o)(a:¬ o<0):∃ i:Nat,o=i/\i<n/\q i/\∀ j,j<n->q j->vs.getD i 0<=vs.getD j 0:=by
 cases h with
 | none h=>exact absurd dc_ a
 | some i b c hm=>exact ⟨i,rfl,b,c,hm⟩
theorem gZ (h:Lp.LeastR vs q n o)(a:o<0):∀ i,i<n->¬ q i:=by
 cases h with
 | none h=>exact h
 | some i b c hm=>omega
section
variable {C:Mem} {a a2 b n N:Nat} {r:Int} {t:Lp.Tab} {wB wL wO wW:Value} {wF:Nat->Value}
theorem zI (c:t.Ok N):∀ x∈.obj a2 [.int .i64 r] 3::eY b n t wB wL wO wW wF,x.wf:=fun x a=>by
 rcases PN.1 a with rfl | a
 ·trivial
 exact fZ c x a
theorem FM (d:t.Ok N)(j:C a=some (.cells ⟨[.pointer (some ⟨b,0,none⟩)]⟩ 221 (0,0)))(k:∀ i,i<t.basic.length->LineQ 20 (t.line i)) :
  Jog.Fn cx.P 206 [wB,.func (.func 207) #[] #[.pointer (some ⟨a,0,none⟩)]] C ((.obj a2 [.int .i64 r] 3::eY b n t wB wL wO wW wF).map Lent.ent)
   fun u _ e=>(∃ o:Int,u=.int .i64 o/\Lp.LeastR t.basic (fun i=>n<=t.bas i/\(t.line i).c<0) t.basic.length o)/\e=(.obj a2 [.int .i64 r] 3::eY b n t wB wL wO wW wF).map Lent.ent:=by
 refine Ur kr_ _ (zI d) fun l m hs=>?_;have f:=eT d fun x p=>hs x (PK _ p);refine (nS l wB t.basic 207 [.pointer (some ⟨a,0,none⟩)] (fun i=>decide (n<=t.bas i) && decide ((t.line i).c<0)) f.B kr_ fun i g D h =>
  Je D a b n i N t wB wL wO wW _ (f.mono h) d ((m.trans h) _ _ j) g ((k i g).1.le dc_)).mono ?_
 rintro u D e _ ⟨h1,o,rfl,h2⟩;exact ⟨h1,o,Z,lZ h2 fun i _=>by simp⟩
theorem FL {r:Nat}(c:t.Ok N)(h:C a=some (.cells ⟨[.pointer (some ⟨b,0,none⟩)]⟩ 221 (0,0)))(j:r<t.basic.length)(k:LineQ 20 (t.line r)) :
  Jog.Fn cx.P 206 [wO,.func (.func 208) #[] #[.pointer (some ⟨a,0,none⟩),.pointer (some ⟨a2,0,none⟩)]] C ((.obj a2 [.int .i64 r] 3::eY b n t wB wL wO wW wF).map Lent.ent)
   fun u _ e=>(∃ o:Int,u=.int .i64 o/\Lp.LeastR t.others (fun i=>n<=t.oth i/\0<(t.line r).g i) t.others.length o)/\e=(.obj a2 [.int .i64 r] 3::eY b n t wB wL wO wW wF).map Lent.ent:=by
 refine Ur kr_ _ (zI c) fun l m hs=>?_;have f:=eT c fun x p=>hs x (PK _ p);have h2:=hs _ (PB ..);refine (nS l wO t.others 208 [.pointer (some ⟨a,0,none⟩),.pointer (some ⟨a2,0,none⟩)] (fun i=>decide (n<=t.oth i) && decide (0<(t.line r).g i)) f.O kr_ fun i q D d =>
  Jd D a a2 b n i r N t wB wL wO wW _ (f.mono d) c ((m.trans d) _ _ h) (d _ _ h2) j q (k.g0 dc_ dc_ i)).mono ?_
 rintro u D e _ ⟨h1,o,rfl,h2⟩;exact ⟨h1,o,Z,lZ h2 fun i _=>by simp⟩
end
inductive FeasO (p:Lp.Sys) (t:Lp.Tab):Value->Prop where
 | yes:t.Feas p.n->FeasO p t (.tuple #[.int .i64 0,.bool true])
 | no (r:Nat):r<t.basic.length->p.n<=t.bas r->(t.line r).c<0->(∀ s,s<t.others.length->p.n<=t.oth s->(t.line r).g s<=0)->FeasO p t (.tuple #[.int .i64 r,.bool false])
theorem yF (C:Mem)(Y:Tabs C)(p:Lp.Sys)(z:Nat->Rat)(b:Nat)(d:Lp.Tab)(e h k l:Value)(A:Nat->Value)(q:Lp.Inv p z d)(a:Lp.Rel p.n d p.n)(S:Lp.Lim p z 20)(hm:p.m<=1000000)(hn:p.n<=1000000) :
  Jog.Fn cx.P 138 [.pointer (some ⟨b,0,none⟩)] C ((eY b p.n d e h k l A).map Lent.ent) fun u _ v=>∃ t wF,Lp.Inv p z t/\Lp.Rel p.n t p.n/\FeasO p t u/\v=(eY b p.n t e h k l wF).map Lent.ent:=by
 have an:maxLen<=9223372036854775807:=by simp [maxLen]
 refine Tk func138 26 U3 fun w0=>?_;refine Tf fun R a=>?_;refine Tv U6 (fun b1=>?_);refine Tq U5 (fun b2=>?_);refine C6 1 [1,2] a Z ?_;clear a R;refine G.freeze 1 Z (fun _ _ w=>?_);refine Tu (L':=[.obj b2 (.cells ⟨[.int .i64 0]⟩ 3 (0,0)),.obj b (.cells ⟨[.int .i64 p.n,e,h,k,ah (qtx d.worth.c),l]⟩ 231 (0,0)),.arr e 3 1 d.basic.length ((d.basic).map aS).flatten,.arr h 228 2 d.basic.length ((cK d A).map bE).flatten,.arr k 3 1 d.others.length ((d.others).map aS).flatten,.arr l 32 1 d.others.length ((d.worth.f).map aQ).flatten]++(List.range d.basic.length).map (stE d A 0 0 0)) (by rw [bg 0 0];rfl) ?_;refine G.loop (fun fr C' v μ=>∃ (t:Lp.Tab)(wF:Nat->Value)(o:Int)(B:Nat),(Lp.Inv p z t/\Lp.Rel p.n t p.n/\∀ K,Lp.Reach (Lp.FeasP p.n) t K->K<=B)/\fr=[(1,[],.pointer (some ⟨b1,0,none⟩)),(2,[],.pointer (some ⟨b2,0,none⟩))]/\v=[.obj b2 (.cells ⟨[.int .i64 o]⟩ 3 (0,0)),.obj b (.cells ⟨[.int .i64 p.n,e,h,k,ah (qtx t.worth.c),l]⟩ 231 (0,0)),.arr e 3 1 t.basic.length ((t.basic).map aS).flatten,.arr h 228 2 t.basic.length ((cK t wF).map bE).flatten,.arr k 3 1 t.others.length ((t.others).map aS).flatten,.arr l 32 1 t.others.length ((t.worth.f).map aQ).flatten]++(List.range t.basic.length).map (stE t wF 0 0 0)/\μ=B) (hn_ [1,2] Z) ⟨d,A,0,2 ^ (p.n+p.m),⟨q,a,fun K E=>Lp.feas_len q.tab.ok E⟩,Z,Z,Z⟩ (fun fr ao ap m _ q=>?_);obtain ⟨t,wF,o,B,⟨q,a,E⟩,rfl,rfl,rfl⟩:=q;have ok:=q.tab.ok;have aa:t.basic.length<=1000000:=by rw [q.tab.lb];exact hm
 have ab:t.others.length<=1000000:=by rw [q.tab.lo];exact hn
 have F:∀ i,i<t.basic.length->LineQ 20 (t.line i):=fun i x=>tU q S x;refine TC [(5,3)] Z (fun R a=>?_);refine Td (bkT w 1) U8 ?_;refine Tg 2 Z ?_;refine Ti af U9 ?_;refine Te U6 ?_;refine D.call (FM ok (Mem.get w mup) F) Z (.inr dc_) U6 (show List.Perm _ (((.obj b2 [.int .i64 o] 3::eY b p.n t e h k l wF).map Lent.ent)++[]) from List.Perm.of_eq (by rw [PY,Qa,bg 0 0];rfl)) fl_ (fun aq _ ar _ ac=>?_);obtain ⟨⟨H,rfl,T⟩,rfl⟩:=ac;refine Tj (j:=0) U12 ?_;refine Th [1,2] a Z ?_;clear a R;refine Tu (L':=[.obj b2 (.cells ⟨[.int .i64 H]⟩ 3 (0,0)),.obj b (.cells ⟨[.int .i64 p.n,e,h,k,ah (qtx t.worth.c),l]⟩ 231 (0,0)),.arr e 3 1 t.basic.length ((t.basic).map aS).flatten,.arr h 228 2 t.basic.length ((cK t wF).map bE).flatten,.arr k 3 1 t.others.length ((t.others).map aS).flatten,.arr l 32 1 t.others.length ((t.worth.f).map aQ).flatten]++(List.range t.basic.length).map (stE t wF 0 0 0)) (by rw [PY,Qa,bg 0 0];rfl) ?_;refine Tf fun R a=>?_;refine Ti ag U9 ?_;refine C6 1 [1,2,12] a Z ?_;clear a R;refine G.cd (fun I=>?_) fun I=>?_
 ·have J:H<0:=OQ I;have L:=gZ T J;refine Tf fun R a=>?_;refine Tj (j:=0) U12 ?_;refine C6 1 [2,3] a Z ?_;clear a R;refine Tn (Vn 0 Z Z Z Z Z Z ?_);exact ⟨t,wF,q,a,.yes (fun i x y=>by have:=L i x;grind),by rw [bg 0 0];rfl⟩
 have J:¬ H<0:=PE I;obtain ⟨r,rfl,hr,⟨M,U⟩,ad⟩:=gY T J;refine TC [(5,3)] Z (fun R a=>?_);refine Td (bkT w 1) U8 ?_;refine Tg 2 Z ?_;refine Ti af U9 ?_;refine Te U6 ?_;refine D.call (FL ok (Mem.get w mup) hr (F r hr)) Z (.inr dc_) U6 (show List.Perm _ (((.obj b2 [.int .i64 (r:Nat)] 3::eY b p.n t e h k l wF).map Lent.ent)++[]) from List.Perm.of_eq (by rw [PY,Qa,bg 0 0];rfl)) fl_ (fun au _ av _ ae=>?_);refine C6 1 [1,2,4] a Z ?_;clear a R;obtain ⟨⟨V,rfl,W⟩,rfl⟩:=ae;refine Tu (L':=[.obj b2 (.cells ⟨[.int .i64 (r:Nat)]⟩ 3 (0,0)),.obj b (.cells ⟨[.int .i64 p.n,e,h,k,ah (qtx t.worth.c),l]⟩ 231 (0,0)),.arr e 3 1 t.basic.length ((t.basic).map aS).flatten,.arr h 228 2 t.basic.length ((cK t wF).map bE).flatten,.arr k 3 1 t.others.length ((t.others).map aS).flatten,.arr l 32 1 t.others.length ((t.worth.f).map aQ).flatten]++(List.range t.basic.length).map (stE t wF 0 0 0)) (by rw [PY,Qa,bg 0 0];rfl) ?_;refine Tb 2 [1,2,4,20] Z ?_;refine G.cd (fun N=>?_) fun N=>?_
 ·have O:V<0:=OQ N;have L:=gZ W O;refine Tf fun R a=>?_;refine Ti ag U9 ?_;refine Tj (j:=0) U12 ?_;refine C6 1 [2,3] a Z ?_;clear a R;refine Tn (Vn 0 Z Z Z Z Z Z ?_);exact ⟨t,wF,q,a,.no r hr M U (fun s hs y=>by have:=L s hs;grind),by rw [bg 0 0];rfl⟩
 have O:¬ V<0:=PE N;obtain ⟨s,rfl,hs,⟨ai,aj⟩,ak⟩:=gY W O;have hP:Lp.FeasP p.n t r s:=⟨hr,hs,M,ai,U,fun i x y hc=>ad i x ⟨y,hc⟩,aj,fun j hj y hg=>ak j hj ⟨y,hg⟩⟩;have X:(t.line r).g s≠0:=by grind
 obtain ⟨aw,al⟩:=Lp.Reach.fall hP E;refine TC [(3,3)] Z (fun R a=>?_);refine Td (bkT w 1) U8 ?_;refine Ti ag U9 ?_;refine Te U6 ?_;refine D.call (tK _ Y.m_ b p.n r s (p.n+p.m) t e h k l wF ok aa ab hr hs X F (oq q S)) Z (.inr dc_) U6 (by rw [bg 0 0];exact (List.perm_append_singleton _ _).symm) fl_ (fun ax _ ay _ am=>?_);refine Th [1,2] a Z ?_;clear a R;obtain ⟨-,Q,rfl⟩:=am;refine G.perm (L':=[.obj b2 (.cells ⟨[.int .i64 (r:Nat)]⟩ 3 (0,0)),.obj b (.cells ⟨[.int .i64 p.n,e,h,k,ah (qtx (t.pivot r s).worth.c),l]⟩ 231 (0,0)),.arr e 3 1 (t.pivot r s).basic.length (((t.pivot r s).basic).map aS).flatten,.arr h 228 2 (t.pivot r s).basic.length ((cK (t.pivot r s) Q).map bE).flatten,.arr k 3 1 (t.pivot r s).others.length (((t.pivot r s).others).map aS).flatten,.arr l 32 1 (t.pivot r s).others.length (((t.pivot r s).worth.f).map aQ).flatten]++(List.range (t.pivot r s).basic.length).map (stE (t.pivot r s) Q 0 0 0)) (by rw [bg 0 0];exact List.perm_append_singleton _ _) ?_;refine Tp (m':=m-1) om_ mup (hn_ [1,2] Z) ⟨t.pivot r s,Q,(r:Int),m-1,⟨q.pivot hr hs X,Lp.rel_pivot ok a hr hs M,al⟩,Z,Z,Z⟩
section
variable {C:Mem} {a b n N:Nat} {t:Lp.Tab} {wB wL wO wW:Value} {wF:Nat->Value}
theorem FK (c:t.Ok N)(h:C a=some (.cells ⟨[.pointer (some ⟨b,0,none⟩)]⟩ 221 (0,0))) :
  Jog.Fn cx.P 206 [wO,.func (.func 209) #[] #[.pointer (some ⟨a,0,none⟩)]] C ((eY b n t wB wL wO wW wF).map Lent.ent)
   fun u _ d=>(∃ o:Int,u=.int .i64 o/\Lp.LeastR t.others (fun i=>¬ n<=t.oth i/\¬ t.worth.g i=0) t.others.length o)/\d=(eY b n t wB wL wO wW wF).map Lent.ent:=by
 refine Ur kr_ _ (fZ c) fun j k hs=>?_;have e:=eT c hs;refine (nS j wO t.others 209 [.pointer (some ⟨a,0,none⟩)] (fun i=>!decide (n<=t.oth i) && !decide (t.worth.g i=0)) e.O kr_ fun i l D f =>
  Mj D a b n i N t wB wL wO wW _ (e.mono f) c ((k.trans f) _ _ h) l).mono ?_
 rintro u D d _ ⟨h1,o,rfl,h2⟩;exact ⟨h1,o,Z,lZ h2 fun i _=>by simp⟩
theorem FJ (c:t.Ok N)(h:C a=some (.cells ⟨[.pointer (some ⟨b,0,none⟩)]⟩ 221 (0,0)))(j:LineQ 20 t.worth) :
  Jog.Fn cx.P 206 [wO,.func (.func 210) #[] #[.pointer (some ⟨a,0,none⟩)]] C ((eY b n t wB wL wO wW wF).map Lent.ent)
   fun u _ d=>(∃ o:Int,u=.int .i64 o/\Lp.LeastR t.others (fun i=>n<=t.oth i/\t.worth.g i<0) t.others.length o)/\d=(eY b n t wB wL wO wW wF).map Lent.ent:=by
 refine Ur kr_ _ (fZ c) fun k l hs=>?_;have e:=eT c hs;refine (nS k wO t.others 210 [.pointer (some ⟨a,0,none⟩)] (fun i=>decide (n<=t.oth i) && decide (t.worth.g i<0)) e.O kr_ fun i m D f =>
  Mi D a b n i N t wB wL wO wW _ (e.mono f) c ((l.trans f) _ _ h) m (j.g0 dc_ dc_ i)).mono ?_
 rintro u D d _ ⟨h1,o,rfl,h2⟩;exact ⟨h1,o,Z,lZ h2 fun i _=>by simp⟩
theorem FI {s:Nat}(f:Tabs C)(a:t.Ok N)(d:s<t.others.length)(e:∀ i,i<t.basic.length->LineQ 20 (t.line i)) :
  Jog.Fn cx.P 211 [.pointer (some ⟨b,0,none⟩),.int .i64 s] C ((eY b n t wB wL wO wW wF).map Lent.ent)
   fun u _ h=>(∃ o:Int,u=.int .i64 o/\Lp.LeaveR n t s t.basic.length o)/\h=(eY b n t wB wL wO wW wF).map Lent.ent :=
 Ur kr_ _ (fZ a) fun j k l=>IU j (f.mono k) b n s N t wB wL wO wW _ (eT a l) a d fun i c=>⟨(e i c).1,(e i c).g (by rw [gW a c];exact d)⟩
end
theorem yp (h:Lp.LeaveR F t s n o)(a:o<0):∀ i,i<n->F<=t.bas i->0<=(t.line i).g s:=by
 cases h with
 | none h=>exact h
 | some r _ _ _ _=>omega
theorem yo (h:Lp.LeaveR F t s n o)(a:¬ o<0):∃ r:Nat,o=r/\r<n/\F<=t.bas r/\(t.line r).g s<0 /\
  ∀ i,i<n->F<=t.bas i->(t.line i).g s<0->(t.line r).c / -(t.line r).g s<(t.line i).c / -(t.line i).g s∨(t.line r).c / -(t.line r).g s=(t.line i).c / -(t.line i).g s/\t.bas r<=t.bas i:=by
 cases h with
 | none h=>exact absurd dc_ a
 | some r h1 h2 h3 h4=>exact ⟨r,rfl,h1,h2,h3,h4⟩
inductive MinO (p:Lp.Sys) (t:Lp.Tab):Value->Prop where
 | yes:Lp.RelW p.n t->(∀ s,s<t.others.length->p.n<=t.oth s->0<=t.worth.g s)->MinO p t (.tuple #[.int .i64 0,.bool true])
 | no (s:Nat):s<t.others.length->kJ t s*t.worth.g s<0->(∀ i,i<t.basic.length->p.n<=t.bas i->0<=kJ t s*(t.line i).g s)->(p.n<=t.oth s->0<=kJ t s)->MinO p t (.tuple #[.int .i64 s,.bool false])
theorem yk (C:Mem)(U:Tabs C)(p:Lp.Sys)(F:Nat->Rat)(b:Nat)(a:Lp.Tab)(e k l o:Value)(v:Nat->Value)(q:Lp.Inv p F a)(d:Lp.Rel p.n a p.n)(A:a.Feas p.n)(V:Lp.Lim p F 20)(hm:p.m<=1000000)(hn:p.n<=1000000) :
  Jog.Fn cx.P 140 [.pointer (some ⟨b,0,none⟩)] C ((eY b p.n a e k l o v).map Lent.ent) fun u _ w=>∃ t wF,Lp.Inv p F t/\t.Feas p.n/\MinO p t u/\w=(eY b p.n t e k l o wF).map Lent.ent:=by
 have aw:maxLen<=9223372036854775807:=by simp [maxLen]
 refine Tk func140 32 U3 fun w0=>?_;refine Tf fun R d=>?_;refine Tv U6 (fun b1=>?_);refine C6 2 [1] d Z ?_;clear d R;refine G.freeze 0 Z (fun _ _ B=>?_);refine Tu (L':=[.obj b (.cells ⟨[.int .i64 p.n,e,k,l,ah (qtx a.worth.c),o]⟩ 231 (0,0)),.arr e 3 1 a.basic.length ((a.basic).map aS).flatten,.arr k 228 2 a.basic.length ((cK a v).map bE).flatten,.arr l 3 1 a.others.length ((a.others).map aS).flatten,.arr o 32 1 a.others.length ((a.worth.f).map aQ).flatten]++(List.range a.basic.length).map (stE a v 0 0 0)) (by rw [bg 0 0];rfl) ?_;refine TC [(5,3)] Z (fun R d=>?_);refine Td (bkT B 1) U8 ?_;refine Tg 2 Z ?_;refine Ti ag U9 ?_;refine Te U6 ?_;refine D.call (FK q.tab.ok (Mem.get B mup)) Z (.inr dc_) U6 (show List.Perm _ (((eY b p.n a e k l o v).map Lent.ent)++[]) from List.Perm.of_eq (by rw [PY,bg 0 0])) fl_ (fun ax _ ay _ af=>?_);refine C6 1 [1,2] d Z ?_;clear d R;obtain ⟨⟨W,rfl,X⟩,rfl⟩:=af;refine Tu (L':=[.obj b (.cells ⟨[.int .i64 p.n,e,k,l,ah (qtx a.worth.c),o]⟩ 231 (0,0)),.arr e 3 1 a.basic.length ((a.basic).map aS).flatten,.arr k 228 2 a.basic.length ((cK a v).map bE).flatten,.arr l 3 1 a.others.length ((a.others).map aS).flatten,.arr o 32 1 a.others.length ((a.worth.f).map aQ).flatten]++(List.range a.basic.length).map (stE a v 0 0 0)) (by rw [PY,bg 0 0]) ?_;refine Tb 2 [1,2,12] Z ?_;refine G.cd (fun H=>?_) fun H=>?_
 ·have y:¬ W<0:=by
   have:=OQ H;omega
  obtain ⟨s,rfl,hs,⟨I,Y⟩,_⟩:=gY X y;have ai:kJ a s*a.worth.g s<0:=by
   unfold kJ;split <;> grind
  refine Tb 3 [2,3] Z ?_;refine Tn (TD U3 ?_);refine ⟨a,v,q,A,.no s hs ai (fun i z x=>?_) (fun h=>absurd h I),by rw [bg 0 0]⟩;rw [d s (by rw [<- q.tab.lo];exact hs) hs om_ i z x,Rat.mul_zero];exact Rat.le_refl
 have y:W<0:=by
  have:=PE H;omega
 have E:=gZ X y;have aj:Lp.RelW p.n a:=fun s hs az=>by
  have:=E s hs;have h2:¬ p.n<=a.oth s:=by omega
  grind
 refine G.loop (fun fr C' w μ=>∃ (t:Lp.Tab)(wF:Nat->Value)(J:Nat),(Lp.Inv p F t/\Lp.Rel p.n t p.n/\t.Feas p.n/\Lp.RelW p.n t/\∀ K,Lp.Reach (Lp.MinP p.n) t K->K<=J)/\fr=[(1,[],.pointer (some ⟨b1,0,none⟩))]/\w=[.obj b (.cells ⟨[.int .i64 p.n,e,k,l,ah (qtx t.worth.c),o]⟩ 231 (0,0)),.arr e 3 1 t.basic.length ((t.basic).map aS).flatten,.arr k 228 2 t.basic.length ((cK t wF).map bE).flatten,.arr l 3 1 t.others.length ((t.others).map aS).flatten,.arr o 32 1 t.others.length ((t.worth.f).map aQ).flatten]++(List.range t.basic.length).map (stE t wF 0 0 0)/\μ=J) (hn_ [1] Z) ⟨a,v,2 ^ (p.n+p.m),⟨q,d,A,aj,fun K L=>Lp.min_len q.tab.ok L⟩,Z,Z,Z⟩ (fun fr aA aB m _ q=>?_);obtain ⟨t,wF,J,⟨q,d,A,hW,L⟩,rfl,rfl,rfl⟩:=q;have ok:=q.tab.ok;have ak:t.basic.length<=1000000:=by rw [q.tab.lb];exact hm
 have al:t.others.length<=1000000:=by rw [q.tab.lo];exact hn
 have hq:∀ i,i<t.basic.length->LineQ 20 (t.line i):=fun i z=>tU q V z;have aa:=oq q V;refine TC [(5,3)] Z (fun R d=>?_);refine Td (bkT B 1) U8 ?_;refine Tg 2 Z ?_;refine Ti ag U9 ?_;refine Te U6 ?_;refine D.call (FJ ok (Mem.get B mup) aa) Z (.inr dc_) U6 (show List.Perm _ (((eY b p.n t e k l o wF).map Lent.ent)++[]) from List.Perm.of_eq (by rw [PY,bg 0 0])) fl_ (fun aC _ aD _ am=>?_);refine C6 1 [1,2] d Z ?_;clear d R;obtain ⟨⟨o1,rfl,ab⟩,rfl⟩:=am;refine Tu (L':=[.obj b (.cells ⟨[.int .i64 p.n,e,k,l,ah (qtx t.worth.c),o]⟩ 231 (0,0)),.arr e 3 1 t.basic.length ((t.basic).map aS).flatten,.arr k 228 2 t.basic.length ((cK t wF).map bE).flatten,.arr l 3 1 t.others.length ((t.others).map aS).flatten,.arr o 32 1 t.others.length ((t.worth.f).map aQ).flatten]++(List.range t.basic.length).map (stE t wF 0 0 0)) (by rw [PY,bg 0 0]) ?_;refine Tb 2 [1,2,21] Z ?_;refine G.cd (fun M=>?_) fun M=>?_
 ·have y:o1<0:=OQ M;have E:=gZ ab y;refine Tb 2 [2,3] Z ?_;refine Tn (TD U3 ?_);exact ⟨t,wF,q,A,.yes hW (fun s hs x=>by have:=E s hs;grind),by rw [bg 0 0]⟩
 have y:¬ o1<0:=PE M;obtain ⟨s,rfl,hs,⟨I,Y⟩,an⟩:=gY ab y;refine TC [(2,3)] Z (fun R d=>?_);refine Td (bkT B 1) U8 ?_;refine Te U6 ?_;refine D.call (FI U.m_ ok hs hq) Z (.inr dc_) U6 (show List.Perm _ (((eY b p.n t e k l o wF).map Lent.ent)++[]) from List.Perm.of_eq (by rw [PY,bg 0 0])) fl_ (fun aE _ aG _ ao=>?_);refine C6 1 [1,2,4] d Z ?_;clear d R;obtain ⟨⟨o2,rfl,ac⟩,rfl⟩:=ao;refine Tu (L':=[.obj b (.cells ⟨[.int .i64 p.n,e,k,l,ah (qtx t.worth.c),o]⟩ 231 (0,0)),.arr e 3 1 t.basic.length ((t.basic).map aS).flatten,.arr k 228 2 t.basic.length ((cK t wF).map bE).flatten,.arr l 3 1 t.others.length ((t.others).map aS).flatten,.arr o 32 1 t.others.length ((t.worth.f).map aQ).flatten]++(List.range t.basic.length).map (stE t wF 0 0 0)) (by rw [PY,bg 0 0]) ?_;refine Tb 2 [1,2,4,26] Z ?_;refine G.cd (fun N=>?_) fun N=>?_
 ·have O:o2<0:=OQ N;have E:=yp ac O;have Q:kJ t s=1:=by
   unfold kJ;rw [aF (by grind)]
  refine Tb 3 [2,3] Z ?_;refine Tn (TD U3 ?_);refine ⟨t,wF,q,A,.no s hs (by rw [Q];grind) (fun i z x=>?_) (fun _=>by rw [Q];decide),by rw [bg 0 0]⟩;rw [Q];have:=E i z x;grind
 have O:¬ o2<0:=PE N;obtain ⟨r,rfl,hr,S,ap,aq⟩:=yo ac O;have hP:Lp.MinP p.n t r s:=⟨hr,hs,S,I,Y,fun j hj x hg=>an j hj ⟨x,hg⟩,ap,aq,A⟩;have ad:(t.line r).g s≠0:=by grind
 obtain ⟨aH,ar⟩:=Lp.Reach.fall hP L;refine TC [(3,3)] Z (fun R d=>?_);refine Td (bkT B 1) U8 ?_;refine Tg 2 Z ?_;refine D.call (tK _ U.m_ b p.n r s (p.n+p.m) t e k l o wF ok ak al hr hs ad hq aa) Z (.inr dc_) U6 (show List.Perm _ (((eY b p.n t e k l o wF).map Lent.ent)++[]) from List.Perm.of_eq (by rw [PY,bg 0 0])) fl_ (fun aI _ aJ _ au=>?_);refine Th [1] d Z ?_;clear d R;obtain ⟨-,T,rfl⟩:=au;refine Tu (L':=[.obj b (.cells ⟨[.int .i64 p.n,e,k,l,ah (qtx (t.pivot r s).worth.c),o]⟩ 231 (0,0)),.arr e 3 1 (t.pivot r s).basic.length (((t.pivot r s).basic).map aS).flatten,.arr k 228 2 (t.pivot r s).basic.length ((cK (t.pivot r s) T).map bE).flatten,.arr l 3 1 (t.pivot r s).others.length (((t.pivot r s).others).map aS).flatten,.arr o 32 1 (t.pivot r s).others.length (((t.pivot r s).worth.f).map aQ).flatten]++(List.range (t.pivot r s).basic.length).map (stE (t.pivot r s) T 0 0 0)) (by rw [PY,bg 0 0]) ?_;refine Tp (m':=m-1) om_ mup (hn_ [1] Z) ⟨t.pivot r s,T,m-1,⟨q.pivot hr hs ad,Lp.rel_pivot ok d hr hs S,Lp.min_feas ok hP,Lp.relw_pivot ok (fun s' ae av i z x=>d s' (by rw [<- q.tab.lo];exact ae) ae av i z x) hW hr hs S,ar⟩,Z,Z,Z⟩
theorem Ox (C:Mem)(v:Value)(l:List Nat)(b:Sl C 1 v (l.map aS))(t:l.length<=1000000):Jog.Fn cx.P 200 [v] C [] fun u _w e=>∃ A n c,u=.slice A n c/\e=[.arr (.slice A n c) 3 1 l.length (l.map aS).flatten]:=by
 obtain ⟨f,c0,rfl,m,x,y,o⟩:=id b;have z:maxLen<=9223372036854775807:=by simp [maxLen]
 simp only [am] at b m ⊢;refine Tk func200 8 U3 fun w0=>Tb 1 [0] Z<|Tc 1 Z fun R d=>Ux U9<|Th [0,4] d Z<|G.cd (fun h4=>?_) fun h4=>?_
 ·have p:f=none:=by
   cases f with
   | none=>rfl
   | some a=>cases h4
  have s:l=[]:=by
   cases l with
   | nil=>rfl
   | cons q r =>
    obtain ⟨a,g,_⟩:=o 0 (aS q) rfl;rw [p] at g;cases g
  refine Tb 1 [2] Z<|G.nilArr 3 1<|Tn (TQ Z Z ?_);exact ⟨none,0,0,Z,by rw [s];rfl⟩
 refine Tf fun R d=>Un [] U12 fl_ fun B=>Te U6<|TH (j:=0) U11 b.m_ (by simp [aS,me]) (by simp only [am,P6,maxLen];omega) (by simp only [am,P6];omega) fl_ fun h i k=>C6 1 [2] d Z<|Tu (L':=[.arr (.slice h i k) 3 1 l.length (l.map aS).flatten]) ap<|Tn (TQ Z Z ?_);exact ⟨h,i,k,Z,Z⟩
theorem LF (C:Mem)(b s:Nat)(q:Rat)(w:Value)(l:List Rat)(c:Sl C 1 w (l.map aQ))(d:C b=some (.cells ⟨[.int .i64 s]⟩ 3 (0,0)))(e:s<l.length) :
  Gives cx.P 202 [.agg ⟨[ah (qtx q),w]⟩,.pointer (some ⟨b,0,none⟩)] C (.bool (!decide (l.getD s 0=0))):=by
 obtain ⟨h,i,rfl,j,k,_⟩:=id c;have m:maxLen<=9223372036854775807:=by simp [maxLen]
 refine Tk func202 10 U3 fun w0=>Tf fun R a=>Tv U6 fun b2=>C6 1 [1,2] a Z<|G.freeze 0 Z fun _ _ f=>Tc 1 Z fun R a=>Td (bkT f 1) U8<|Td (bkT d 1) U8<|Tt c.m_ U10 om_ (dM e) fl_ fun n g=>Td g U8<|C6 2 [3] a Z<|Tl U2<|⟨?_,Z⟩;show Value.bool _=Value.bool _;congr 1;show (!((⟨(qtx (l.getD s 0)).toArray⟩:ByteArray).data.toList == (⟨#[48]⟩:ByteArray).data.toList))=_;rw [fW]
theorem LD (C:Mem)(b s:Nat)(q:Rat)(w:Value)(l:List Rat)(c:Sl C 1 w (l.map aQ))(d:C b=some (.cells ⟨[.int .i64 s]⟩ 3 (0,0)))(e:s<l.length) :
  Gives cx.P 204 [.agg ⟨[ah (qtx q),w]⟩,.pointer (some ⟨b,0,none⟩)] C (.bool (!decide (l.getD s 0=0))):=by
 obtain ⟨h,i,rfl,j,k,_⟩:=id c;have m:maxLen<=9223372036854775807:=by simp [maxLen]
 refine Tk func204 10 U3 fun w0=>Tf fun R a=>Tv U6 fun b2=>C6 1 [1,2] a Z<|G.freeze 0 Z fun _ _ f=>Tc 1 Z fun R a=>Td (bkT f 1) U8<|Td (bkT d 1) U8<|Tt c.m_ U10 om_ (dM e) fl_ fun n g=>Td g U8<|C6 2 [3] a Z<|Tl U2<|⟨?_,Z⟩;show Value.bool _=Value.bool _;congr 1;show (!((⟨(qtx (l.getD s 0)).toArray⟩:ByteArray).data.toList == (⟨#[48]⟩:ByteArray).data.toList))=_;rw [fW]
inductive FirstR (q:Nat->Prop) (n:Nat):Int->Prop where
 | none:(∀ i,i<n->¬ q i)->FirstR q n (-1)
 | some (r:Nat):r<n->q r->(∀ i,i<r->¬ q i)->FirstR q n r
theorem FF (C:Mem)(v:Value)(a:List (Rat × Value))(g:Nat)(c:List Value)(q:Nat->Prop)[DecidablePred q](d:Sl C 2 v (a.map bE))(_E:Jog.Enters cx.P g=true)
  (p:∀ i x,a[i]?=some x->∀ D:Mem,C.le D->Gives cx.P g (.agg ⟨bE x⟩::c) D (.bool (decide (q i)))) :
  Pur cx.P 201 [v,.func (.func g) #[] ⟨c⟩] C fun u _=>∃ o:Int,u=.int .i64 o/\FirstR q a.length o:=by
 obtain ⟨r,c0,rfl,s,F,_⟩:=id d;have H:maxLen<=9223372036854775807:=by simp [maxLen]
 simp only [am] at d s ⊢;refine Tk func201 19 U3 fun w0=>Tb 1 [0,1] Z<|Tb 3 [0,1,7,8] Z<|G.loop (fun fr I t w=>∃ (i:Nat),(i<=a.length/\∀ j,j<i->¬ q j)/\fr=[(0,[],.slice r a.length c0),(1,[],.func (.func g) #[] ⟨c⟩),(7,[],.int .i64 a.length),(8,[],.int .i64 i)]/\t=[]/\w=a.length-i) (hn_ [0,1,7,8] Z) ⟨0,⟨PG _,fun j e=>absurd e (Nat.not_lt_zero _)⟩,Z,Z,Z⟩ (fun fr J K m _ y=>?_);obtain ⟨i,⟨L,f⟩,rfl,rfl,rfl⟩:=y;refine Tb 1 [0,1,7,8,9] Z<|G.cd (fun h=>?_) fun h=>?_
 ·have b:i<a.length:=by simpa using h
  obtain ⟨x,n⟩:∃ x,a[i]?=some x:=⟨a[i],al b⟩;refine Tb 2 [0,1,5,7,8] Z<|Tc 3 Z fun R k=>Tt d.m_ U10 om_ (show (a.map bE)[i]?=some [ah (qtx x.1),x.2] from ku n) fl_ fun M z=>Td z U8<|To (p i x n _ mup) U7<|Th [0,1,5,7,8,16] k Z<|G.cd (fun l=>?_) fun l=>?_
  ·have A:q i:=OQ l;exact Tb 2 [4] Z<|Tl U2<|⟨Z,(i:Int),Z,.some i b A f⟩
  have B:¬ q i:=PE l;refine Tf fun R k=>Tm _ U7<|C6 1 [0,1,7,8] k Z<|Tp (m':=a.length-(i+1)) om_ mup (hn_ [0,1,7,8] Z) ⟨i+1,⟨by omega,fun j e=>by
   rcases Nat.lt_or_eq_of_le (Nat.le_of_lt_succ e) with h1 | h1
   ·exact f j h1
   rw [h1];exact B⟩,rfl,rfl,rfl⟩
 have b:i=a.length:=by
  have:¬ i<a.length:=by simpa using h
  omega
 exact Tb 1 [4] Z<|Tl U2<|⟨Z, -1,Z,.none (by rw [<- b];exact f)⟩
theorem Eh (C:Mem)(b n v:Nat)(a:List Value)(c:C b=some (.cells ⟨.int .i64 n::a⟩ 231 (0,0))) :
  Gives cx.P 203 [.pointer (some ⟨b,0,none⟩),.int .i64 v] C (.bool (decide (n<=v))):=by
 refine Tk func203 11 U3 fun w0=>Tb 1 [0,1] Z<|Tc 4 Z fun R d=>Td (bkT c 1) U8<|C6 2 [4] d Z<|Tl U2<|⟨?_,Z⟩;congr 1;rw [Qo];omega
theorem oI (C:Mem)(b n v:Nat)(a:List Value):Jog.Fn cx.P 203 [.pointer (some ⟨b,0,none⟩),.int .i64 v] C [.obj b (.cells ⟨.int .i64 n::a⟩ 231 (0,0))]
   fun u _ d=>u=.bool (decide (n<=v))/\d=[.obj b (.cells ⟨.int .i64 n::a⟩ 231 (0,0))]:=by
 have h:=Ur (P:=cx.P) (f:=203) (args:=[.pointer (some ⟨b,0,none⟩),.int .i64 v]) (C:=C) (q:=fun u=>u=.bool (decide (n<=v))) kr_ [.obj b (.int .i64 n::a) 231] (fun x c=>by
  rcases PN.1 c with rfl | c
  ·trivial
  cases c) fun e g hs=>(Eh e b n v a (hs _ (PB ..))).mono fun u _ i _ ⟨h1,h2⟩=>⟨h2,h1⟩
 exact h
theorem oB {C:Mem}(h:∀ x∈eY b n t wB wL wO wW wF,x.seen C):Sl C 1 wO (t.others.map aS)/\Sl C 2 wL ((cK t wF).map bE)/\∀ i,i<t.basic.length->Sl C 1 (wF i) ((t.line i).f.map aQ) :=
 ⟨h _ (PK _ (PK _ (PK _ (PB ..)))),h _ (PK _ (PK _ (PB ..))),fun i a =>
  h (Ka t wF i) (PK _ (PK _ (PK _ (PK _ (PK _ (PF.2 ⟨i,PS.2 a,rfl⟩))))))⟩
section
variable {C:Mem} {a2 b n N s:Nat} {t:Lp.Tab} {wB wO wW:Value} {wF:Nat->Value}
theorem Ow {d:Value}(i:t.Ok N)(j:t.others.length<=1000000):Jog.Fn cx.P 200 [wO] C ((eY b n t wB d wO wW wF).map Lent.ent)
   fun u _ a=>∃ A n2 c,u=.slice A n2 c/\a=.arr (.slice A n2 c) 3 1 t.others.length (t.others.map aS).flatten::(eY b n t wB d wO wW wF).map Lent.ent:=by
 have h:=UJ (P:=cx.P) (f:=200) (args:=[wO]) (L:=[]) (C:=C) (post:=fun u a=>∃ A n2 c,u=.slice A n2 c/\a=[.arr (.slice A n2 c) 3 1 t.others.length (t.others.map aS).flatten]) kr_ (eY b n t wB d wO wW wF) (fZ i) fun g o hs=>Ox g wO t.others (oB hs).1 j;rw [PY] at h;refine ⟨h.1,fun w k=>(h.2 w k).mono ?_⟩;rintro e w' ⟨v,g,a,l,m,p,rfl,A,n2,c,rfl,rfl⟩;exact ⟨_,g,_,l,St.perm m (List.perm_append_singleton _ _),A,n2,c,Z,Z⟩
theorem Mo {a:Value}(h:t.Ok N)(l:C a2=some (.cells ⟨[.int .i64 s]⟩ 3 (0,0)))(m:s<t.others.length) :
  Jog.Fn cx.P 201 [a,.func (.func 202) #[] #[.pointer (some ⟨a2,0,none⟩)]] C ((eY b n t wB a wO wW wF).map Lent.ent)
   fun u _ j=>(∃ o:Int,u=.int .i64 o/\FirstR (fun i=>¬ (t.line i).g s=0) t.basic.length o)/\j=(eY b n t wB a wO wW wF).map Lent.ent:=by
 refine Ur kr_ _ (fZ h) fun p q r=>?_;obtain ⟨_,v,w⟩:=oB r;refine (FF p a (cK t wF) 202 [.pointer (some ⟨a2,0,none⟩)] (fun i=>¬ (t.line i).g s=0) v kr_ fun i x d D k=>?_).mono ?_
 ·have e:i<t.basic.length:=by rw [<- fA (wF:=wF)];exact (aJ.1 d).1
  rw [nO e] at d;cases d
  rw [decide_not];exact LF D a2 s (t.line i).c (wF i) (t.line i).f ((w i e).mono k) ((q.trans k) _ _ l) (by rw [gW h e];exact m)
 rintro u D j _ ⟨h1,o,rfl,h2⟩;rw [fA] at h2;exact ⟨h1,o,Z,h2⟩
theorem Mn {A:Option Addr}{c r M:Nat}(v:t.basic.length=M)(j:t.Ok N)(w:C a2=some (.cells ⟨[.int .i64 s]⟩ 3 (0,0)))(y:s<t.others.length)(J:r<t.basic.length)(z:M<=c) :
  Jog.Fn cx.P 201 [.slice (if c=r+1 then A else A.map (·.add ((r+1)*2))) (M-(r+1)) (c-(r+1)),.func (.func 204) #[] #[.pointer (some ⟨a2,0,none⟩)]] C ((eY b n t wB (.slice A M c) wO wW wF).map Lent.ent)
   fun u _ k=>(∃ o:Int,u=.int .i64 o/\FirstR (fun i=>¬ (t.line (r+1+i)).g s=0) (t.basic.length-(r+1)) o)/\k=(eY b n t wB (.slice A M c) wO wW wF).map Lent.ent:=by
 subst v;refine Ur kr_ _ (fZ j) fun B E F=>?_;obtain ⟨_,G,H⟩:=oB F;have p:=Sl.sub (l:=r+1) (h:=t.basic.length) (m:=c) G om_ (by rw [am,fA];exact Py _) z (Py _);have e:((cK t wF).map bE).take t.basic.length=(cK t wF).map bE:=Qg (by rw [am,fA];exact Py _);rw [e,<- List.map_drop] at p;have I:((cK t wF).drop (r+1)).length=t.basic.length-(r+1):=by rw [RB,fA]
 refine (FF B _ ((cK t wF).drop (r+1)) 204 [.pointer (some ⟨a2,0,none⟩)] (fun i=>¬ (t.line (r+1+i)).g s=0) p kr_ fun i x a D q=>?_).mono ?_
 ·have d:r+1+i<t.basic.length:=by have:=(aJ.1 a).1;omega
  rw [List.getElem?_drop,nO d] at a;cases a
  rw [decide_not];exact LD D a2 s (t.line (r+1+i)).c (wF (r+1+i)) (t.line (r+1+i)).f ((H _ d).mono q) ((E.trans q) _ _ w) (by rw [gW j d];exact y)
 rintro u D k _ ⟨h1,o,rfl,h2⟩;rw [I] at h2;exact ⟨h1,o,Z,h2⟩
end
def Pu (p:Lp.Sys)(t:Lp.Tab)(s:Nat)(o:Int):Prop:=(o=-1/\∀ i,i<t.basic.length->p.n<=t.bas i->(t.line i).g s=0)∨∃ r:Nat,o=r/\r<t.basic.length/\¬ (t.line r).g s=0/\∀ i,i<r->p.n<=t.bas i->(t.line i).g s=0
theorem yD (h:FirstR q n o)(a:o<0):∀ i,i<n->¬ q i:=by
 cases h with
 | none h=>exact h
 | some r _ _ _=>omega
theorem yC (h:FirstR q n o)(a:¬ o<0):∃ r:Nat,o=r/\r<n/\q r/\∀ i,i<r->¬ q i:=by
 cases h with
 | none h=>exact absurd dc_ a
 | some r h1 h2 h3=>exact ⟨r,rfl,h1,h2,h3⟩
theorem BU (h:FirstR (fun i=>¬ (t.line i).g s=0) t.basic.length o):Pu p t s o:=by
 cases h with
 | none h=>exact .inl ⟨rfl,fun i a _=>Decidable.not_not.1 (h i a)⟩
 | some r h1 h2 h3=>exact .inr ⟨r,rfl,h1,h2,fun i a _=>Decidable.not_not.1 (h3 i a)⟩
theorem Ch (C:Mem)(hT:Tabs C)(p:Lp.Sys)(M:Nat->Rat)(b:Nat)(a:Lp.Tab)(N O e l:Value)(A:Nat->Value)(q:Lp.Inv p M a)(ho:a.others=List.range p.n)(hl:Lp.Lim p M 20)(hm:p.m<=1000000)(hn:p.n<=1000000) :
  Jog.Fn cx.P 137 [.pointer (some ⟨b,0,none⟩)] C ((eY b p.n a N O e l A).map Lent.ent) fun u _ z=>u=.tuple #[]/\∃ t wF,Lp.Inv p M t/\Lp.Rel p.n t p.n/\z=(eY b p.n t N O e l wF).map Lent.ent:=by
 have aM:maxLen<=9223372036854775807:=by simp [maxLen]
 have au:a.others.length=p.n:=q.tab.lo;refine Tk func137 65 U3 fun w0=>?_;refine Tu (L':=[.obj b (.cells ⟨[.int .i64 p.n,N,O,e,ah (qtx a.worth.c),l]⟩ 231 (0,0)),.arr N 3 1 a.basic.length ((a.basic).map aS).flatten,.arr O 228 2 a.basic.length ((cK a A).map bE).flatten,.arr e 3 1 a.others.length ((a.others).map aS).flatten,.arr l 32 1 a.others.length ((a.worth.f).map aQ).flatten]++(List.range a.basic.length).map (stE a A 0 0 0)) (by rw [bg 0 0]) ?_;refine Vm 1 Z (fun w y I S av _=>?_);rw [q.tab.lb] at I S av;subst I;refine Vm 2 Z (fun AL x I _ T _=>?_);rw [q.tab.lb] at I T;subst I;refine Tu (L':=[.obj b (.cells ⟨[.int .i64 p.n,(.slice w p.m y),(.slice AL p.m x),e,ah (qtx a.worth.c),l]⟩ 231 (0,0)),.arr (.slice w p.m y) 3 1 a.basic.length ((a.basic).map aS).flatten,.arr (.slice AL p.m x) 228 2 a.basic.length ((cK a A).map bE).flatten,.arr e 3 1 a.others.length ((a.others).map aS).flatten,.arr l 32 1 a.others.length ((a.worth.f).map aQ).flatten]++(List.range a.basic.length).map (stE a A 0 0 0)) Z ?_;refine TC [(4,3)] Z (fun R d=>?_);refine Tg 3 Z ?_;refine Ti ag U9 ?_;refine D.call (Ow q.tab.ok om_) Z (.inr dc_) U6 (show List.Perm _ (((eY b p.n a (.slice w p.m y) (.slice AL p.m x) e l A).map Lent.ent)++[]) from List.Perm.of_eq (by rw [PY,bg 0 0] <;> rfl)) fl_ (fun aN aw aO _ ax=>?_);obtain ⟨Ac,n2,c2,rfl,rfl⟩:=ax;refine C6 2 [0,10,11,12] d Z ?_;clear d R;refine G.freezeArr 0 (a.others.map aS) Z Z uj ap (fun aw _ an=>?_);have ay:n2=p.n:=by
  obtain ⟨A9,c9,az,_⟩:=id an;injection az with e1 e2 e3;rw [e2,am,au]
 subst ay;refine Tu (L':=[.obj b (.cells ⟨[.int .i64 p.n,(.slice w p.m y),(.slice AL p.m x),e,ah (qtx a.worth.c),l]⟩ 231 (0,0)),.arr (.slice w p.m y) 3 1 a.basic.length ((a.basic).map aS).flatten,.arr (.slice AL p.m x) 228 2 a.basic.length ((cK a A).map bE).flatten,.arr e 3 1 a.others.length ((a.others).map aS).flatten,.arr l 32 1 a.others.length ((a.worth.f).map aQ).flatten]++(List.range a.basic.length).map (stE a A 0 0 0)) (by rw [bg 0 0,PY];rfl) ?_;refine G.loop (fun fr C' z U=>∃ (k:Nat)(t:Lp.Tab)(wF:Nat->Value),(k<=p.n/\Lp.Inv p M t/\Lp.Rel p.n t k)/\fr=[(0,[],.pointer (some ⟨b,0,none⟩)),(10,[],.slice Ac p.n c2),(11,[],.int .i64 p.n),(12,[],.int .i64 k)]/\z=[.obj b (.cells ⟨[.int .i64 p.n,(.slice w p.m y),(.slice AL p.m x),e,ah (qtx t.worth.c),l]⟩ 231 (0,0)),.arr (.slice w p.m y) 3 1 t.basic.length ((t.basic).map aS).flatten,.arr (.slice AL p.m x) 228 2 t.basic.length ((cK t wF).map bE).flatten,.arr e 3 1 t.others.length ((t.others).map aS).flatten,.arr l 32 1 t.others.length ((t.worth.f).map aQ).flatten]++(List.range t.basic.length).map (stE t wF 0 0 0)/\U=p.n-k) (hn_ [0,10,11,12] Z) ⟨0,a,A,⟨PG _,q,fun s hs=>absurd hs (Nat.not_lt_zero _)⟩,Z,Z,Z⟩ (fun fr aP aR m _ q=>?_);obtain ⟨k,t,wF,⟨hk,q,d⟩,rfl,rfl,rfl⟩:=q;refine Tb 1 [0,10,11,12,13] Z ?_;refine G.cd (fun V=>?_) fun V=>?_
 ·have ao:k<p.n:=by
   have:=OQ V;omega
  have ok:=q.tab.ok;have aA:=q.tab.lb;have aB:t.basic.length<=1000000:=by rw [q.tab.lb];exact hm
  have aC:t.others.length<=1000000:=by rw [q.tab.lo];exact hn
  have hq:∀ i,i<t.basic.length->LineQ 20 (t.line i):=fun i W=>tU q hl W;have J:k<t.others.length:=by rw [q.tab.lo];exact ao
  refine Tc 1 Z fun R d=>?_;refine Tt an.m_ U10 om_ (show (a.others.map aS)[k]?=some (aS k) from tP (by rw [ho,Qd ao])) fl_ (fun aT aD=>?_);refine Td aD U8 ?_;refine Tq U5 (fun b2=>?_);refine Tj (j:=0) U12 ?_;refine C6 1 [0,2,3,10,11,12] d Z ?_;clear d R;refine G.freeze 0 Z (fun _ _ X=>?_);refine TC [(5,3)] Z (fun R d=>?_);refine Tg 3 Z ?_;refine Ti ag U9 ?_;refine Te U6 ?_;refine D.call (Mo ok (Mem.get X mup) J) Z (.inr dc_) U6 (show List.Perm _ (((eY b p.n t (.slice w p.m y) (.slice AL p.m x) e l wF).map Lent.ent)++[]) from List.Perm.of_eq (by rw [PY,bg 0 0] <;> rfl)) fl_ (fun aU _ aV _ aE=>?_);refine C6 1 [0,2,3,4,10,11,12] d Z ?_;clear d R;obtain ⟨⟨o0,rfl,aF⟩,rfl⟩:=aE;refine Tu (L':=[.obj b (.cells ⟨[.int .i64 p.n,(.slice w p.m y),(.slice AL p.m x),e,ah (qtx t.worth.c),l]⟩ 231 (0,0)),.arr (.slice w p.m y) 3 1 t.basic.length ((t.basic).map aS).flatten,.arr (.slice AL p.m x) 228 2 t.basic.length ((cK t wF).map bE).flatten,.arr e 3 1 t.others.length ((t.others).map aS).flatten,.arr l 32 1 t.others.length ((t.worth.f).map aQ).flatten]++(List.range t.basic.length).map (stE t wF 0 0 0)) (by rw [PY,bg 0 0]) ?_;refine G.loop (fun fr C' z U=>∃ (o:Int),(Pu p t k o)/\fr=[(0,[],.pointer (some ⟨b,0,none⟩)),(2,[],.pointer (some ⟨b2,0,none⟩)),(3,[],.int .i64 k),(4,[],.int .i64 o),(10,[],.slice Ac p.n c2),(11,[],.int .i64 p.n),(12,[],.int .i64 k)]/\z=[.obj b (.cells ⟨[.int .i64 p.n,(.slice w p.m y),(.slice AL p.m x),e,ah (qtx t.worth.c),l]⟩ 231 (0,0)),.arr (.slice w p.m y) 3 1 t.basic.length ((t.basic).map aS).flatten,.arr (.slice AL p.m x) 228 2 t.basic.length ((cK t wF).map bE).flatten,.arr e 3 1 t.others.length ((t.others).map aS).flatten,.arr l 32 1 t.others.length ((t.worth.f).map aQ).flatten]++(List.range t.basic.length).map (stE t wF 0 0 0)/\U=t.basic.length-o.toNat) (hn_ [0,2,3,4,10,11,12] Z) ⟨o0,BU aF,Z,Z,Z⟩ (fun fr aW aX m _ q=>?_);obtain ⟨o,K,rfl,rfl,rfl⟩:=q;refine Tc 7 Z fun R d=>?_;refine Ti ag U9 ?_;refine Te U6 ?_;refine VB (w.getD ⟨0,0,none⟩).block (o.toNat*1) Z Z Z Z Z Z Z Z Z Z (fun Y=>by
   have h:decide (o ≥ 0)=true:=Y.1;have h2:=OQ h;obtain ⟨r,L,B,_⟩:=K.resolve_left om_;exact ⟨S om_,by omega,by omega,Z⟩) Z Z ?_
  refine Vx (v:=.int .i64 (t.bas o.toNat)) af Z Z Z Z Z Z (fun Y=>by
   have h:decide (o ≥ 0)=true:=Y.1;have h2:=OQ h;obtain ⟨r,L,B,_⟩:=K.resolve_left om_;refine ⟨S om_, ?_⟩;rw [eA fk (show t.basic[o.toNat]?=some (t.bas o.toNat) from yi om_)];rfl) rfl rfl ?_
  refine UQ ag (fun _=>oI _ b p.n (t.bas o.toNat) _) U9 ?_;refine Te U6 ?_;refine TB U8 ?_;refine Th [0,2,3,4,10,11,12,36] d Z ?_;clear d R;refine G.cd (fun aa=>?_) fun aa=>?_
  ·have Q:o ≥ 0/\¬ p.n<=t.bas o.toNat:=by simpa using aa
   obtain ⟨aY,ab⟩:=Q;obtain ⟨r,L,B,ac,ad⟩:=K.resolve_left om_;subst L;rw [Rk] at ab;refine TC [(8,3)] Z (fun R d=>?_);refine Tg 3 Z ?_;refine Ti ag U9 ?_;refine Te U6 ?_;refine Tm _ U7 ?_;refine Ud (r+1) p.m x U12 (fun _=>⟨.inr ⟨_,Z⟩,.inl ⟨Z,Z⟩,.inl ⟨Z,Z⟩,by omega,T,Py _⟩) U2 ?_;refine Te U6 ?_;refine D.call (Mn aA ok (Mem.get X mup) J B T) Z (.inr dc_) U6 (show List.Perm _ (((eY b p.n t (.slice w p.m y) (.slice AL p.m x) e l wF).map Lent.ent)++[]) from List.Perm.of_eq (by rw [PY,bg 0 0] <;> rfl)) fl_ (fun aZ _ a0 _ aG=>?_);refine C6 1 [0,2,3,4,5,10,11,12] d Z ?_;clear d R;obtain ⟨⟨o2,rfl,aq⟩,rfl⟩:=aG;refine Tu (L':=[.obj b (.cells ⟨[.int .i64 p.n,(.slice w p.m y),(.slice AL p.m x),e,ah (qtx t.worth.c),l]⟩ 231 (0,0)),.arr (.slice w p.m y) 3 1 t.basic.length ((t.basic).map aS).flatten,.arr (.slice AL p.m x) 228 2 t.basic.length ((cK t wF).map bE).flatten,.arr e 3 1 t.others.length ((t.others).map aS).flatten,.arr l 32 1 t.others.length ((t.worth.f).map aQ).flatten]++(List.range t.basic.length).map (stE t wF 0 0 0)) (by rw [PY,bg 0 0]) ?_;refine Tb 2 [0,2,3,4,5,10,11,12,47] Z ?_;refine G.cd (fun ae=>?_) fun ae=>?_
   ·have ai:o2<0:=OQ ae;have hz:∀ i,i<t.basic.length->p.n<=t.bas i->(t.line i).g k=0:=fun i W E=>by
     rcases Nat.lt_trichotomy i r with h1 | h1 | h1
     ·exact ad i h1 E
     ·rw [h1] at E;exact absurd E ab
     have:=yD aq ai (i-(r+1)) om_;rw [show r+1+(i-(r+1))=i by omega] at this;exact Decidable.not_not.1 this
    refine Tb 1 [0,2,3,4,10,11,12] Z ?_;refine Tc 5 Z fun R d=>?_;refine UQ ag (fun _=>oI _ b p.n k _) U9 ?_;refine Te U6 ?_;refine TB U8 ?_;refine Th [0,2,4,10,11,12,59] d Z ?_;clear d R;refine G.cd (fun ar=>?_) fun ar=>?_
    ·exact absurd ar ap
    refine Tf fun R d=>?_;refine Tm _ U7 ?_;refine C6 1 [0,10,11,12] d Z ?_;clear d R;refine Tp (m':=p.n-(k+1)) om_ mup (hn_ [0,10,11,12] Z) ⟨k+1,t,wF,⟨by omega,q,Lp.rel_none d hz⟩,Z,Z,Z⟩
   have ai:¬ o2<0:=PE ae;obtain ⟨F,rfl,a1,aH,aI⟩:=yC aq ai;have aJ:Pu p t k ((r+(1+F):Nat):Int):=.inr ⟨r+(1+F),rfl,by omega,by rw [show r+(1+F)=r+1+F by omega];exact aH,fun i W E=>by
    rcases Nat.lt_trichotomy i r with h1 | h1 | h1
    ·exact ad i h1 E
    ·rw [h1] at E;exact absurd E ab
    have:=aI (i-(r+1)) om_;rw [show r+1+(i-(r+1))=i by omega] at this;exact Decidable.not_not.1 this⟩
   refine Tc 2 Z fun R d=>?_;refine Tm _ U7 ?_;refine Tm _ U7 ?_;refine C6 1 [0,2,3,4,10,11,12] d Z ?_;clear d R;refine Tp (m':=t.basic.length-((r+(1+F):Nat):Int).toNat) om_ mup (hn_ [0,2,3,4,10,11,12] Z) ⟨((r+(1+F):Nat):Int),aJ,Z,Z,Z⟩
  have Q:¬ (o ≥ 0/\¬ p.n<=t.bas o.toNat):=by simpa using aa
  refine Tc 5 Z fun R d=>?_;refine UQ ag (fun _=>oI _ b p.n k _) U9 ?_;refine Te U6 ?_;refine TB U8 ?_;refine Th [0,2,4,10,11,12,59] d Z ?_;clear d R;refine G.cd (fun aj=>?_) fun aj=>?_
  ·have H:0<=o:=by
    have H:(decide (0<=o) && !decide (p.n<=k))=true:=aj;simp only [PL,PI] at H;exact H.1
   obtain ⟨r,L,B,ac,ad⟩:=K.resolve_left om_;subst L;rw [Rk] at Q;have aK:p.n<=t.bas r:=by
    apply Decidable.byContradiction;intro h;exact Q ⟨by omega,h⟩
   refine TC [(3,3)] Z (fun R d=>?_);refine Tg 2 Z ?_;refine Td (bkT X 1) U8 ?_;refine D.call (tK _ hT.m_ b p.n r k (p.n+p.m) t (.slice w p.m y) (.slice AL p.m x) e l wF ok aB aC B J ac hq (oq q hl)) Z (.inr dc_) U6 (show List.Perm _ (((eY b p.n t (.slice w p.m y) (.slice AL p.m x) e l wF).map Lent.ent)++[]) from List.Perm.of_eq (by rw [PY,bg 0 0] <;> rfl)) fl_ (fun a2 _ a3 _ aL=>?_);refine Th [0,10,11,12] d Z ?_;clear d R;refine Tf fun R d=>?_;refine Tm _ U7 ?_;refine C6 1 [0,10,11,12] d Z ?_;clear d R;obtain ⟨-,ak,rfl⟩:=aL;refine Tu (L':=[.obj b (.cells ⟨[.int .i64 p.n,(.slice w p.m y),(.slice AL p.m x),e,ah (qtx (t.pivot r k).worth.c),l]⟩ 231 (0,0)),.arr (.slice w p.m y) 3 1 (t.pivot r k).basic.length (((t.pivot r k).basic).map aS).flatten,.arr (.slice AL p.m x) 228 2 (t.pivot r k).basic.length ((cK (t.pivot r k) ak).map bE).flatten,.arr e 3 1 (t.pivot r k).others.length (((t.pivot r k).others).map aS).flatten,.arr l 32 1 (t.pivot r k).others.length (((t.pivot r k).worth.f).map aQ).flatten]++(List.range (t.pivot r k).basic.length).map (stE (t.pivot r k) ak 0 0 0)) (by rw [PY,bg 0 0]) ?_;refine Tp (m':=p.n-(k+1)) om_ mup (hn_ [0,10,11,12] Z) ⟨k+1,t.pivot r k,ak,⟨by omega,q.pivot B J ac,Lp.rel_next ok d B J aK⟩,Z,Z,Z⟩
  have H:¬ 0<=o:=by
   have H:(decide (0<=o) && !decide (p.n<=k))=false:=aj;have al:¬ p.n<=k:=by omega
   simpa [al] using H
  have hz:∀ i,i<t.basic.length->p.n<=t.bas i->(t.line i).g k=0:=by
   rcases K with ⟨_,h2⟩ | ⟨r,h1,_⟩
   ·exact h2
   omega
  refine Tf fun R d=>?_;refine Tm _ U7 ?_;refine C6 1 [0,10,11,12] d Z ?_;clear d R;refine Tp (m':=p.n-(k+1)) om_ mup (hn_ [0,10,11,12] Z) ⟨k+1,t,wF,⟨by omega,q,Lp.rel_none d hz⟩,Z,Z,Z⟩
 have al:k=p.n:=by
  have:=PE V;omega
 refine Ut Z ?_;exact ⟨Z,t,wF,q,by rw [al] at d;exact d,by rw [bg 0 0]⟩
theorem GK (C:Mem)(v:Value)(l:List Rat)(b:Sl C 1 v (l.map aQ))(t:l.length<=1000000):Jog.Fn cx.P 50 [v] C [] fun u _w e=>∃ A n c,u=.slice A n c/\e=[.arr (.slice A n c) 32 1 l.length (l.map aQ).flatten]:=by
 obtain ⟨f,c0,rfl,m,x,y,o⟩:=id b;have z:maxLen<=9223372036854775807:=by simp [maxLen]
 simp only [am] at b m ⊢;refine Tk func50 8 U3 fun w0=>Tb 1 [0] Z<|Tc 1 Z fun R d=>Ux U9<|Th [0,4] d Z<|G.cd (fun h4=>?_) fun h4=>?_
 ·have p:f=none:=by
   cases f with
   | none=>rfl
   | some a=>cases h4
  have s:l=[]:=by
   cases l with
   | nil=>rfl
   | cons q r =>
    obtain ⟨a,g,_⟩:=o 0 (aQ q) rfl;rw [p] at g;cases g
  refine Tb 1 [2] Z<|G.nilArr 32 1<|Tn (TQ Z Z ?_);exact ⟨none,0,0,Z,by rw [s];rfl⟩
 refine Tf fun R d=>Un [] U12 fl_ fun B=>Te U6<|TH (j:=0) U11 b.m_ (by simp [aQ,me,ah]) (by simp only [am,P6,maxLen];omega) (by simp only [am,P6];omega) fl_ fun h i k=>C6 1 [2] d Z<|Tu (L':=[.arr (.slice h i k) 32 1 l.length (l.map aQ).flatten]) ap<|Tn (TQ Z Z ?_);exact ⟨h,i,k,Z,Z⟩
def ci (n:Nat)(rs:List (List Rat × Rat)):Lp.Sys:=⟨n,rs.length,fun r j=>(rs.getD r ([],0)).1.getD j 0,fun r=>(rs.getD r ([],0)).2⟩
abbrev sA (A:Option Addr)(n c:Nat):Value:=.slice A n c
abbrev sB (A:Option Addr)(n c:Nat):Value:=.slice A n c
abbrev sO (A:Option Addr)(n c:Nat):Value:=.slice A n c
abbrev sW (A:Option Addr)(n c:Nat):Value:=.slice A n c
abbrev sF (A:Option Addr)(n c:Nat):Value:=.slice A n c
def lbF (n i:Nat):List Nat:=(List.range i).map fun q=>n+q
def lvF (rs:List (List Rat × Rat))(wF:Nat->Value)(i:Nat):List (Rat × Value):=(List.range i).map fun q=>((rs.getD q ([],0)).2,wF q)
def opE (n:Nat)(rs:List (List Rat × Rat))(wF:Nat->Value)(q:Nat):Ent:=.arr (wF q) 32 1 n (((List.range n).map fun j=>-(rs.getD q ([],0)).1.getD j 0).map aQ).flatten
def Hz (wF:Nat->Value)(i:Nat)(w:Value):Nat->Value:=fun q=>if q=i then w else wF q
theorem DR :Hz wF i w i=w:=aL rfl
theorem DQ {q:Nat}(h:q≠i):Hz wF i w q=wF q:=aF h
theorem IW :lbF n (i+1)=lbF n i++[n+i]:=by unfold lbF;rw [QF,Qb];rfl
theorem IP {r:List Rat × Rat}(h:rs.getD i ([],0)=r):lvF rs (Hz wF i w) (i+1)=lvF rs wF i++[(r.2,w)]:=by
 unfold lvF;rw [QF,Qb,List.map_singleton,h,DR];congr 1;refine List.map_congr_left fun q a=>?_;rw [DQ (by have:=PS.1 a;omega)]
theorem IF {r:List Rat × Rat}(h:rs.getD i ([],0)=r):(List.range (i+1)).map (opE n rs (Hz wF i w))=(List.range i).map (opE n rs wF)++[.arr w 32 1 n (((List.range n).map fun j=>-r.1.getD j 0).map aQ).flatten]:=by
 rw [QF,Qb,List.map_singleton];congr 1
 ·refine List.map_congr_left fun q a=>?_;unfold opE;rw [DQ (by have:=PS.1 a;omega)]
 unfold opE;rw [h,DR]
theorem Cj {l:List Rat}(h:l.length=n):(List.range n).map (fun j=>l.getD j 0)=l:=by
 refine List.ext_getElem? fun j=>?_;rw [PD];by_cases a:j<n
 ·rw [Qd a,al om_];show some (l.getD j 0)=_;rw [ay,al om_];rfl
 rw [PJ (show (List.range n).length<=j by simp;omega),PJ om_];rfl
theorem E8 (g:ob.length=n) :
  (eY b n (Lp.openT (ci n rs) fun j=>ob.getD j 0) wB wL wO wW wF).map Lent.ent=[.obj b (.cells ⟨[.int .i64 n,wB,wL,wO,ah [48],wW]⟩ 231 (0,0)),.arr wB 3 1 rs.length ((lbF n rs.length).map aS).flatten,.arr wL 228 2 rs.length ((lvF rs wF rs.length).map bE).flatten,.arr wO 3 1 n ((List.range n).map aS).flatten,.arr wW 32 1 n (ob.map aQ).flatten]++(List.range rs.length).map (opE n rs wF):=by
 have d:(Lp.openT (ci n rs) fun j=>ob.getD j 0).basic.length=rs.length:=Lp.openT_lb;have e:(Lp.openT (ci n rs) fun j=>ob.getD j 0).others.length=n:=Lp.openT_lo;have h1:cK (Lp.openT (ci n rs) fun j=>ob.getD j 0) wF=lvF rs wF rs.length:=by
  unfold cK lvF;rw [d];refine List.map_congr_left fun q a=>?_;rw [Lp.openT_line (p:=ci n rs) (PS.1 a)];rfl
 have h2:(List.range rs.length).map (Lent.ent ∘ Ka (Lp.openT (ci n rs) fun j=>ob.getD j 0) wF)=(List.range rs.length).map (opE n rs wF):=by
  refine List.map_congr_left fun q a=>?_;show Ent.arr _ _ 1 _ _=_;rw [Lp.openT_line (p:=ci n rs) (PS.1 a),e];rfl
 have h3:(Lp.openT (ci n rs) fun j=>ob.getD j 0).worth.f=ob:=Cj g;have h4:(Lp.openT (ci n rs) fun j=>ob.getD j 0).worth.c=0:=rfl;unfold eY;rw [h1,h3,h4,d,e,LK];simp only [Qa,Qv,h2];rfl
def Cy (n:Nat)(rs:List (List Rat × Rat))(ob:List Rat)(b17:Nat)(Aw:Option Addr)(nw cw:Nat)(A1:Option Addr)(n1 c1:Nat)(i:Nat)(wF:Nat->Value)(r:List Rat × Rat)(A4:Option Addr)(n4 c4:Nat)(A71:Option Addr)(n71 c71:Nat)(A78:Option Addr)(n78 c78:Nat):List Ent:=[.arr (sA A71 n71 c71) 3 1 (i+1) (((lbF n i).map aS).flatten++[[.int .i64 ((n:Int)+(i:Int))]].flatten),.arr (sB A78 n78 c78) 228 2 (i+1) (((lvF rs wF i).map bE).flatten++[[ah (qtx r.2),.slice A4 n4 c4]].flatten),.obj b17 (.cells ⟨[.int .i64 n,.slice A71 n71 c71,.slice A78 n78 c78,.slice A1 n1 c1,ah [48],.slice Aw nw cw]⟩ 231 (0,0)),.arr (sO A1 n1 c1) 3 1 n (((List.range n)).map aS).flatten,.arr (sW Aw nw cw) 32 1 n (ob.map aQ).flatten,.arr (sF A4 n4 c4) 32 1 n (((List.range n).map fun q=>-r.1.getD q 0).map aQ).flatten]++(List.range i).map (opE n rs wF)
def opX1 (n:Nat)(rs:List (List Rat × Rat))(ob:List Rat)(b17:Nat)(Aw:Option Addr)(nw cw:Nat)(A1:Option Addr)(n1 c1:Nat)(i:Nat)(wF:Nat->Value)(A4:Option Addr)(n4 c4:Nat)(A71:Option Addr)(n71 c71:Nat)(A78:Option Addr)(n78 c78:Nat):List Ent:=[.arr (sA A71 n71 c71) 3 1 (i+1) ((lbF n (i+1)).map aS).flatten,.arr (sB A78 n78 c78) 228 2 (i+1) ((lvF rs (Hz wF i (.slice A4 n4 c4)) (i+1)).map bE).flatten,.obj b17 (.cells ⟨[.int .i64 n,.slice A71 n71 c71,.slice A78 n78 c78,.slice A1 n1 c1,ah [48],.slice Aw nw cw]⟩ 231 (0,0)),.arr (sO A1 n1 c1) 3 1 n (((List.range n)).map aS).flatten,.arr (sW Aw nw cw) 32 1 n (ob.map aQ).flatten]++(List.range (i+1)).map (opE n rs (Hz wF i (.slice A4 n4 c4)))
theorem dI {a:Nat}{b:Option Addr}{c d:Nat}{e:Option Addr}{f g:Nat}{r:List Rat × Rat}{h:Option Addr}{j k:Nat}{l:Option Addr}{m o:Nat}{p:Option Addr}{q s:Nat}(t:rs.getD i ([],0)=r):(Cy n rs ob a b c d e f g i wF r h j k l m o p q s).Perm (opX1 n rs ob a b c d e f g i wF h j k l m o p q s):=by
 unfold Cy opX1;rw [IW,IP t,IF t];simp only [Qb,Qj];exact List.Perm.append_left [_,_,_,_,_] (List.perm_append_singleton _ _).symm
theorem Iu (C:Mem)(_aO:Tabs C)(n:Nat)(rv ov:Value)(c:List (List Rat × Rat))(z:List Rat)(hr:RowsT C rv (c.map fP))(ho:Sl C 1 ov (z.map aQ))(hq:RowsQ n c)(hn:n<=1000)(au:z.length=n) :
  Jog.Fn cx.P 136 [.agg ⟨[.int .i64 n,rv,ov]⟩] C [] fun u _aP x=>∃ b wB wL wO wW wF,u=.pointer (some ⟨b,0,none⟩)/\x=(eY b n (Lp.openT (ci n c) fun j=>z.getD j 0) wB wL wO wW wF).map Lent.ent:=by
 obtain ⟨vs,av,aC,V⟩:=hr;obtain ⟨Ar,cr,rfl,aw,aR,_⟩:=id V;have hm:=hq.m;have aT:maxLen<=9223372036854775807:=by simp [maxLen]
 rw [sS av] at V aw ⊢;simp only [am] at V aw av ⊢;refine Tk func136 85 U3 fun w0=>?_;refine Tf fun R a=>?_;refine Tv U6 (fun b1=>?_);refine C6 1 [1] a Z ?_;clear a R;refine G.freeze 0 Z (fun _ _ U=>?_);refine Tx [0,1,2,3,4,5,6,7,8] [(4,3),(1,0)] Z kr_ (fun R I a=>?_);refine Te U6 ?_;refine Uk (fun _=>((PtrTo.blockT U _ 1).mono I)) U9 ?_;refine Te U6 ?_;refine Td (bkT U 1) U8 ?_;refine D.call (GK _ ov z ho.m_ om_) Z (.inr dc_) U6 (PC _) fl_ (fun aU _ aV _ aD=>?_);obtain ⟨d,e,f,rfl,rfl⟩:=aD;refine Tw [ah [48],.slice d e f] U8 ?_;refine Tw [.int .i64 n,.slice none 0 0,.slice none 0 0,.slice none 0 0,ah [48],.slice d e f] U8 ?_;refine Tv U6 (fun y=>?_);refine Te U6 ?_;refine Th [1,3] a Z ?_;clear a I R;refine Tc 1 Z fun R a=>?_;refine Td (bkT U 1) U8 ?_;refine C6 1 [1,3,19,20] a Z ?_;clear a R;refine G.nilArr 3 1 ?_;refine Tu (L':=[.arr (sO none 0 0) 3 1 0 (((List.range 0)).map aS).flatten,.obj y (.cells ⟨[.int .i64 n,.slice none 0 0,.slice none 0 0,.slice none 0 0,ah [48],.slice d e f]⟩ 231 (0,0)),.arr (sW d e f) 32 1 n (z.map aQ).flatten]) (by rw [au];rfl) ?_;refine G.loop (fun fr C' x O=>∃ (i:Nat)(t:Option Addr)(n1 v:Nat),(i<=n)/\fr=[(1,[],.pointer (some ⟨b1,0,none⟩)),(3,[],.pointer (some ⟨y,0,none⟩)),(19,[],.int .i64 n),(20,[],.int .i64 i)]/\x=[.arr (sO t n1 v) 3 1 i (((List.range i)).map aS).flatten,.obj y (.cells ⟨[.int .i64 n,.slice none 0 0,.slice none 0 0,.slice t n1 v,ah [48],.slice d e f]⟩ 231 (0,0)),.arr (sW d e f) 32 1 n (z.map aQ).flatten]/\O=n-i) (hn_ [1,3,19,20] Z) ⟨0,none,0,0,PG _,Z,Z,Z⟩ (fun fr aW aX m _ Q=>?_);obtain ⟨i,t,n1,v,hi,rfl,rfl,rfl⟩:=Q;refine Tb 1 [1,3,19,20,21] Z ?_;refine G.cd (fun ad=>?_) fun ad=>?_
 ·have az:i<n:=by
   have:=OQ ad;omega
  refine Tb 2 [1,3,4,19,20] Z ?_;refine Tc 4 Z fun R a=>?_;refine Ti af U9 ?_;refine Te U6 ?_;refine Tz [[.int .i64 i]] U12 (fun aY _ _ aE=>?_);refine TH (j:=0) U11 aE Z ax (by show (i+1)*8<=_;omega) fl_ (fun ae ag ai=>?_);refine Tg 2 Z ?_;refine Tj (j:=1) U12 ?_;refine Th [1,3,19,20] a Z ?_;clear a R;refine Tf fun R a=>?_;refine Tm _ U7 ?_;refine C6 1 [1,3,19,20] a Z ?_;clear a R;refine G.perm (L':=[.arr (sO ae ag ai) 3 1 (i+1) (((List.range (i+1))).map aS).flatten,.obj y (.cells ⟨[.int .i64 n,.slice none 0 0,.slice none 0 0,.slice ae ag ai,ah [48],.slice d e f]⟩ 231 (0,0)),.arr (sW d e f) 32 1 n (z.map aQ).flatten]) (by rw [QF,Qb,Qj];exact List.Perm.swap _ _ _) ?_;refine Tp (m':=n-(i+1)) om_ mup (hn_ [1,3,19,20] Z) ⟨i+1,ae,ag,ai,om_,Z,Z,Z⟩
 have aj:i=n:=by
  have:=PE ad;omega
 rw [aj];refine Tc 1 Z fun R a=>?_;refine Td (bkT U 1) U8 ?_;refine C6 2 [1,3,35,36,37] a Z ?_;clear a R;refine G.nilArr 228 2 ?_;refine G.nilArr 3 1 ?_;refine G.perm (L':=[.arr (sA none 0 0) 3 1 0 ((lbF n 0).map aS).flatten,.arr (sB none 0 0) 228 2 0 ((lvF c (fun _=>.slice none 0 0) 0).map bE).flatten,.obj y (.cells ⟨[.int .i64 n,.slice none 0 0,.slice none 0 0,.slice t n1 v,ah [48],.slice d e f]⟩ 231 (0,0)),.arr (sO t n1 v) 3 1 n (((List.range n)).map aS).flatten,.arr (sW d e f) 32 1 n (z.map aQ).flatten]++(List.range 0).map (opE n c (fun _=>.slice none 0 0))) (by
  show List.Perm ([_,_,_,_,_]++[]) _
  (exact pkL [0,0,1,0,0] rfl)) ?_
 refine G.loop (fun fr C' x O=>∃ (i:Nat)(A2:Option Addr)(n2 c2:Nat)(K:Option Addr)(L M:Nat)(wF:Nat->Value),(i<=c.length)/\fr=[(1,[],.pointer (some ⟨b1,0,none⟩)),(3,[],.pointer (some ⟨y,0,none⟩)),(35,[],.slice Ar c.length cr),(36,[],.int .i64 c.length),(37,[],.int .i64 i)]/\x=[.arr (sA A2 n2 c2) 3 1 i ((lbF n i).map aS).flatten,.arr (sB K L M) 228 2 i ((lvF c wF i).map bE).flatten,.obj y (.cells ⟨[.int .i64 n,.slice A2 n2 c2,.slice K L M,.slice t n1 v,ah [48],.slice d e f]⟩ 231 (0,0)),.arr (sO t n1 v) 3 1 n (((List.range n)).map aS).flatten,.arr (sW d e f) 32 1 n (z.map aQ).flatten]++(List.range i).map (opE n c wF)/\O=c.length-i) (hn_ [1,3,35,36,37] Z) ⟨0,none,0,0,none,0,0,fun _=>.slice none 0 0,PG _,Z,Z,Z⟩ (fun fr aZ a0 m _ Q=>?_);obtain ⟨i,A2,n2,c2,K,L,M,wF,hi,rfl,rfl,rfl⟩:=Q;refine Tb 1 [1,3,35,36,37,38] Z ?_;refine G.cd (fun ak=>?_) fun ak=>?_
 ·have az:i<c.length:=by
   have:=OQ ak;omega
  obtain ⟨r,W⟩:∃ r,c[i]?=some r:=⟨c[i],al az⟩;have N:c.getD i ([],0)=r:=by rw [ay,W];rfl
  have a1:r.1.length=n:=hq.l r (Px W);obtain ⟨aF,a2⟩:=hq.q r (Px W);obtain ⟨w,hw⟩:∃ w,vs[i]?=some w:=⟨vs[i]'om_,al om_⟩;have aA:(c.map fP)[i]?=some (fP r):=by rw [PD,W];rfl
  have hx:=aC i w (fP r) hw aA;have an:Sl C 1 w (r.1.map aQ):=by rw [wG];exact hx
  obtain ⟨Ax,aG,rfl,aH,a3,_⟩:=id an;simp only [am] at an aH hw;refine Tc 1 Z fun R a=>?_;refine Tt V.m_ U10 om_ (DF hw aA) fl_ (fun a4 aI=>?_);refine Td aI U8 ?_;refine Tq U5 (fun b6=>?_);refine Te U6 ?_;refine Tj (j:=0) U12 ?_;refine Th [1,3,5,6,35,36,37] a Z ?_;clear a R;refine G.freeze 0 Z (fun _ _ aB=>?_);refine Tc 1 Z fun R a=>?_;refine Td (bkT aB 1) U8 ?_;refine Tw [ah (qtx r.2),.slice none 0 0] U8 ?_;refine Tq U5 (fun X=>?_);refine Tj (j:=0) U12 ?_;refine Th [1,3,5,6,7,35,36,37] a Z ?_;clear a R;refine Tc 1 Z fun R a=>?_;refine Td (bkT aB 1) U8 ?_;refine C6 2 [1,3,5,7,35,36,37,46,47,48] a Z ?_;clear a R;refine G.nilArr 32 1 ?_;refine Tu (L':=[.arr (sF none 0 0) 32 1 0 (((List.range 0).map fun q=>-r.1.getD q 0).map aQ).flatten,.obj X (.cells ⟨[ah (qtx r.2),.slice none 0 0]⟩ 228 (0,0)),.arr (sA A2 n2 c2) 3 1 i ((lbF n i).map aS).flatten,.arr (sB K L M) 228 2 i ((lvF c wF i).map bE).flatten,.obj y (.cells ⟨[.int .i64 n,.slice A2 n2 c2,.slice K L M,.slice t n1 v,ah [48],.slice d e f]⟩ 231 (0,0)),.arr (sO t n1 v) 3 1 n (((List.range n)).map aS).flatten,.arr (sW d e f) 32 1 n (z.map aQ).flatten]++(List.range i).map (opE n c wF)) Z ?_;refine G.loop (fun fr C' x O=>∃ (j:Nat)(A:Option Addr)(B E:Nat),(j<=n)/\fr=[(1,[],.pointer (some ⟨b1,0,none⟩)),(3,[],.pointer (some ⟨y,0,none⟩)),(5,[],.int .i64 i),(7,[],.pointer (some ⟨X,0,none⟩)),(35,[],.slice Ar c.length cr),(36,[],.int .i64 c.length),(37,[],.int .i64 i),(46,[],.slice Ax r.1.length aG),(47,[],.int .i64 r.1.length),(48,[],.int .i64 j)]/\x=[.arr (sF A B E) 32 1 j (((List.range j).map fun q=>-r.1.getD q 0).map aQ).flatten,.obj X (.cells ⟨[ah (qtx r.2),.slice A B E]⟩ 228 (0,0)),.arr (sA A2 n2 c2) 3 1 i ((lbF n i).map aS).flatten,.arr (sB K L M) 228 2 i ((lvF c wF i).map bE).flatten,.obj y (.cells ⟨[.int .i64 n,.slice A2 n2 c2,.slice K L M,.slice t n1 v,ah [48],.slice d e f]⟩ 231 (0,0)),.arr (sO t n1 v) 3 1 n (((List.range n)).map aS).flatten,.arr (sW d e f) 32 1 n (z.map aQ).flatten]++(List.range i).map (opE n c wF)/\O=n-j) (hn_ [1,3,5,7,35,36,37,46,47,48] Z) ⟨0,none,0,0,PG _,Z,Z,Z⟩ (fun fr a5 a6 m _ Q=>?_);obtain ⟨j,A,B,E,hj,rfl,rfl,rfl⟩:=Q;refine Tb 1 [1,3,5,7,35,36,37,46,47,48,49] Z ?_;refine G.cd (fun ao=>?_) fun ao=>?_
  ·have a7:j<n:=by
    have:=OQ ao;omega
   have aJ:QB 23 (r.1.getD j 0):=Oh aF;refine Tf fun R a=>?_;refine Tt an.m_ U10 om_ (dM om_) fl_ (fun a8 aK=>?_);refine Td aK U8 ?_;refine C6 1 [1,3,5,7,9,35,36,37,46,47,48] a Z ?_;clear a R;refine Tx [0,1,2,3,4,5,6,7] [(3,1)] Z kr_ (fun R I a=>?_);refine Te U6 ?_;refine Ti af U9 ?_;refine Te U6 ?_;refine TA (fun _=>(eC _ (r.1.getD j 0) (PP (bl aJ dc_) dc_))) U9 ?_;refine Tz [[ah (qtx (-(r.1.getD j 0)))]] U12 (fun a9 _ _ aL=>?_);refine TH (j:=0) U11 aL Z ax (by show (j+1)*16<=_;omega) fl_ (fun ap aq ar=>?_);refine Te U6 ?_;refine Tj (j:=1) U12 ?_;refine Th [1,3,5,7,35,36,37,46,47,48] a Z ?_;clear a I R;refine Tf fun R a=>?_;refine Tm _ U7 ?_;refine C6 1 [1,3,5,7,35,36,37,46,47,48] a Z ?_;clear a R;refine G.perm (L':=[.arr (sF ap aq ar) 32 1 (j+1) (((List.range (j+1)).map fun q=>-r.1.getD q 0).map aQ).flatten,.obj X (.cells ⟨[ah (qtx r.2),.slice ap aq ar]⟩ 228 (0,0)),.arr (sA A2 n2 c2) 3 1 i ((lbF n i).map aS).flatten,.arr (sB K L M) 228 2 i ((lvF c wF i).map bE).flatten,.obj y (.cells ⟨[.int .i64 n,.slice A2 n2 c2,.slice K L M,.slice t n1 v,ah [48],.slice d e f]⟩ 231 (0,0)),.arr (sO t n1 v) 3 1 n (((List.range n)).map aS).flatten,.arr (sW d e f) 32 1 n (z.map aQ).flatten]++(List.range i).map (opE n c wF)) (by rw [QF,Qb,Qb,Qj];exact List.Perm.swap _ _ _) ?_;refine Tp (m':=n-(j+1)) om_ mup (hn_ [1,3,5,7,35,36,37,46,47,48] Z) ⟨j+1,ap,aq,ar,om_,Z,Z,Z⟩
  have aM:j=n:=by
   have:=PE ao;omega
  rw [aM];refine G.freeze 1 Z (fun _ _ aN=>?_);refine Tu (L':=[.arr (sF A B E) 32 1 n (((List.range n).map fun q=>-r.1.getD q 0).map aQ).flatten,.arr (sA A2 n2 c2) 3 1 i ((lbF n i).map aS).flatten,.arr (sB K L M) 228 2 i ((lvF c wF i).map bE).flatten,.obj y (.cells ⟨[.int .i64 n,.slice A2 n2 c2,.slice K L M,.slice t n1 v,ah [48],.slice d e f]⟩ 231 (0,0)),.arr (sO t n1 v) 3 1 n (((List.range n)).map aS).flatten,.arr (sW d e f) 32 1 n (z.map aQ).flatten]++(List.range i).map (opE n c wF)) Z ?_;refine G.cut (fun fr C' x O=>∃ (Y:Option Addr)(n7 c7:Nat)(A8:Option Addr)(n8 c8:Nat),(True)/\fr=[(1,[],.pointer (some ⟨b1,0,none⟩)),(3,[],.pointer (some ⟨y,0,none⟩)),(35,[],.slice Ar c.length cr),(36,[],.int .i64 c.length),(37,[],.int .i64 i)]/\x=[.arr (sA Y n7 c7) 3 1 (i+1) ((lbF n (i+1)).map aS).flatten,.arr (sB A8 n8 c8) 228 2 (i+1) ((lvF c (Hz wF i (.slice A B E)) (i+1)).map bE).flatten,.obj y (.cells ⟨[.int .i64 n,.slice Y n7 c7,.slice A8 n8 c8,.slice t n1 v,ah [48],.slice d e f]⟩ 231 (0,0)),.arr (sO t n1 v) 3 1 n (((List.range n)).map aS).flatten,.arr (sW d e f) 32 1 n (z.map aQ).flatten]++(List.range (i+1)).map (opE n c (Hz wF i (.slice A B E)))) ?_ (fun fr bb bc O bd Q=>?_)
  ·refine TX (.cut [0,1,2,3,4,5,6,7,8,9,12,13,14,16] (.alt 10 (.cut [] (.alt 11 (.fin [15,17,18,19,20,21,22,23,24]) (.alt 15 (.cut [] (.alt 11 (.fin [17,18,19,20,21,22,23,24]) (.alt 17 (.fin [11,18,19,20,21,22,23,24]) .stop))) (.alt 17 (.cut [] (.alt 11 (.fin [15,18,19,20,21,22,23,24]) (.alt 15 (.fin [11,18,19,20,21,22,23,24]) .stop))) .stop)))) (.alt 15 (.cut [] (.alt 10 (.cut [] (.alt 11 (.fin [17,18,19,20,21,22,23,24]) (.alt 17 (.fin [11,18,19,20,21,22,23,24]) .stop))) (.alt 17 (.fin [10,11,18,19,20,21,22,23,24]) .stop))) (.alt 17 (.cut [] (.alt 10 (.cut [] (.alt 11 (.fin [15,18,19,20,21,22,23,24]) (.alt 15 (.fin [11,18,19,20,21,22,23,24]) .stop))) (.alt 15 (.fin [10,11,18,19,20,21,22,23,24]) .stop))) .stop)))) [(16,0)] U2 kr_ (fun R I a F=>?_);refine Tg 5 Z ?_;refine Ti ac U9 ?_;refine Te U6 ?_;refine Td (bkT U 1) U8 ?_;refine Te U6 ?_;refine Tm _ U7 ?_;refine Tg 3 Z ?_;refine Uk (fun _=>((bkT aN 2).mono I)) U9 ?_;refine TP F Z ⟨?_, ?_, ?_,trivial⟩
   ·refine Tz [[.int .i64 ((n:Int)+(i:Int))]] U12 (fun aa ab _ J=>?_);refine TP F Z ⟨?_, ?_, ?_,trivial⟩
    ·refine TH (j:=1) U11 J.m_ Z ax (by show (i+1)*8<=_;omega) fl_ (fun g h k=>?_);refine Ti ac U9 ?_;refine Tz [[ah (qtx r.2),.slice A B E]] U12 (fun S T _ H=>?_);refine TH (j:=2) U11 H.m_ Z ax (by show (i+1)*40<=_;omega) fl_ (fun o p s=>?_);refine Tg 2 Z ?_;refine Tj (j:=3) U12 ?_;refine Tg 2 Z ?_;refine Tj (j:=0) U12 ?_;refine Th [1,3,35,36,37] a Z ?_;clear a I F R;refine G.perm (L':=Cy n c z y d e f t n1 v i wF r A B E g h k o p s) (pkL [2,1,0,1,1,0] Z) ?_;refine G.perm _ (dI N) ?_;exact Tr 0 mup (hn_ [1,3,35,36,37] Z) ⟨g,h,k,o,p,s,trivial,Z,Z⟩
    ·refine Ti ac U9 ?_;refine TP F Z ⟨?_, ?_,trivial⟩
     ·refine TH (j:=1) U11 J.m_ Z ax (by show (i+1)*8<=_;omega) fl_ (fun g h k=>?_);refine Tz [[ah (qtx r.2),.slice A B E]] U12 (fun S T _ H=>?_);refine TH (j:=2) U11 H.m_ Z ax (by show (i+1)*40<=_;omega) fl_ (fun o p s=>?_);refine Tg 2 Z ?_;refine Tj (j:=3) U12 ?_;refine Tg 2 Z ?_;refine Tj (j:=0) U12 ?_;refine Th [1,3,35,36,37] a Z ?_;clear a I F R;refine G.perm (L':=Cy n c z y d e f t n1 v i wF r A B E g h k o p s) (pkL [2,1,0,1,1,0] Z) ?_;refine G.perm _ (dI N) ?_;exact Tr 0 mup (hn_ [1,3,35,36,37] Z) ⟨g,h,k,o,p,s,trivial,Z,Z⟩
     refine Tz [[ah (qtx r.2),.slice A B E]] U12 (fun S T _ H=>?_);refine TH (j:=1) U11 J.m_ Z ax (by show (i+1)*8<=_;omega) fl_ (fun g h k=>?_);refine TH (j:=2) U11 H.m_ Z ax (by show (i+1)*40<=_;omega) fl_ (fun o p s=>?_);refine Tg 2 Z ?_;refine Tj (j:=3) U12 ?_;refine Tg 2 Z ?_;refine Tj (j:=0) U12 ?_;refine Th [1,3,35,36,37] a Z ?_;clear a I F R;refine G.perm (L':=Cy n c z y d e f t n1 v i wF r A B E g h k o p s) (pkL [2,1,0,1,1,0] Z) ?_;refine G.perm _ (dI N) ?_;exact Tr 0 mup (hn_ [1,3,35,36,37] Z) ⟨g,h,k,o,p,s,trivial,Z,Z⟩
    refine Tz [[ah (qtx r.2),.slice A B E]] U12 (fun S T _ H=>?_);refine TP F Z ⟨?_, ?_,trivial⟩
    ·refine TH (j:=1) U11 J.m_ Z ax (by show (i+1)*8<=_;omega) fl_ (fun g h k=>?_);refine Ti ac U9 ?_;refine TH (j:=2) U11 H.m_ Z ax (by show (i+1)*40<=_;omega) fl_ (fun o p s=>?_);refine Tg 2 Z ?_;refine Tj (j:=3) U12 ?_;refine Tg 2 Z ?_;refine Tj (j:=0) U12 ?_;refine Th [1,3,35,36,37] a Z ?_;clear a I F R;refine G.perm (L':=Cy n c z y d e f t n1 v i wF r A B E g h k o p s) (pkL [2,1,0,1,1,0] Z) ?_;refine G.perm _ (dI N) ?_;exact Tr 0 mup (hn_ [1,3,35,36,37] Z) ⟨g,h,k,o,p,s,trivial,Z,Z⟩
    refine Ti ac U9 ?_;refine TH (j:=1) U11 J.m_ Z ax (by show (i+1)*8<=_;omega) fl_ (fun g h k=>?_);refine TH (j:=2) U11 H.m_ Z ax (by show (i+1)*40<=_;omega) fl_ (fun o p s=>?_);refine Tg 2 Z ?_;refine Tj (j:=3) U12 ?_;refine Tg 2 Z ?_;refine Tj (j:=0) U12 ?_;refine Th [1,3,35,36,37] a Z ?_;clear a I F R;refine G.perm (L':=Cy n c z y d e f t n1 v i wF r A B E g h k o p s) (pkL [2,1,0,1,1,0] Z) ?_;refine G.perm _ (dI N) ?_;exact Tr 0 mup (hn_ [1,3,35,36,37] Z) ⟨g,h,k,o,p,s,trivial,Z,Z⟩
   ·refine Ti ac U9 ?_;refine TP F Z ⟨?_, ?_,trivial⟩
    ·refine Tz [[.int .i64 ((n:Int)+(i:Int))]] U12 (fun aa ab _ J=>?_);refine TP F Z ⟨?_, ?_,trivial⟩
     ·refine TH (j:=1) U11 J.m_ Z ax (by show (i+1)*8<=_;omega) fl_ (fun g h k=>?_);refine Tz [[ah (qtx r.2),.slice A B E]] U12 (fun S T _ H=>?_);refine TH (j:=2) U11 H.m_ Z ax (by show (i+1)*40<=_;omega) fl_ (fun o p s=>?_);refine Tg 2 Z ?_;refine Tj (j:=3) U12 ?_;refine Tg 2 Z ?_;refine Tj (j:=0) U12 ?_;refine Th [1,3,35,36,37] a Z ?_;clear a I F R;refine G.perm (L':=Cy n c z y d e f t n1 v i wF r A B E g h k o p s) (pkL [2,1,0,1,1,0] Z) ?_;refine G.perm _ (dI N) ?_;exact Tr 0 mup (hn_ [1,3,35,36,37] Z) ⟨g,h,k,o,p,s,trivial,Z,Z⟩
     refine Tz [[ah (qtx r.2),.slice A B E]] U12 (fun S T _ H=>?_);refine TH (j:=1) U11 J.m_ Z ax (by show (i+1)*8<=_;omega) fl_ (fun g h k=>?_);refine TH (j:=2) U11 H.m_ Z ax (by show (i+1)*40<=_;omega) fl_ (fun o p s=>?_);refine Tg 2 Z ?_;refine Tj (j:=3) U12 ?_;refine Tg 2 Z ?_;refine Tj (j:=0) U12 ?_;refine Th [1,3,35,36,37] a Z ?_;clear a I F R;refine G.perm (L':=Cy n c z y d e f t n1 v i wF r A B E g h k o p s) (pkL [2,1,0,1,1,0] Z) ?_;refine G.perm _ (dI N) ?_;exact Tr 0 mup (hn_ [1,3,35,36,37] Z) ⟨g,h,k,o,p,s,trivial,Z,Z⟩
    refine Tz [[ah (qtx r.2),.slice A B E]] U12 (fun S T _ H=>?_);refine Tz [[.int .i64 ((n:Int)+(i:Int))]] U12 (fun aa ab _ J=>?_);refine TH (j:=1) U11 J.m_ Z ax (by show (i+1)*8<=_;omega) fl_ (fun g h k=>?_);refine TH (j:=2) U11 H.m_ Z ax (by show (i+1)*40<=_;omega) fl_ (fun o p s=>?_);refine Tg 2 Z ?_;refine Tj (j:=3) U12 ?_;refine Tg 2 Z ?_;refine Tj (j:=0) U12 ?_;refine Th [1,3,35,36,37] a Z ?_;clear a I F R;refine G.perm (L':=Cy n c z y d e f t n1 v i wF r A B E g h k o p s) (pkL [2,1,0,1,1,0] Z) ?_;refine G.perm _ (dI N) ?_;exact Tr 0 mup (hn_ [1,3,35,36,37] Z) ⟨g,h,k,o,p,s,trivial,Z,Z⟩
   refine Tz [[ah (qtx r.2),.slice A B E]] U12 (fun S T _ H=>?_);refine TP F Z ⟨?_, ?_,trivial⟩
   ·refine Tz [[.int .i64 ((n:Int)+(i:Int))]] U12 (fun aa ab _ J=>?_);refine TP F Z ⟨?_, ?_,trivial⟩
    ·refine TH (j:=1) U11 J.m_ Z ax (by show (i+1)*8<=_;omega) fl_ (fun g h k=>?_);refine Ti ac U9 ?_;refine TH (j:=2) U11 H.m_ Z ax (by show (i+1)*40<=_;omega) fl_ (fun o p s=>?_);refine Tg 2 Z ?_;refine Tj (j:=3) U12 ?_;refine Tg 2 Z ?_;refine Tj (j:=0) U12 ?_;refine Th [1,3,35,36,37] a Z ?_;clear a I F R;refine G.perm (L':=Cy n c z y d e f t n1 v i wF r A B E g h k o p s) (pkL [2,1,0,1,1,0] Z) ?_;refine G.perm _ (dI N) ?_;exact Tr 0 mup (hn_ [1,3,35,36,37] Z) ⟨g,h,k,o,p,s,trivial,Z,Z⟩
    refine Ti ac U9 ?_;refine TH (j:=1) U11 J.m_ Z ax (by show (i+1)*8<=_;omega) fl_ (fun g h k=>?_);refine TH (j:=2) U11 H.m_ Z ax (by show (i+1)*40<=_;omega) fl_ (fun o p s=>?_);refine Tg 2 Z ?_;refine Tj (j:=3) U12 ?_;refine Tg 2 Z ?_;refine Tj (j:=0) U12 ?_;refine Th [1,3,35,36,37] a Z ?_;clear a I F R;refine G.perm (L':=Cy n c z y d e f t n1 v i wF r A B E g h k o p s) (pkL [2,1,0,1,1,0] Z) ?_;refine G.perm _ (dI N) ?_;exact Tr 0 mup (hn_ [1,3,35,36,37] Z) ⟨g,h,k,o,p,s,trivial,Z,Z⟩
   refine Ti ac U9 ?_;refine Tz [[.int .i64 ((n:Int)+(i:Int))]] U12 (fun aa ab _ J=>?_);refine TH (j:=1) U11 J.m_ Z ax (by show (i+1)*8<=_;omega) fl_ (fun g h k=>?_);refine TH (j:=2) U11 H.m_ Z ax (by show (i+1)*40<=_;omega) fl_ (fun o p s=>?_);refine Tg 2 Z ?_;refine Tj (j:=3) U12 ?_;refine Tg 2 Z ?_;refine Tj (j:=0) U12 ?_;refine Th [1,3,35,36,37] a Z ?_;clear a I F R;refine G.perm (L':=Cy n c z y d e f t n1 v i wF r A B E g h k o p s) (pkL [2,1,0,1,1,0] Z) ?_;refine G.perm _ (dI N) ?_;exact Tr 0 mup (hn_ [1,3,35,36,37] Z) ⟨g,h,k,o,p,s,trivial,Z,Z⟩
  obtain ⟨Y,n7,c7,A8,n8,c8,_,rfl,rfl⟩:=Q;refine Tf fun R a=>?_;refine Tm _ U7 ?_;refine C6 1 [1,3,35,36,37] a Z ?_;clear a R;refine Tp (m':=c.length-(i+1)) om_ mup (hn_ [1,3,35,36,37] Z) ⟨i+1,Y,n7,c7,A8,n8,c8,(Hz wF i (.slice A B E)),om_,Z,Z,Z⟩
 have aj:i=c.length:=by
  have:=PE ak;omega
 refine Tb 2 [2] Z ?_;rw [aj];refine G.perm (L':=(eY y n (Lp.openT (ci n c) fun j=>z.getD j 0) (.slice A2 n2 c2) (.slice K L M) (.slice t n1 v) (.slice d e f) wF).map Lent.ent) (by rw [E8 au];(exact pkL [2,0,0,0] Z)) ?_;refine Tn (TQ Z Z ?_);exact ⟨y,.slice A2 n2 c2,.slice K L M,.slice t n1 v,.slice d e f,wF,Z,Z⟩
def Wl (D:Int)(q:Rat):Prop:=∃ z:Int,q*(D:Rat)=(z:Rat)/\z.natAbs<=999999999
def RowI (r:RowQ):Prop:=∃ D:Int,D≠0/\D.natAbs<=999999999/\(∀ q∈r.f,Wl D q)/\Wl D r.b
def eQ (rows:List RowQ):List (List Rat × Rat):=rows.map fun r=>(r.f,r.b)
theorem Wl.zero (D:Int):Wl D 0:=⟨0,by grind,by decide⟩
theorem Wl.neg {D:Int}{q:Rat}(h:Wl D q):Wl D (-q):=by
 obtain ⟨z,h1,h2⟩:=h;exact ⟨-z,by rw [Rat.intCast_neg,<- h1];grind,by omega⟩
theorem mB (h:i<rows.length):(eQ rows).getD i ([],0)=(rows[i].f,rows[i].b):=by
 unfold eQ;rw [ay,PD,al h];rfl
theorem FE {d:Nat}(g:n<=12)(h:∀ r∈rows,RowI r)(k:∃ D:Int,D≠0/\D.natAbs<=d/\∀ j,j<n->∃ z:Int,cc j*(D:Rat)=(z:Rat)/\z.natAbs<=d)(l:∀ n,n<=12->(n+1)*(d*Lp.fctM (2*999999999) n)<B9 ^ 20):Lp.Lim (ci n (eQ rows)) cc 20:=by
 have o:∀ r:Nat,∃ D:Int,∀ hr:r<rows.length,D≠0/\D.natAbs<=999999999/\(∀ q∈rows[r].f,Wl D q)/\Wl D rows[r].b:=fun r=>by
  by_cases hr:r<rows.length
  ·obtain ⟨D,c⟩:=h rows[r] (Qq hr);exact ⟨D,fun _=>c⟩
  exact ⟨0,fun h=>absurd h hr⟩
 obtain ⟨D,c⟩:=Classical.axiomOfChoice o;obtain ⟨p,s,c2,t⟩:=k;have hm:(ci n (eQ rows)).m=rows.length:=am _;have u:Lp.bdQ (ci n (eQ rows)) 999999999<B9 ^ 20:=by
  unfold Lp.bdQ Lp.bdT;have:∀ n,n<=12->(n+1)*(999999999*Lp.fctM (2*999999999) n)<B9 ^ 20:=by decide +kernel
  exact this _ g
 refine ⟨⟨D,999999999,d,p,by decide,⟨fun r hr=>?_,fun r j hr i=>?_,fun r hr=>?_⟩,⟨s,c2⟩,fun j i=>?_,u,by unfold Lp.bdW Lp.bdT;exact l _ g⟩⟩
 ·rw [hm] at hr;exact ⟨(c r hr).1,(c r hr).2.1⟩
 ·rw [hm] at hr;have e:(ci n (eQ rows)).a r j=rows[r].f.getD j 0:=by show ((eQ rows).getD r ([],0)).1.getD j 0=_;rw [mB hr]
  have v:Wl (D r) (rows[r].f.getD j 0):=by
   rw [ay];cases w:rows[r].f[j]? with
   | none=>exact Wl.zero _
   | some q=>exact (c r hr).2.2.1 q (Px w)
  obtain ⟨z,h1,h2⟩:=v;exact ⟨z,by rw [e,Rat.mul_comm];exact h1,h2⟩
 ·rw [hm] at hr;have e:(ci n (eQ rows)).b r=rows[r].b:=by show ((eQ rows).getD r ([],0)).2=_;rw [mB hr]
  obtain ⟨z,h1,h2⟩:=(c r hr).2.2.2;exact ⟨z,by rw [e,Rat.mul_comm];exact h1,h2⟩
 obtain ⟨z,h1,h2⟩:=t j i;exact ⟨z,by rw [Rat.mul_comm];exact h1,h2⟩
theorem tV (a:n<=12)(h:∀ r∈rows,RowI r)(b:∃ D:Int,D≠0/\D.natAbs<=999999999/\∀ j,j<n->Wl D (cc j)):Lp.Lim (ci n (eQ rows)) cc 20:=FE a h b ar
theorem IT (a:n<=12)(h:∀ r∈rows,RowI r):Lp.Lim (ci n (eQ rows)) (fun _=>0) 20:=tV a h ⟨1,by decide,by decide,fun _ _=>Wl.zero _⟩
theorem CV (h:FeasO p t u):∃ (row:Int)(a:Bool),u=.tuple #[.int .i64 row,.bool a]/\(a=true->t.Feas p.n) /\
  (a=false->∃ r:Nat,row=r/\r<t.basic.length/\p.n<=t.bas r/\(t.line r).c<0/\∀ s,s<t.others.length->p.n<=t.oth s->(t.line r).g s<=0):=by
 cases h with
 | yes h=>exact ⟨0,true,rfl,fun _=>h,fun h=>by cases h⟩
 | no r h1 h2 h3 h4=>exact ⟨r,false,rfl,fun h=>(by cases h),fun _=>⟨r,rfl,h1,h2,h3,h4⟩⟩
theorem Fl (h:MinO p t u):∃ (b:Int)(a:Bool),u=.tuple #[.int .i64 b,.bool a]/\(a=true->Lp.RelW p.n t/\∀ s,s<t.others.length->p.n<=t.oth s->0<=t.worth.g s) /\
  (a=false->∃ s:Nat,b=s/\s<t.others.length/\kJ t s*t.worth.g s<0/\(∀ i,i<t.basic.length->p.n<=t.bas i->0<=kJ t s*(t.line i).g s)/\(p.n<=t.oth s->0<=kJ t s)):=by
 cases h with
 | yes h1 h2=>exact ⟨0,true,rfl,fun _=>⟨h1,h2⟩,fun h=>by cases h⟩
 | no s h1 h2 h3 h4=>exact ⟨s,false,rfl,fun h=>(by cases h),fun _=>⟨s,rfl,h1,h2,h3,h4⟩⟩
inductive SolO (p:Lp.Sys) (cc:Nat->Rat) (D:Mem):Value->Prop where
 | opt (val:Rat) (pt du:Nat->Rat) (vp vd:Value):Lp.OptR p cc 20 val pt du->Sl D 1 vp (((List.range p.n).map pt).map aQ)->Sl D 1 vd (((List.range p.m).map du).map aQ)->SolO p cc D (.agg ⟨[.int .i64 1,ah (qtx val),vp,vd,.slice none 0 0]⟩)
 | inf (du:Nat->Rat) (vd:Value):Lp.InfR p 20 du->Sl D 1 vd (((List.range p.m).map du).map aQ)->SolO p cc D (.agg ⟨[.int .i64 2,ah [],.slice none 0 0,vd,.slice none 0 0]⟩)
 | unb (pt ra:Nat->Rat) (vp vr:Value):Lp.UnbR p cc 20 pt ra->Sl D 1 vp (((List.range p.n).map pt).map aQ)->Sl D 1 vr (((List.range p.n).map ra).map aQ)->SolO p cc D (.agg ⟨[.int .i64 3,ah [],vp,.slice none 0 0,vr]⟩)
theorem If :kJ t s=1∨kJ t s=-1:=by unfold kJ;split <;> simp
theorem zP (C:Mem)(x:Tabs C)(n:Nat)(V F:Value)(k:List (List Rat × Rat))(l:List Rat)(H:RowsT C V (k.map fP))(ho:Sl C 1 F (l.map aQ))(X:RowsQ n k)(Y:n<=1000)(ai:l.length=n)(f:Lp.Lim (ci n k) (fun j=>l.getD j 0) 20) :
  Pur cx.P 74 [.agg ⟨[.int .i64 n,V,F]⟩] C fun u D=>SolO (ci n k) (fun j=>l.getD j 0) D u:=by
 have aS:maxLen<=9223372036854775807:=by simp [maxLen]
 have hm:=X.m;have aj:=H;obtain ⟨vs,ak,_,al⟩:=aj;obtain ⟨Ar,cr,rfl,_⟩:=id al;rw [sS ak,am] at H ⊢;obtain ⟨p,I⟩:∃ p,ci n k=p:=⟨_,rfl⟩;obtain ⟨cc,an⟩:∃ cc:Nat->Rat,(fun j=>l.getD j 0)=cc:=⟨_,rfl⟩;have ao:p.n=n:=by rw [<- I];rfl
 have aq:p.m=k.length:=by rw [<- I];rfl
 have z:=fun (D:Mem)(J:C.le D)=>Iu D (x.mono J) n (.slice Ar k.length cr) F k l (H.mono J) (ho.mono J) X Y ai;rw [I,an] at f z ⊢;rw [<- ao] at z Y ⊢;rw [<- aq] at z ⊢;refine Tk func74 57 U3 fun w0=>?_;refine Tf fun R a=>?_;refine Tv U6 (fun b1=>?_);refine Tq U5 (fun b2=>?_);refine Th [1,2] a Z ?_;clear a R;refine G.freeze 1 Z (fun _ _ K=>?_);refine TC [(1,3)] Z (fun R a=>?_);refine Td (bkT K 3) U8 ?_;refine D.call (z _ mup) Z (.inr dc_) U6 (PC _) fl_ (fun v9 C9 L9 _ ar=>?_);obtain ⟨b,wB,wL,wO,wW,wF,rfl,rfl⟩:=ar;refine C6 1 [1,2,3] a Z ?_;clear a R;refine TC [(1,3)] Z (fun R a=>?_);refine Te U6 ?_;refine D.call (Ch _ x.m_ p cc b _ wB wL wO wW wF Lp.openT_inv Z f om_ om_) Z (.inr dc_) U6 (PC _) fl_ (fun aT _ aU _ au=>?_);refine Th [1,2,3] a Z ?_;clear a R;obtain ⟨-,t1,av,aw,ax,rfl⟩:=au;refine TC [(1,3)] Z (fun R a=>?_);refine Te U6 ?_;refine D.call (yF _ x.m_ p cc b t1 wB wL wO wW av aw ax f om_ om_) Z (.inr dc_) U6 (PC _) fl_ (fun aV _ aW _ ay=>?_);obtain ⟨t,aa,w,ab,hF,rfl⟩:=ay;obtain ⟨row,is,rfl,az,aA⟩:=CV hF;refine C6 5 [1,2,3,4,5] a Z ?_;clear a R;refine Tb 2 [1,2,3,4,18] Z ?_;refine G.cd (fun L=>?_) fun L=>?_
 ·have M:is=false:=by simpa using L
  obtain ⟨r,rfl,N,ac,aB,aC⟩:=aA M;refine UB (eY b p.n t wB wL wO wW aa) (fZ w.tab.ok) (fun C5 _ y=>?_);have h:=eT w.tab.ok y;refine Tc 3 Z fun R a=>?_;refine Td (bkT K 1) U8 ?_;refine Te U6 ?_;refine TG (Ie _ p b r t wB wL wO wW _ h.m_ w.tab om_ N ac (fun q=>(w.dualQ f dc_ N q).le dc_)) U7 fl_ (fun aX _ _ aD=>?_);obtain ⟨g,rfl,hg⟩:=aD;refine Tw [.int .i64 2,ah [],.slice none 0 0,.slice (some ⟨g,0,none⟩) p.m p.m,.slice none 0 0] U8 ?_;refine Tj (j:=0) U12 ?_;refine Th [2] a Z ?_;clear a R;refine Tn (TY ag U4 ?_);exact ⟨Z,.inf _ _ (w.inf f dc_ ab N ac aB aC) hg.m_⟩
 have M:is=true:=by simpa using L
 have aE:=az M;refine TC [(1,3)] Z (fun R a=>?_);refine Te U6 ?_;refine D.call (yk _ x.m_ p cc b t wB wL wO wW aa w ab aE f om_ om_) Z (.inr dc_) U6 (PC _) fl_ (fun aY _ aZ _ aF=>?_);obtain ⟨d,ad,e,ae,hM,rfl⟩:=aF;obtain ⟨a0,af,rfl,aG,aH⟩:=Fl hM;refine C6 5 [1,2,3,6,7] a Z ?_;clear a R;refine Tb 2 [1,2,3,6,32] Z ?_;refine G.cd (fun O=>?_) fun O=>?_
 ·have Q:af=false:=by simpa using O
  obtain ⟨s,rfl,A,aI,aJ,aK⟩:=aH Q;refine UB (eY b p.n d wB wL wO wW ad) (fZ e.tab.ok) (fun C5 _ y=>?_);have h:=eT e.tab.ok y;refine TC [(1,3),(4,3)] Z (fun R a=>?_);refine Te U6 ?_;refine D.call (Aq _ b p.n (p.n+p.m) d wB wL wO wW _ h.m_ e.tab.ok om_) Z (.inr dc_) U6 (PC _) fl_ (fun a1 _ a2 _ aL=>?_);obtain ⟨S,rfl,rfl⟩:=aL;refine Tg 2 Z ?_;refine D.call (NV _ x.m_ p b s d wB wL wO wW _ h.m_ e.tab A om_ (fun i hi=>e.fac f hi A) (e.wfac f A)) Z (.inr dc_) U6 (PC _) fl_ (fun a3 _ a4 _ aM=>?_);obtain ⟨B,rfl,rfl⟩:=aM;refine Tw [.int .i64 3,ah [],.slice (some ⟨S,0,none⟩) p.n p.n,.slice none 0 0,.slice (some ⟨B,0,none⟩) p.n p.n] U8 ?_;refine Tj (j:=2) U12 ?_;refine Th [2] a Z ?_;clear a R;refine G.freezeArr 1 (((List.range p.n).map fun v=>kJ d s*d.dir s v).map aQ) Z Z bS ap (fun C8 _ T=>?_);refine G.freezeArr 1 (((List.range p.n).map d.sol).map aQ) Z Z bS ap (fun C9 _ U=>?_);refine Tn (TY ag U4 ?_);exact ⟨Z,.unb _ _ _ _ (e.unb f dc_ ae A If aI aJ aK) U T.m_⟩
 have Q:af=true:=by simpa using O
 obtain ⟨aN,aO⟩:=aG Q;refine UB (eY b p.n d wB wL wO wW ad) (fZ e.tab.ok) (fun C5 _ y=>?_);have h:=eT e.tab.ok y;refine Tx [0,1,2,3,4,5,7,8,9,10,11,12,13,14,6,15,16,17,18] [(6,3),(15,3),(4,0),(11,0),(13,0)] Z kr_ (fun R E a=>?_);refine Tg 4 Z ?_;refine Uk (fun _=>((PtrTo.blockT h.o _ 1).mono E)) U9 ?_;refine Tg 5 Z ?_;refine Uk (fun _=>((PtrTo.blockT h.o _ 2).mono E)) U9 ?_;refine Te U6 ?_;refine Uk (fun _=>((bkT K 1).mono E)) U9 ?_;refine Te U6 ?_;refine D.call (Aq _ b p.n (p.n+p.m) d wB wL wO wW _ h.m_ e.tab.ok om_) Z (.inr dc_) U6 (PC _) fl_ (fun a5 _ a6 _ aP=>?_);refine D.call (Gh _ p b d d.worth wB wL wO wW wW _ h.m_ e.tab om_ h.W.m_ e.tab.ok.wl) Z (.inr dc_) U6 (PC _) fl_ (fun a7 _ a8 _ aR=>?_);obtain ⟨B,rfl,rfl⟩:=aR;obtain ⟨S,rfl,rfl⟩:=aP;refine Tw [.slice (some ⟨B,0,none⟩) p.m p.m] U8 ?_;refine Tw [.int .i64 1,ah (qtx d.worth.c),.slice (some ⟨S,0,none⟩) p.n p.n,.slice (some ⟨B,0,none⟩) p.m p.m,.slice none 0 0] U8 ?_;refine Tj (j:=2) U12 ?_;refine Th [2] a Z ?_;clear a E R;refine G.freezeArr 1 (((List.range p.m).map (Lp.dualV p d d.worth)).map aQ) Z Z bS ap (fun C8 _ T=>?_);refine G.freezeArr 1 (((List.range p.n).map d.sol).map aQ) Z Z bS ap (fun C9 _ U=>?_);refine Tn (TY ag U4 ?_);exact ⟨Z,.opt _ _ _ _ _ (e.opt f dc_ ae aN aO) U T.m_⟩
theorem Ms (C:Mem)(n:Nat)(j:n<=1000000):Jog.Fn cx.P 212 [.slice none 0 0,.int .i64 n] C [] fun u _ h=>∃ A n2 c,u=.slice A n2 c/\h=[.arr u 32 1 0 []]:=by
 have k:maxLen<=9223372036854775807:=by simp [maxLen]
 refine Tk func212 27 U3 fun w0=>Tb 1 [0,1] Z<|Tb 2 [0,1,6] Z<|G.cd (fun d=>?_) fun d=>?_
 ·simp at d;omega
 refine Tc 2 Z fun R a=>UY Z Z Z Z Z Z Z Z Z<|Tg 2 Z<|Tm _ U7<|Tm _ U7<|C6 1 [0,1] a Z<|Tb 2 [0,1,16] Z<|G.cd (fun f=>?_) fun f=>?_
 ·have i:0<n:=by
   simp at f;omega
  refine Tc 2 Z fun R a=>UY Z Z Z Z Z Z Z Z Z<|Ud 0 0 0 U12 (fun _=>⟨.inl ⟨Z,Z⟩,.inr ⟨_,Z⟩,.inl ⟨Z,Z⟩,Py _,Py _,Py _⟩) U2<|Te U6<|VH (m:=n) Z Z Z Z Z Z Z Z Z Z Z Z i (by show n*16<=_;omega) (by simp only [maxLen];omega) fl_ fun b g l=>Tg 2 Z<|Ud 0 0 g U12 (fun _=>⟨.inl ⟨Z,Z⟩,.inr ⟨_,Z⟩,.inl ⟨Z,Z⟩,Py _,PG _,Py _⟩) U2<|C6 1 [0] a Z<|Tb 2 [4] Z<|VW 0 0 Z (PG _)<|Tn (TQ Z Z ?_);refine ⟨_,_,_,Z, ?_⟩;have e:(if g=0 then some (⟨b,0,none⟩:Addr) else (some (⟨b,0,none⟩:Addr)).map (·.add (0*1)))=some ⟨b,0,none⟩:=by
   split
   ·rfl
   simp [Addr.add_lit]
  rw [e];simp
 refine Tb 2 [4] Z<|G.nilArr 32 1<|Tn (TQ Z Z ?_);exact ⟨none,0,0,Z,Z⟩
def nD (xs:List (Value × List Rat)):List Rat:=(xs.map (·.2)).flatten
theorem xd {a:List (Value × List Rat)}{x:Value × List Rat}(h:a[i]?=some x):nD (a.take (i+1))=nD (a.take i)++x.2:=by
 unfold nD;rw [P0,h];simp
theorem GS (a:List (Value × List Rat))(i:Nat):(nD (a.take i)).length<=(nD a).length:=by
 have h:nD a=nD (a.take i)++nD (a.drop i):=by
  unfold nD;rw [<- Qj,<- Qb,Qs]
 rw [h,PH];omega
def My (x:Value × List Rat):List Value:=[x.1]
theorem GE (C:Mem)(v:Value)(a:List (Value × List Rat))(h:Sl C 1 v (a.map My))(B:∀ x∈a,Sl C 1 x.1 (x.2.map aQ))(K:(nD a).length<=1000000) :
  Jog.Fn cx.P 144 [v] C [] fun u _ e=>∃ A n2 c,u=.slice A n2 c/\e=[.arr u 32 1 (nD a).length ((nD a).map aQ).flatten]:=by
 obtain ⟨p,c0,rfl,L,Y,_⟩:=id h;have aa:maxLen<=9223372036854775807:=by simp [maxLen]
 simp only [am] at h L ⊢;refine Tk func144 36 U3 fun w0=>Tb 1 [0] Z<|Tb 1 [0,3] Z<|Tb 3 [0,3,9,10,11] Z<|G.loop (fun fr M e q=>∃ (i:Nat)(z:Int),(i<=a.length/\z=(nD (a.take i)).length)/\fr=[(0,[],.slice p a.length c0),(3,[],.int .i64 z),(9,[],.slice p a.length c0),(10,[],.int .i64 a.length),(11,[],.int .i64 i)]/\e=[]/\q=a.length-i) (hn_ [0,3,9,10,11] Z) ⟨0,0,⟨PG _,Z⟩,Z,Z,Z⟩ (fun fr ab ac m _ r=>?_);obtain ⟨i,z,⟨hi,s⟩,rfl,rfl,rfl⟩:=r;refine Tb 1 [0,3,9,10,11,12] Z<|G.cd (fun t=>?_) fun t=>?_
 ·have f:i<a.length:=by
   have:=OQ t;omega
  obtain ⟨x,d⟩:∃ x,a[i]?=some x:=⟨a[i],al f⟩;have g:=B x (Px d);obtain ⟨w,l⟩:=x;simp only at g;obtain ⟨Ax,ad,rfl,N,ae,_⟩:=id g;simp only [am] at g N d;have k:=xd d;have E:=GS a (i+1);have O:(nD (a.take (i+1))).length=(nD (a.take i)).length+l.length:=by rw [k,PH]
  refine Tf fun R b=>Tt h.m_ U10 om_ (show (a.map My)[i]?=some [_] from ku d) fl_ fun af Q=>Td Q U8<|C6 1 [0,3,5,9,10,11] b Z<|Tc 3 Z fun R b=>Tm _ U7<|C6 1 [0,3,9,10,11] b Z<|Tb 2 [0,3,9,10,11,20] Z<|G.cd (fun F=>?_) fun F=>?_
  ·exfalso;have ag:=OQ F;omega
  refine Tf fun R b=>Tm _ U7<|C6 1 [0,3,9,10,11] b Z<|Tp (m':=a.length-(i+1)) om_ mup (hn_ [0,3,9,10,11] Z) ⟨i+1,_,⟨by omega,by rw [s];omega⟩,Z,Z,Z⟩
 have f:i=a.length:=by
  have:=PE t;omega
 rw [f,PO] at s;subst s;refine TC [(1,3)] Z fun R b=>Te U6<|D.call (Ms _ (nD a).length K) Z (.inr dc_) U6 (PC _) fl_ (fun ai _ aj _ S=>?_);obtain ⟨T,U,V,rfl,rfl⟩:=S;refine C6 1 [0,6] b Z<|Tb 3 [6,25,26,27] Z<|G.loop (fun fr M e q=>∃ (i:Nat)(n:Option Addr)(n1 o:Nat),(i<=a.length)/\fr=[(6,[],.slice n n1 o),(25,[],.slice p a.length c0),(26,[],.int .i64 a.length),(27,[],.int .i64 i)]/\e=[.arr (.slice n n1 o) 32 1 (nD (a.take i)).length ((nD (a.take i)).map aQ).flatten]/\q=a.length-i) (hn_ [6,25,26,27] Z) ⟨0,T,U,V,PG _,Z,Z,Z⟩ (fun fr ak an m E r=>?_);obtain ⟨i,n,n1,o,ao,rfl,rfl,rfl⟩:=r;refine Tb 1 [6,25,26,27,28] Z<|G.cd (fun y=>?_) fun y=>?_
 ·have f:i<a.length:=by
   have:=OQ y;omega
  obtain ⟨x,d⟩:∃ x,a[i]?=some x:=⟨a[i],al f⟩;have g:=B x (Px d);have k:=xd d;have E:=GS a (i+1);have O:(nD (a.take (i+1))).length=(nD (a.take i)).length+x.2.length:=by rw [k,PH]
  refine Tf fun R b=>Tt h.m_ U10 om_ (show (a.map My)[i]?=some [x.1] from ku d) fl_ fun ap W=>Td W U8<|C6 1 [6,8,25,26,27] b Z<|Tc 2 Z fun R b=>TH (j:=0) U11 g.m_ (by simp [aQ,me,ah]) (by simp only [am,maxLen];omega) (by show ((nD (a.take i)).length+(x.2.map aQ).length)*16<=_;rw [am];omega) fl_ fun H I J=>C6 1 [6,25,26,27] b Z<|Tf fun R b=>Tm _ U7<|C6 1 [6,25,26,27] b Z<|Tu (L':=[.arr (.slice H I J) 32 1 (nD (a.take (i+1))).length ((nD (a.take (i+1))).map aQ).flatten]) (by rw [k,Qb,Qj,PH,am];rfl)<|Tp (m':=a.length-(i+1)) om_ mup (hn_ [6,25,26,27] Z) ⟨i+1,H,I,J,om_,Z,Z,Z⟩
 have X:i=a.length:=by
  have:=PE y;omega
 refine Tb 2 [2] Z<|Tn (TQ Z Z ?_);exact ⟨n,n1,o,Z,by rw [X,PO]⟩
theorem zS (C:Mem)(N:Tabs C)(o:Int)(y:Str)(f g i:Value)(a b c:List Rat)(z:Sl C 1 f (a.map aQ))(A:Sl C 1 g (b.map aQ))(B:Sl C 1 i (c.map aQ))(O:∀ x∈a,QB 20 x)(Q:∀ x∈b,QB 20 x)(S:∀ x∈c,QB 20 x)(ae:a.length<=1000)(af:b.length<=1000)(ag:c.length<=1000)
  (T:o=1->∃ q,y=qtx q/\QB 20 q):Gives cx.P 75 [.agg ⟨[.int .i64 o,ah y,f,g,i]⟩] C (.bool true):=by
 have E:nD [(f,a),(g,b),(i,c)]=a++(b++(c++[])):=rfl;have F:(nD [(f,a),(g,b),(i,c)]).length<=1000000:=by rw [E];simp;omega
 obtain ⟨all,H⟩:∃ all,nD [(f,a),(g,b),(i,c)]=all:=⟨_,rfl⟩;have I:∀ x∈all,QB 20 x:=fun x d=>by
  rw [<- H,E] at d;simp only [PQ,QH,R8] at d;rcases d with h | h | h
  ·exact O x h
  ·exact Q x h
  exact S x h
 have U:∀ l:List Rat,(∀ x∈l,QB 20 x)->((l.map qtx).any fun s=>!aV s)=false:=fun l V=>List.any_eq_false.2 fun s hs=>by
  obtain ⟨x,d,rfl⟩:=PF.1 hs;rw [bC ((V x d).le dc_)];decide
 obtain ⟨p,r,rfl,_⟩:=id z;obtain ⟨t,u,rfl,_⟩:=id A;obtain ⟨v,w,rfl,_⟩:=id B;have W:∀ D:Mem,C.le D->∀ x∈[(Value.slice p (a.map aQ).length r,a),(Value.slice t (b.map aQ).length u,b),(Value.slice v (c.map aQ).length w,c)],Sl D 1 x.1 (x.2.map aQ):=fun D k x d=>by
  simp only [PN,QH,R8] at d;rcases d with h | h | h
  ·rw [h];exact z.mono k
  ·rw [h];exact A.mono k
  rw [h];exact B.mono k
 refine Tk func75 24 U3 fun w0=>Tf fun R e=>Tv U6 fun b1=>C6 1 [1] e Z<|G.freeze 0 Z fun _ _ m=>TC [(8,3)] Z fun R e=>Te U6<|Td (bkT m 1) U8<|Tg 2 Z<|Td (bkT m 1) U8<|Te U6<|Td (bkT m 1) U8<|Tz [[.slice p (a.map aQ).length r],[.slice t (b.map aQ).length u],[.slice v (c.map aQ).length w]] U12 fun ai _ _ X=>D.call (GE _ _ [(.slice p (a.map aQ).length r,a),(.slice t (b.map aQ).length u,b),(.slice v (c.map aQ).length w,c)] X.m_ (W _ mup) F) Z (.inr dc_) U6 (PC _) fl_ (fun aj _ ak _ Y=>?_);obtain ⟨A3,n3,c3,rfl,rfl⟩:=Y;rw [H] at F ⊢;refine C6 1 [1,3] e Z<|Tc 1 Z fun R e=>Td (bkT m 1) U8<|C6 1 [1,3,15] e Z<|G.cut (fun fr C' J μ=>∃ (n:Value)(l:List Rat),(∀ x∈l,QB 20 x)/\fr=[(3,[],n)]/\J=[.arr n 32 1 l.length (l.map aQ).flatten]) ?_ (fun fr _ al μ _ hI=>?_)
 ·refine G.cd (fun K=>?_) fun K=>?_
  ·have aa:o=1:=by simpa using K
   obtain ⟨q,rfl,ab⟩:=T aa;refine Tc 2 Z fun R e=>Td (bkT m 1) U8<|Tz [[ah (qtx q)]] U12 fun am _ _ ac=>D.append (j:=0) U11 ac Z ax (by show (all.length+1)*16<=_;omega) fl_ fun L=>C6 1 [3] e Z<|Tu (L':=[.arr L 32 1 (all++[q]).length ((all++[q]).map aQ).flatten]) (by rw [Qb,Qj,PH];rfl)<|Tr 0 mup (hn_ [3] Z) ⟨L,all++[q],fun x d=>by
    rcases PQ.1 d with h | h
    ·exact I x h
    rw [PU.1 h];exact ab,rfl,rfl⟩
  refine Tr 0 (Mem.le.refl _) (hn_ [3] Z) ⟨_,all,I,Z,Z⟩
 obtain ⟨n ,l,M,rfl,rfl⟩:=hI;refine G.freezeArr 0 (l.map aQ) Z Z bS ap fun _ _ ad=>Tc 1 Z fun R e=>Ts (E3 _ n (l.map qtx) 102 [] (fun s=>!aV s) (by rw [<- wG];exact ad.mono mup) kr_ (fun s hs D k=>by
  obtain ⟨x,d,rfl⟩:=PF.1 hs;exact oV D (N.mono (Mem.le.trans mup k)) (qtx x) (PP (bl (M x d) dc_) dc_))) U7 fl_ ?_
 exact C6 2 [2] e Z<|Tl U2<|⟨by rw [U l M];rfl,Z⟩
end Go.Proofs.YtfjcldheldflbaaGreatDoor
