/- Laws that the proofs of this seat share, part 13. -/
import Derived.Test.YtfjcldheldflbaaGreatDoorG12
import Derived.Test.YtfjcldheldflbaaGreatDoorShelf
set_option maxHeartbeats 4000000
namespace Go.Proofs.YtfjcldheldflbaaGreatDoor
open Go.Proofs.Tryz
open Go Go.Jog
set_option maxRecDepth 100000
variable {F N b:Nat}{cc:Nat->Rat}{i j k:Nat}{l:Lp.Line}{m n:Nat}{o:Int}{ob:List Rat}{p:Lp.Sys}{q:Nat->Prop}{r:Nat}{rows:List RowQ}{rs:List (List Rat × Rat)}{s:Nat}{t:Lp.Tab}{u:Value}{vs:List Nat}{w wB:Value}{wF:Nat->Value}{wL wO wW wy:Value}
theorem vZ {y:Lp.Line}(a:s<l.f.length):kz l.f y.f s (l.f.getD s 0) l.f.length=(Lp.putL l s y).f/\l.c+l.f.getD s 0*y.c=(Lp.putL l s y).c:=by
 have h:=ES (c:=l.c) (bc:=y.c) (bf:=y.f) a;exact ⟨(congrArg Lp.Line.f h).symm,(congrArg Lp.Line.c h).symm⟩
theorem Io (C:Mem)(k:Tabs C)(b m e i n s:Nat)(w d:Value)(a:List (Rat × Value))(l y:Lp.Line)(o:a.length=m)(p:a[i]?=some (l.c,w))(g:l.f.length=n)(q:y.f.length=n)(r:s<n)(h:QB 50 l.c/\∀ x∈l.f,QB 50 x)(j:QB 50 y.c/\∀ x∈y.f,QB 50 x) :
  Jog.Fn cx.P 262 [.pointer (some ⟨b,i*2,none⟩),.int .i64 s,.agg ⟨[af (qtx y.c),d]⟩] C [.arr d 32 1 n (y.f.map aP).flatten,.arr (.slice (some ⟨b,0,none⟩) m e) 228 2 m (a.map bE).flatten,.arr w 32 1 n (l.f.map aP).flatten]
   fun u _ t=>u=.tuple #[]/\t=[.arr d 32 1 n (y.f.map aP).flatten,.arr (.slice (some ⟨b,0,none⟩) m e) 228 2 m ((a.set i ((Lp.putL l s y).c,w)).map bE).flatten,.arr w 32 1 n ((Lp.putL l s y).f.map aP).flatten]:=by
 obtain ⟨h1,h2⟩:=vZ (l:=l) (y:=y) (s:=s) om_;rw [<- h1,<- h2,g];exact Ip C k b m e i n s w d a l.f y.f l.c y.c o p g q r h.1 h.2 j.1 j.2
theorem Il (C:Mem)(m:Tabs C)(a n s:Nat)(d e g h w b:Value)(l y:Lp.Line)(i:l.f.length=n)(o:y.f.length=n)(p:s<n)(j:QB 50 l.c/\∀ x∈l.f,QB 50 x)(k:QB 50 y.c/\∀ x∈y.f,QB 50 x) :
  Jog.Fn cx.P 262 [.pointer (some ⟨a,4,none⟩),.int .i64 s,.agg ⟨[af (qtx y.c),b]⟩] C [.arr b 32 1 n (y.f.map aP).flatten,.obj a (.cells ⟨[d,e,g,h,af (qtx l.c),w]⟩ 231 (0,0)),.arr w 32 1 n (l.f.map aP).flatten]
   fun u _ q=>u=.tuple #[]/\q=[.arr b 32 1 n (y.f.map aP).flatten,.obj a (.cells ⟨[d,e,g,h,af (qtx (Lp.putL l s y).c),w]⟩ 231 (0,0)),.arr w 32 1 n ((Lp.putL l s y).f.map aP).flatten]:=by
 obtain ⟨h1,h2⟩:=vZ (l:=l) (y:=y) (s:=s) om_;rw [<- h1,<- h2,i];exact Im C m a n s d e g h w b l.f y.f l.c y.c i o p j.1 j.2 k.1 k.2
def byF (l:Lp.Line)(s j:Nat):List Rat:=(List.range l.f.length).map fun q=>if q<j then (Lp.byL l s).g q else 0
theorem kN :(byF l s j).length=l.f.length:=by simp [byF]
theorem BJ {q:Nat}(h:q<l.f.length):(byF l s j)[q]?=some (if q<j then (Lp.byL l s).g q else 0):=by
 unfold byF;rw [Pi,PX h];rfl
theorem JI :List.replicate l.f.length 0=byF l s 0:=by
 refine List.ext_getElem? fun v=>?_;by_cases a:v<l.f.length
 ·rw [BJ a,QI,aL a,aF (Nat.not_lt_zero _)]
 rw [Pq ap,Pq (by rw [kN];omega)]
theorem MM (h:j<l.f.length):(byF l s j).set j (-(if j=s then -1 else l.g j) / l.g s)=byF l s (j+1):=by
 refine List.ext_getElem? fun q=>?_;rw [List.getElem?_set,kN];by_cases a:q<l.f.length
 ·rw [BJ a,BJ a];by_cases e:j=q
  ·subst e;rw [aL rfl,aL a,aL (Nat.lt_succ_self j),Lp.byL_g a];congr 1;split <;> grind
  rw [aF e];by_cases h1:q<j
  ·rw [aL h1,aL om_]
  rw [aF h1,aF om_]
 rw [aF om_,Pq (by rw [kN];omega),Pq (by rw [kN];omega)]
theorem uG :(Lp.byL l s).f.length=l.f.length:=by simp [Lp.byL]
theorem MN :byF l s l.f.length=(Lp.byL l s).f:=by
 refine List.ext_getElem? fun q=>?_;by_cases a:q<l.f.length
 ·rw [BJ a,aL a];unfold Lp.Line.g;rw [ax,ak (by rw [uG];exact a)];rfl
 rw [Pq (by rw [kN];omega),Pq (by rw [uG];omega)]
def stL (t:Lp.Tab)(r s i q:Nat):Lp.Line:=if q<i/\q≠r then Lp.putL (t.line q) s (Lp.byL (t.line r) s) else t.line q
def stV (t:Lp.Tab)(wF:Nat->Value)(r s i:Nat):List (Rat × Value):=(List.range t.basic.length).map fun q=>((stL t r s i q).c,wF q)
def stE (t:Lp.Tab)(wF:Nat->Value)(r s i q:Nat):Ent:=.arr (wF q) 32 1 t.others.length ((stL t r s i q).f.map aP).flatten
theorem iG :(stV t wF r s i).length=t.basic.length:=by simp [stV]
theorem zV {q:Nat}(h:q<t.basic.length):(stV t wF r s i)[q]?=some ((stL t r s i q).c,wF q):=by
 unfold stV;rw [Pi,PX h];rfl
theorem sV {q:Nat}:stL t r s 0 q=t.line q:=aF fun h=>Nat.not_lt_zero _ h.1
theorem oD {q:Nat}(h:q≠i):stL t r s (i+1) q=stL t r s i q:=by
 unfold stL;by_cases h1:q<i/\q≠r
 ·rw [aL h1,aL ⟨by omega,h1.2⟩]
 rw [aF h1,aF fun h2=>h1 ⟨by omega,h2.2⟩]
theorem nE (h:i≠r):stL t r s i i=t.line i/\stL t r s (i+1) i=Lp.putL (t.line i) s (Lp.byL (t.line r) s) :=
 ⟨aF fun h2=>Nat.lt_irrefl _ h2.1,aL ⟨Nat.lt_succ_self _,h⟩⟩
theorem zW {q:Nat}:stL t r s (r+1) q=stL t r s r q:=by
 by_cases h:q=r
 ·subst h;unfold stL;rw [aF fun h=>h.2 rfl,aF fun h=>h.2 rfl]
 exact oD h
theorem K6 (b:i<t.basic.length)(h:i≠r):(stV t wF r s i).set i ((Lp.putL (t.line i) s (Lp.byL (t.line r) s)).c,wF i)=stV t wF r s (i+1):=by
 refine List.ext_getElem? fun q=>?_;rw [List.getElem?_set,iG];by_cases a:q<t.basic.length
 ·rw [zV a,zV a];by_cases e:i=q
  ·subst e;rw [aL rfl,aL a,(nE h).2]
  rw [aF e,oD (Ne.symm e)]
 rw [aF om_,Pq (by rw [iG];omega),Pq (by rw [iG];omega)]
theorem HR :stV t wF r s (r+1)=stV t wF r s r:=by
 unfold stV;simp only [zW]
theorem HQ :stV t wF r s 0=cN t wF:=by
 unfold stV cN;simp only [sV]
theorem K7 (d:t.Ok N)(f:r<t.basic.length):(stV t wF r s t.basic.length).set r ((Lp.byL (t.line r) s).c,wy)=cN (t.pivot r s) fun q=>if q=r then wy else wF q:=by
 have b:(t.pivot r s).basic.length=t.basic.length:=P3;refine List.ext_getElem? fun q=>?_;rw [List.getElem?_set,iG];by_cases a:q<t.basic.length
 ·rw [zV a,nI (by rw [b];exact a),Lp.pivot_line (by rw [d.ll];exact a)];by_cases e:r=q
  ·subst e;rw [aL rfl,aL a,aL rfl,aL rfl]
  rw [aF e,aF (Ne.symm e),aF (Ne.symm e)];unfold stL;rw [aL ⟨a,Ne.symm e⟩]
 rw [aF om_,Pq (by rw [iG];omega),Pq (by rw [fC,b];omega)]
theorem range_nd :(List.range m).Nodup:=List.nodup_range
theorem K8 (b:t.Ok N)(c:r<t.basic.length) :
  (.arr wy 32 1 t.others.length ((Lp.byL (t.line r) s).f.map aP).flatten::((List.range t.basic.length).erase r).map (stE t wF r s t.basic.length)).Perm (((List.range (t.pivot r s).basic.length).map (J9 (t.pivot r s) fun q=>if q=r then wy else wF q)).map Lent.ent):=by
 have g:(t.pivot r s).basic.length=t.basic.length:=P3;have d:(t.pivot r s).others.length=t.others.length:=P3;rw [g,Qe];have h0:(Lent.ent ∘ J9 (t.pivot r s) fun q=>if q=r then wy else wF q) r=.arr wy 32 1 t.others.length ((Lp.byL (t.line r) s).f.map aP).flatten:=by
  show Ent.arr (if r=r then wy else wF r) _ 1 (t.pivot r s).others.length _=_;rw [aL rfl,d,Lp.pivot_line (by rw [b.ll];exact c),aL rfl]
 have h1:=lB range_nd (PC.2 c) (Lent.ent ∘ J9 (t.pivot r s) fun q=>if q=r then wy else wF q) (stE t wF r s t.basic.length) (fun q h a=>by
  have e:=PC.1 h;show Ent.arr (if q=r then wy else wF q) _ 1 (t.pivot r s).others.length _=_;rw [aF a,d,Lp.pivot_line (by rw [b.ll];exact e),aF a];unfold stE stL;rw [aL ⟨e,a⟩])
 rw [h0] at h1;exact h1.symm
theorem K5 (a:t.Ok N)(d:r<t.basic.length) :
  (([.obj b (.cells ⟨[.int .i64 n,wB,wL,wO,af (qtx (Lp.putL t.worth s (Lp.byL (t.line r) s)).c),wW]⟩ 231 (0,0)),.arr wB 3 1 t.basic.length ((t.basic.set r (t.oth s)).map aT).flatten,.arr wL 228 2 t.basic.length (((stV t wF r s t.basic.length).set r ((Lp.byL (t.line r) s).c,wy)).map bE).flatten,.arr wO 3 1 t.others.length ((t.others.set s (t.bas r)).map aT).flatten,.arr wW 32 1 t.others.length (((Lp.putL t.worth s (Lp.byL (t.line r) s)).f).map aP).flatten]:List Ent)++(.arr wy 32 1 t.others.length ((Lp.byL (t.line r) s).f.map aP).flatten::((List.range t.basic.length).erase r).map (stE t wF r s t.basic.length))).Perm ((eY b n (t.pivot r s) wB wL wO wW fun q=>if q=r then wy else wF q).map Lent.ent):=by
 have e:(t.pivot r s).basic.length=t.basic.length:=P3;have g:(t.pivot r s).others.length=t.others.length:=P3;rw [K7 a d];refine (List.Perm.append_left _ (K8 a d)).trans (List.Perm.of_eq ?_);unfold eY;simp only [PU,Lent.ent,e,g];rfl
theorem yl {l:List Nat}(h:i<l.length):l[i]?=some (l.getD i 0):=by
 rw [ax,ak h];rfl
theorem aZ (r s:Nat):(eY b n t wB wL wO wW wF).map Lent.ent=[.obj b (.cells ⟨[.int .i64 n,wB,wL,wO,af (qtx t.worth.c),wW]⟩ 231 (0,0)),.arr wB 3 1 t.basic.length ((t.basic).map aT).flatten,.arr wL 228 2 t.basic.length ((cN t wF).map bE).flatten,.arr wO 3 1 t.others.length ((t.others).map aT).flatten,.arr wW 32 1 t.others.length ((t.worth.f).map aP).flatten]++(List.range t.basic.length).map (stE t wF r s 0):=by
 have e:stE t wF r s 0=Lent.ent ∘ J9 t wF:=funext fun q=>by
  unfold stE;rw [sV];rfl
 rw [e,<- Qe];rfl
def LineQ (k:Nat)(l:Lp.Line):Prop:=QB k l.c/\∀ x∈l.f,QB k x
theorem LineQ.le {k m:Nat}{l:Lp.Line}(h:LineQ k l)(a:k<=m):LineQ m l:=⟨h.1.le a,fun x b=>(h.2 x b).le a⟩
theorem LineQ.g {k:Nat}{l:Lp.Line}(h:LineQ k l){j:Nat}(a:j<l.f.length):QB k (l.g j):=by
 unfold Lp.Line.g;rw [ax,ak a];exact h.2 _ (Qa _)
theorem O9 (h:LineQ 20 l)(c:s<l.f.length)(a:l.g s≠0):LineQ 40 (Lp.byL l s):=by
 have b:=h.g c;refine ⟨ji (eX h.1) b a,fun x d=>?_⟩;obtain ⟨q,e,rfl⟩:=Pn.1 d;have i:=PC.1 e;split
 ·exact ji ⟨by decide,by decide⟩ b a
 exact ji (eX (h.g i)) b a
theorem tG (C:Mem)(Q:Tabs C)(b n r s N:Nat)(t:Lp.Tab)(S T U d:Value)(a:Nat->Value)(V:t.Ok N)(hm:t.basic.length<=1000000)(aO:t.others.length<=1000000)(B:r<t.basic.length)(W:s<t.others.length)(hk:(t.line r).g s≠0)(hq:∀ i,i<t.basic.length->LineQ 20 (t.line i))(az:LineQ 20 t.worth) :
  Jog.Fn cx.P 205 [.pointer (some ⟨b,0,none⟩),.int .i64 r,.int .i64 s] C ((eY b n t S T U d a).map Lent.ent) fun u _ A=>u=.tuple #[]/\∃ aA,A=(eY b n (t.pivot r s) S T U d aA).map Lent.ent:=by
 have aQ:maxLen<=9223372036854775807:=by simp [maxLen]
 have X:=gW V B;have aB:=V.wl;have J:=hq r B;have ah:s<(t.line r).f.length:=by omega
 have ar:=J.g ah;have au:=O9 J ah hk;refine S4 func205 123 U3 fun w0=>?_;rw [aZ r s];refine Tc (L':=[.obj b (.cells ⟨[.int .i64 n,S,T,U,af (qtx t.worth.c),d]⟩ 231 (0,0)),.arr S 3 1 t.basic.length ((t.basic).map aT).flatten,.arr T 228 2 t.basic.length ((cN t a).map bE).flatten,.arr U 3 1 t.others.length ((t.others).map aT).flatten,.arr d 32 1 t.others.length ((t.worth.f).map aP).flatten]++(List.range t.basic.length).map (stE t a r s 0)) Z<|UE 1 Z om_ (fun o p K=>?_);subst K;refine UE 2 Z om_ (fun k l K=>?_);subst K;refine UE 3 Z om_ (fun w x K=>?_);subst K;refine G.perm (L':=[.arr (a r) 32 1 t.others.length ((t.line r).f.map aP).flatten,.obj b (.cells ⟨[.int .i64 n,.slice (some ⟨o,0,none⟩) t.basic.length p,.slice (some ⟨k,0,none⟩) t.basic.length l,.slice (some ⟨w,0,none⟩) t.others.length x,af (qtx t.worth.c),d]⟩ 231 (0,0)),.arr (.slice (some ⟨o,0,none⟩) t.basic.length p) 3 1 t.basic.length ((t.basic).map aT).flatten,.arr (.slice (some ⟨k,0,none⟩) t.basic.length l) 228 2 t.basic.length ((cN t a).map bE).flatten,.arr (.slice (some ⟨w,0,none⟩) t.others.length x) 3 1 t.others.length ((t.others).map aT).flatten,.arr d 32 1 t.others.length ((t.worth.f).map aP).flatten]++((List.range t.basic.length).erase r).map (stE t a r s 0)) (by
  have h1:=lB range_nd (PC.2 B) (stE t a r s 0) (stE t a r s 0) (fun _ _ _=>rfl);refine (List.Perm.append_left _ h1).trans ?_;have e:stE t a r s 0 r=.arr (a r) 32 1 t.others.length ((t.line r).f.map aP).flatten:=by unfold stE;rw [sV]
  rw [e]
  (exact pkL [5] rfl)) ?_
 refine G.freezeArr 0 ((t.line r).f.map aP) U2 bH (by simp [X]) (fun _ _ L=>?_);obtain ⟨Y,c3,av,aC,aR,_⟩:=id L;rw [av] at L;simp only [al] at L aC;have aD:(cN t a)[r]?=some ((t.line r).c,.slice Y (t.line r).f.length c3):=by rw [nI B,av,al]
 refine SS 3 Z fun R y=>S1 ag U9<|SV U6<|Tm (r*2) U10 aj U2<|TF (v:=.agg ⟨[af (qtx (t.line r).c),.slice Y (t.line r).f.length c3]⟩) ac U6 (fun _=>(by rw [nO aD];rfl)) U2<|Te U5 fun b6=>S5 (j:=0) U12<|SY [0,1,2,6] y Z<|G.freeze 0 Z fun _ _ ai=>SS 1 Z fun R y=>SU (bkT ai 1) U8<|SV U6<|Ta L.m_ U10 om_ (dJ ah) fl_ fun aS aE=>SU aE U8<|C6 1 [0,1,2,6,7] y Z<|Tk [(5,3)] Z fun R y=>SZ 3 Z<|S1 ag U9<|SV U6<|D.call (iL _ t.others.length om_) Z (.inr dc_) U6 (Pk _) fl_ (fun aU _ aV _ aG=>?_);obtain ⟨z,rfl,rfl⟩:=aG;refine Td [af [],.slice (some ⟨z,0,none⟩) t.others.length t.others.length] U8<|Te U5 fun E=>S5 (j:=0) U12<|SY [0,1,2,6,7,8] y Z<|SS 1 Z fun R y=>SU (bkT ai 1) U8<|Tb (eA _ (t.line r).c (Py (bx J.1 dc_) dc_)) U7 fl_<|SV U6<|Tb (gG _ Q.m_ (-(t.line r).c) ((t.line r).g s) 20 dc_ dc_ (eX J.1) ar hk) U7 fl_<|SZ 4 Z<|S5 (j:=0) U12<|SY [0,1,2,6,7,8] y Z<|SS 1 Z fun R y=>SU (bkT ai 1) U8<|C6 2 [0,1,2,7,8,41,42,43] y Z<|Tc (L':=[.obj E (.cells ⟨[af (qtx (Lp.byL (t.line r) s).c),.slice (some ⟨z,0,none⟩) t.others.length t.others.length]⟩ 228 (0,0)),.arr (.slice (some ⟨z,0,none⟩) t.others.length t.others.length) 32 1 t.others.length ((byF (t.line r) s 0).map aP).flatten,.obj b (.cells ⟨[.int .i64 n,.slice (some ⟨o,0,none⟩) t.basic.length p,.slice (some ⟨k,0,none⟩) t.basic.length l,.slice (some ⟨w,0,none⟩) t.others.length x,af (qtx t.worth.c),d]⟩ 231 (0,0)),.arr (.slice (some ⟨o,0,none⟩) t.basic.length p) 3 1 t.basic.length ((t.basic).map aT).flatten,.arr (.slice (some ⟨k,0,none⟩) t.basic.length l) 228 2 t.basic.length ((cN t a).map bE).flatten,.arr (.slice (some ⟨w,0,none⟩) t.others.length x) 3 1 t.others.length ((t.others).map aT).flatten,.arr d 32 1 t.others.length ((t.worth.f).map aP).flatten]++((List.range t.basic.length).erase r).map (stE t a r s 0)) (by rw [<- JI,X,<- tt];rfl)<|G.loop (fun fr C' A M=>∃ (j:Nat),(j<=(t.line r).f.length)/\fr=[(0,[],.pointer (some ⟨b,0,none⟩)),(1,[],.int .i64 r),(2,[],.int .i64 s),(7,[],af (qtx ((t.line r).g s))),(8,[],.pointer (some ⟨E,0,none⟩)),(41,[],.slice Y (t.line r).f.length c3),(42,[],.int .i64 (t.line r).f.length),(43,[],.int .i64 j)]/\A=[.obj E (.cells ⟨[af (qtx (Lp.byL (t.line r) s).c),.slice (some ⟨z,0,none⟩) t.others.length t.others.length]⟩ 228 (0,0)),.arr (.slice (some ⟨z,0,none⟩) t.others.length t.others.length) 32 1 t.others.length ((byF (t.line r) s j).map aP).flatten,.obj b (.cells ⟨[.int .i64 n,.slice (some ⟨o,0,none⟩) t.basic.length p,.slice (some ⟨k,0,none⟩) t.basic.length l,.slice (some ⟨w,0,none⟩) t.others.length x,af (qtx t.worth.c),d]⟩ 231 (0,0)),.arr (.slice (some ⟨o,0,none⟩) t.basic.length p) 3 1 t.basic.length ((t.basic).map aT).flatten,.arr (.slice (some ⟨k,0,none⟩) t.basic.length l) 228 2 t.basic.length ((cN t a).map bE).flatten,.arr (.slice (some ⟨w,0,none⟩) t.others.length x) 3 1 t.others.length ((t.others).map aT).flatten,.arr d 32 1 t.others.length ((t.worth.f).map aP).flatten]++((List.range t.basic.length).erase r).map (stE t a r s 0)/\M=(t.line r).f.length-j) (hn_ [0,1,2,7,8,41,42,43] Z) ⟨0,Pm _,Z,Z,Z⟩ (fun fr aW aX m _ O=>?_);obtain ⟨j,hj,rfl,rfl,rfl⟩:=O;refine SR 1 [0,1,2,7,8,41,42,43,44] Z<|G.cd (fun ak=>?_) fun ak=>?_
 ·have I:j<(t.line r).f.length:=by
   have:=OD ak;omega
  have aw:QB 20 (if j=s then (-1:Rat) else (t.line r).g j):=by
   split
   ·exact ⟨by decide,by decide⟩
   exact J.g I
  refine SS 1 Z fun R y=>Ta L.m_ U10 om_ (show ((t.line r).f.map aP)[j]?=some (aP ((t.line r).g j)) from dJ I) fl_ fun a0 aH=>SU aH U8<|C6 2 [0,1,2,7,8,9,10,41,42,43] y Z<|SR 3 [0,1,2,7,8,9,10,41,42,43,50] Z<|G.cut (fun fr C' A M=>(True)/\fr=[(0,[],.pointer (some ⟨b,0,none⟩)),(1,[],.int .i64 r),(2,[],.int .i64 s),(7,[],af (qtx ((t.line r).g s))),(8,[],.pointer (some ⟨E,0,none⟩)),(9,[],.int .i64 j),(10,[],af (qtx (if j=s then (-1:Rat) else (t.line r).g j))),(41,[],.slice Y (t.line r).f.length c3),(42,[],.int .i64 (t.line r).f.length),(43,[],.int .i64 j)]/\A=[.obj E (.cells ⟨[af (qtx (Lp.byL (t.line r) s).c),.slice (some ⟨z,0,none⟩) t.others.length t.others.length]⟩ 228 (0,0)),.arr (.slice (some ⟨z,0,none⟩) t.others.length t.others.length) 32 1 t.others.length ((byF (t.line r) s j).map aP).flatten,.obj b (.cells ⟨[.int .i64 n,.slice (some ⟨o,0,none⟩) t.basic.length p,.slice (some ⟨k,0,none⟩) t.basic.length l,.slice (some ⟨w,0,none⟩) t.others.length x,af (qtx t.worth.c),d]⟩ 231 (0,0)),.arr (.slice (some ⟨o,0,none⟩) t.basic.length p) 3 1 t.basic.length ((t.basic).map aT).flatten,.arr (.slice (some ⟨k,0,none⟩) t.basic.length l) 228 2 t.basic.length ((cN t a).map bE).flatten,.arr (.slice (some ⟨w,0,none⟩) t.others.length x) 3 1 t.others.length ((t.others).map aT).flatten,.arr d 32 1 t.others.length ((t.worth.f).map aP).flatten]++((List.range t.basic.length).erase r).map (stE t a r s 0)) ?_ (fun fr _ a1 M _ O=>?_)
  ·refine G.cd (fun am=>?_) fun am=>?_
   ·have an:j=s:=by
     have ab:((j:Int) == (s:Int))=true:=am;have:=eq_of_beq ab;omega
    refine SR 1 [0,1,2,7,8,9,10,41,42,43] Z<|S9 0 (Mem.le.refl _) (hn_ [0,1,2,7,8,9,10,41,42,43] Z) ⟨trivial,by rw [aL an,NO];rfl,Z⟩
   have an:¬ j=s:=by
    have ab:((j:Int) == (s:Int))=false:=am;intro h;rw [h] at ab;simp at ab
   refine S9 0 (Mem.le.refl _) (hn_ [0,1,2,7,8,9,10,41,42,43] Z) ⟨trivial,by rw [aF an],Z⟩
  obtain ⟨a2,rfl,rfl⟩:=O;refine Tg [0,1,2,3,4,5,6,7,8,9,10,11] [(4,1),(6,1)] Z kr_ fun R hB y=>SV U6<|S1 ag U9<|SZ 2 Z<|Tj (fun _=>(eA _ (if j=s then (-1:Rat) else (t.line r).g j) (Py (bx aw dc_) dc_))) U9<|SV U6<|Tj (fun _=>(gG _ Q.m_ (-(if j=s then (-1:Rat) else (t.line r).g j)) ((t.line r).g s) 20 dc_ dc_ (eX aw) ar hk)) U9<|SZ 3 Z<|Tm (j*1) U10 aj U2<|Tr (j:=1) U11 (by show j*1+1<=_;rw [bU bJ,kN];omega)<|SY [0,1,2,7,8,41,42,43] y Z<|SX fun R y=>S2 _ Z U6<|C6 1 [0,1,2,7,8,41,42,43] y Z<|G.perm (L':=[.obj E (.cells ⟨[af (qtx (Lp.byL (t.line r) s).c),.slice (some ⟨z,0,none⟩) t.others.length t.others.length]⟩ 228 (0,0)),.arr (.slice (some ⟨z,0,none⟩) t.others.length t.others.length) 32 1 t.others.length ((byF (t.line r) s (j+1)).map aP).flatten,.obj b (.cells ⟨[.int .i64 n,.slice (some ⟨o,0,none⟩) t.basic.length p,.slice (some ⟨k,0,none⟩) t.basic.length l,.slice (some ⟨w,0,none⟩) t.others.length x,af (qtx t.worth.c),d]⟩ 231 (0,0)),.arr (.slice (some ⟨o,0,none⟩) t.basic.length p) 3 1 t.basic.length ((t.basic).map aT).flatten,.arr (.slice (some ⟨k,0,none⟩) t.basic.length l) 228 2 t.basic.length ((cN t a).map bE).flatten,.arr (.slice (some ⟨w,0,none⟩) t.others.length x) 3 1 t.others.length ((t.others).map aT).flatten,.arr d 32 1 t.others.length ((t.worth.f).map aP).flatten]++((List.range t.basic.length).erase r).map (stE t a r s 0)) (by rw [<- MM I,<- bN bJ _ (by rw [kN];exact I)];exact List.Perm.swap _ _ _)<|S6 (m':=(t.line r).f.length-(j+1)) om_ mup (hn_ [0,1,2,7,8,41,42,43] Z) ⟨j+1,om_,Z,Z,Z⟩
 have I:j=(t.line r).f.length:=by
  have:=Pj ak;omega
 rw [I,MN];refine G.freeze 0 Z fun _ _ ao=>SS 3 Z fun R y=>S1 ae U9<|C6 2 [0,1,2,8,67,68] y Z<|G.perm (L':=[.arr (.slice (some ⟨z,0,none⟩) t.others.length t.others.length) 32 1 t.others.length (((Lp.byL (t.line r) s).f).map aP).flatten,.arr (.slice (some ⟨k,0,none⟩) t.basic.length l) 228 2 t.basic.length ((stV t a r s 0).map bE).flatten,.obj b (.cells ⟨[.int .i64 n,.slice (some ⟨o,0,none⟩) t.basic.length p,.slice (some ⟨k,0,none⟩) t.basic.length l,.slice (some ⟨w,0,none⟩) t.others.length x,af (qtx t.worth.c),d]⟩ 231 (0,0)),.arr (.slice (some ⟨o,0,none⟩) t.basic.length p) 3 1 t.basic.length ((t.basic).map aT).flatten,.arr (.slice (some ⟨w,0,none⟩) t.others.length x) 3 1 t.others.length ((t.others).map aT).flatten,.arr d 32 1 t.others.length ((t.worth.f).map aP).flatten]++((List.range t.basic.length).erase r).map (stE t a r s 0)) (by rw [HQ];(exact pkL [0,2] Z))<|G.loop (fun fr C' A M=>∃ (i:Nat),(i<=t.basic.length)/\fr=[(0,[],.pointer (some ⟨b,0,none⟩)),(1,[],.int .i64 r),(2,[],.int .i64 s),(8,[],.pointer (some ⟨E,0,none⟩)),(67,[],.int .i64 t.basic.length),(68,[],.int .i64 i)]/\A=[.arr (.slice (some ⟨z,0,none⟩) t.others.length t.others.length) 32 1 t.others.length (((Lp.byL (t.line r) s).f).map aP).flatten,.arr (.slice (some ⟨k,0,none⟩) t.basic.length l) 228 2 t.basic.length ((stV t a r s i).map bE).flatten,.obj b (.cells ⟨[.int .i64 n,.slice (some ⟨o,0,none⟩) t.basic.length p,.slice (some ⟨k,0,none⟩) t.basic.length l,.slice (some ⟨w,0,none⟩) t.others.length x,af (qtx t.worth.c),d]⟩ 231 (0,0)),.arr (.slice (some ⟨o,0,none⟩) t.basic.length p) 3 1 t.basic.length ((t.basic).map aT).flatten,.arr (.slice (some ⟨w,0,none⟩) t.others.length x) 3 1 t.others.length ((t.others).map aT).flatten,.arr d 32 1 t.others.length ((t.worth.f).map aP).flatten]++((List.range t.basic.length).erase r).map (stE t a r s i)/\M=t.basic.length-i) (hn_ [0,1,2,8,67,68] Z) ⟨0,Pm _,Z,Z,Z⟩ (fun fr a3 a4 m _ O=>?_);obtain ⟨i,hi,rfl,rfl,rfl⟩:=O;refine SR 1 [0,1,2,8,67,68,69] Z<|G.cd (fun ap=>?_) fun ap=>?_
 ·have F:i<t.basic.length:=by
   have:=OD ap;omega
  refine SR 2 [0,1,2,8,11,67,68] Z<|SR 3 [0,1,2,8,11,67,68,73] Z<|G.cd (fun aq=>?_) fun aq=>?_
  ·have H:i≠r:=by
    have ad:(!((i:Int) == (r:Int)))=true:=aq;intro h;rw [h] at ad;simp at ad
   have ax:i∈(List.range t.basic.length).erase r:=(List.Nodup.mem_erase_iff range_nd).2 ⟨H,PC.2 F⟩;have ay:=lB (range_nd.erase r) ax (stE t a r s i) (stE t a r s (i+1)) (fun q _ aI=>by unfold stE;rw [oD aI]);have he:stE t a r s i i=.arr (a i) 32 1 t.others.length ((t.line i).f.map aP).flatten:=by unfold stE;rw [(nE H).1]
   have aJ:stE t a r s (i+1) i=.arr (a i) 32 1 t.others.length ((Lp.putL (t.line i) s (Lp.byL (t.line r) s)).f.map aP).flatten:=by unfold stE;rw [(nE H).2]
   have aK:(stV t a r s i)[i]?=some ((t.line i).c,a i):=by rw [zV F,(nE H).1]
   rw [he] at ay;refine G.perm (L':=[.arr (.slice (some ⟨z,0,none⟩) t.others.length t.others.length) 32 1 t.others.length (((Lp.byL (t.line r) s).f).map aP).flatten,.arr (.slice (some ⟨k,0,none⟩) t.basic.length l) 228 2 t.basic.length ((stV t a r s i).map bE).flatten,.arr (a i) 32 1 t.others.length ((t.line i).f.map aP).flatten,.obj b (.cells ⟨[.int .i64 n,.slice (some ⟨o,0,none⟩) t.basic.length p,.slice (some ⟨k,0,none⟩) t.basic.length l,.slice (some ⟨w,0,none⟩) t.others.length x,af (qtx t.worth.c),d]⟩ 231 (0,0)),.arr (.slice (some ⟨o,0,none⟩) t.basic.length p) 3 1 t.basic.length ((t.basic).map aT).flatten,.arr (.slice (some ⟨w,0,none⟩) t.others.length x) 3 1 t.others.length ((t.others).map aT).flatten,.arr d 32 1 t.others.length ((t.worth.f).map aP).flatten]++(((List.range t.basic.length).erase r).erase i).map (stE t a r s (i+1))) ((List.Perm.append_left _ ay).trans (pkL [0,0,4] Z))<|Tg [0,1,2,3,4,5,6,7,8] [(8,3)] Z kr_ fun R hB y=>SZ 3 Z<|S1 aa U9<|SV U6<|Tm (i*2) U10 aj U2<|SV U6<|SU (bkT ao 2) U8<|D.call (Io _ Q.m_ k t.basic.length l i t.others.length s (a i) (.slice (some ⟨z,0,none⟩) t.others.length t.others.length) (stV t a r s i) (t.line i) (Lp.byL (t.line r) s) iG aK (gW V F) (by rw [uG];exact X) W ((hq i F).le dc_) (au.le dc_)) Z (.inr dc_) U6 (pkL [0,0,0] Z) fl_ fun a5 _ a6 _ aM=>SY [0,1,2,8,67,68] y Z ?_;obtain ⟨-,rfl⟩:=aM;refine G.perm (L':=[.arr (.slice (some ⟨z,0,none⟩) t.others.length t.others.length) 32 1 t.others.length (((Lp.byL (t.line r) s).f).map aP).flatten,.arr (.slice (some ⟨k,0,none⟩) t.basic.length l) 228 2 t.basic.length ((stV t a r s (i+1)).map bE).flatten,.obj b (.cells ⟨[.int .i64 n,.slice (some ⟨o,0,none⟩) t.basic.length p,.slice (some ⟨k,0,none⟩) t.basic.length l,.slice (some ⟨w,0,none⟩) t.others.length x,af (qtx t.worth.c),d]⟩ 231 (0,0)),.arr (.slice (some ⟨o,0,none⟩) t.basic.length p) 3 1 t.basic.length ((t.basic).map aT).flatten,.arr (.slice (some ⟨w,0,none⟩) t.others.length x) 3 1 t.others.length ((t.others).map aT).flatten,.arr d 32 1 t.others.length ((t.worth.f).map aP).flatten]++((List.range t.basic.length).erase r).map (stE t a r s (i+1))) (by
    rw [<- K6 F H];refine List.Perm.trans (l₂:=[.arr (.slice (some ⟨z,0,none⟩) t.others.length t.others.length) 32 1 t.others.length (((Lp.byL (t.line r) s).f).map aP).flatten,.arr (.slice (some ⟨k,0,none⟩) t.basic.length l) 228 2 t.basic.length (((stV t a r s i).set i ((Lp.putL (t.line i) s (Lp.byL (t.line r) s)).c,a i)).map bE).flatten,.obj b (.cells ⟨[.int .i64 n,.slice (some ⟨o,0,none⟩) t.basic.length p,.slice (some ⟨k,0,none⟩) t.basic.length l,.slice (some ⟨w,0,none⟩) t.others.length x,af (qtx t.worth.c),d]⟩ 231 (0,0)),.arr (.slice (some ⟨o,0,none⟩) t.basic.length p) 3 1 t.basic.length ((t.basic).map aT).flatten,.arr (.slice (some ⟨w,0,none⟩) t.others.length x) 3 1 t.others.length ((t.others).map aT).flatten,.arr d 32 1 t.others.length ((t.worth.f).map aP).flatten]++(.arr (a i) 32 1 t.others.length ((Lp.putL (t.line i) s (Lp.byL (t.line r) s)).f.map aP).flatten::(((List.range t.basic.length).erase r).erase i).map (stE t a r s (i+1)))) (pkL [0,0,1,1,1,1] Z) (List.Perm.append_left _ ?_);rw [<- aJ];exact (lB (range_nd.erase r) ax (stE t a r s (i+1)) (stE t a r s (i+1)) (fun _ _ _=>rfl)).symm) ?_
   refine SX fun R y=>S2 _ Z U6<|C6 1 [0,1,2,8,67,68] y Z<|S6 (m':=t.basic.length-(i+1)) om_ mup (hn_ [0,1,2,8,67,68] Z) ⟨i+1,om_,Z,Z,Z⟩
  have H:i=r:=by
   have ad:(!((i:Int) == (r:Int)))=false:=aq;simp at ad;omega
  refine Tc (L':=[.arr (.slice (some ⟨z,0,none⟩) t.others.length t.others.length) 32 1 t.others.length (((Lp.byL (t.line r) s).f).map aP).flatten,.arr (.slice (some ⟨k,0,none⟩) t.basic.length l) 228 2 t.basic.length ((stV t a r s (i+1)).map bE).flatten,.obj b (.cells ⟨[.int .i64 n,.slice (some ⟨o,0,none⟩) t.basic.length p,.slice (some ⟨k,0,none⟩) t.basic.length l,.slice (some ⟨w,0,none⟩) t.others.length x,af (qtx t.worth.c),d]⟩ 231 (0,0)),.arr (.slice (some ⟨o,0,none⟩) t.basic.length p) 3 1 t.basic.length ((t.basic).map aT).flatten,.arr (.slice (some ⟨w,0,none⟩) t.others.length x) 3 1 t.others.length ((t.others).map aT).flatten,.arr d 32 1 t.others.length ((t.worth.f).map aP).flatten]++((List.range t.basic.length).erase r).map (stE t a r s (i+1))) (by
   have e:stE t a r s (r+1)=stE t a r s r:=funext fun q=>by unfold stE;rw [zW]
   rw [H,HR,e]) ?_
  refine SX fun R y=>S2 _ Z U6<|C6 1 [0,1,2,8,67,68] y Z<|S6 (m':=t.basic.length-(i+1)) om_ mup (hn_ [0,1,2,8,67,68] Z) ⟨i+1,om_,Z,Z,Z⟩
 have F:i=t.basic.length:=by
  have:=Pj ap;omega
 rw [F];refine G.perm (L':=[.arr (.slice (some ⟨z,0,none⟩) t.others.length t.others.length) 32 1 t.others.length (((Lp.byL (t.line r) s).f).map aP).flatten,.obj b (.cells ⟨[.int .i64 n,.slice (some ⟨o,0,none⟩) t.basic.length p,.slice (some ⟨k,0,none⟩) t.basic.length l,.slice (some ⟨w,0,none⟩) t.others.length x,af (qtx t.worth.c),d]⟩ 231 (0,0)),.arr d 32 1 t.others.length ((t.worth.f).map aP).flatten,.arr (.slice (some ⟨k,0,none⟩) t.basic.length l) 228 2 t.basic.length ((stV t a r s t.basic.length).map bE).flatten,.arr (.slice (some ⟨o,0,none⟩) t.basic.length p) 3 1 t.basic.length ((t.basic).map aT).flatten,.arr (.slice (some ⟨w,0,none⟩) t.others.length x) 3 1 t.others.length ((t.others).map aT).flatten]++((List.range t.basic.length).erase r).map (stE t a r s t.basic.length)) (pkL [0,1,3,0,0,0] Z)<|Tg [0,1,2,3,4,5] [(5,3)] Z kr_ fun R hB y=>SZ 4 Z<|SU (bkT ao 2) U8<|D.call (Il _ Q.m_ b t.others.length s (.int .i64 n) (.slice (some ⟨o,0,none⟩) t.basic.length p) (.slice (some ⟨k,0,none⟩) t.basic.length l) (.slice (some ⟨w,0,none⟩) t.others.length x) d (.slice (some ⟨z,0,none⟩) t.others.length t.others.length) t.worth (Lp.byL (t.line r) s) aB (by rw [uG];exact X) W (az.le dc_) (au.le dc_)) Z (.inr dc_) U6 (pkL [0,0,0] Z) fl_ fun a7 _ a8 _ aN=>SY [0,1,2,8] y Z ?_;obtain ⟨-,rfl⟩:=aN;refine G.perm (L':=[.obj b (.cells ⟨[.int .i64 n,.slice (some ⟨o,0,none⟩) t.basic.length p,.slice (some ⟨k,0,none⟩) t.basic.length l,.slice (some ⟨w,0,none⟩) t.others.length x,af (qtx (Lp.putL t.worth s (Lp.byL (t.line r) s)).c),d]⟩ 231 (0,0)),.arr (.slice (some ⟨o,0,none⟩) t.basic.length p) 3 1 t.basic.length ((t.basic).map aT).flatten,.arr (.slice (some ⟨k,0,none⟩) t.basic.length l) 228 2 t.basic.length ((stV t a r s t.basic.length).map bE).flatten,.arr (.slice (some ⟨w,0,none⟩) t.others.length x) 3 1 t.others.length ((t.others).map aT).flatten,.arr d 32 1 t.others.length (((Lp.putL t.worth s (Lp.byL (t.line r) s)).f).map aP).flatten,.arr (.slice (some ⟨z,0,none⟩) t.others.length t.others.length) 32 1 t.others.length (((Lp.byL (t.line r) s).f).map aP).flatten]++((List.range t.basic.length).erase r).map (stE t a r s t.basic.length)) (pkL [1,3,2,2,1] Z)<|Tg [0,1,2,3,4,5,6,7] [] Z kr_ fun R hB y=>SZ 3 Z<|S1 ag U9<|SV U6<|SU (bkT ao 2) U8<|Tm (r*2) U10 aj U2<|Tr (j:=2) U11 (by show r*2+2<=_;rw [bU gt,iG];omega)<|SY [0,1,2] y Z<|Tc (L':=[.arr (.slice (some ⟨k,0,none⟩) t.basic.length l) 228 2 t.basic.length (((stV t a r s t.basic.length).set r ((Lp.byL (t.line r) s).c,.slice (some ⟨z,0,none⟩) t.others.length t.others.length)).map bE).flatten,.obj b (.cells ⟨[.int .i64 n,.slice (some ⟨o,0,none⟩) t.basic.length p,.slice (some ⟨k,0,none⟩) t.basic.length l,.slice (some ⟨w,0,none⟩) t.others.length x,af (qtx (Lp.putL t.worth s (Lp.byL (t.line r) s)).c),d]⟩ 231 (0,0)),.arr (.slice (some ⟨o,0,none⟩) t.basic.length p) 3 1 t.basic.length ((t.basic).map aT).flatten,.arr (.slice (some ⟨w,0,none⟩) t.others.length x) 3 1 t.others.length ((t.others).map aT).flatten,.arr d 32 1 t.others.length (((Lp.putL t.worth s (Lp.byL (t.line r) s)).f).map aP).flatten,.arr (.slice (some ⟨z,0,none⟩) t.others.length t.others.length) 32 1 t.others.length (((Lp.byL (t.line r) s).f).map aP).flatten]++((List.range t.basic.length).erase r).map (stE t a r s t.basic.length)) (by rw [<- bN gt _ (by rw [iG];exact B)];rfl)<|Tg [0,1,2,3,4,5,6,7,8,9,10,11,12,13,14,15,16,17,18,19,20,21,22,23,24,25,26,27] [] Z kr_ fun R hB y=>SZ 3 Z<|S1 ae U9<|SZ 4 Z<|S1 ae U9<|SZ 4 Z<|S1 ae U9<|SV U6<|Tm (s*1) U10 aj U2<|TF aa U6 (fun _=>(by rw [er fp (show t.others[s]?=some (t.oth s) from yl W)];rfl)) U2<|SZ 3 Z<|S1 ae U9<|SV U6<|Tm (r*1) U10 aj U2<|TF ac U6 (fun _=>(by rw [er fp (show t.basic[r]?=some (t.bas r) from yl B)];rfl)) U2<|Tm (r*1) U10 aj U2<|Tr (j:=2) U11 (by show r*1+1<=_;rw [bU fp];omega)<|Tm (s*1) U10 aj U2<|Tr (j:=3) U11 (by show s*1+1<=_;rw [bU fp];omega)<|TX [] trivial (y _ _ _ Z ?_);refine G.perm (L':=(eY b n (t.pivot r s) (.slice (some ⟨o,0,none⟩) t.basic.length p) (.slice (some ⟨k,0,none⟩) t.basic.length l) (.slice (some ⟨w,0,none⟩) t.others.length x) d (fun q=>if q=r then (.slice (some ⟨z,0,none⟩) t.others.length t.others.length) else a q)).map Lent.ent) (by
  refine List.Perm.trans ?_ (K5 V B);rw [<- bN fp _ B,<- bN fp _ W]
  (exact pkL [3,1,1,0,0,0] rfl)) ?_
 exact Uc Z<|⟨Z,_,Z⟩
theorem tQ (h:Lp.Inv p cc t)(b:Lp.Lim p cc 20)(a:i<t.basic.length):LineQ 20 (t.line i):=by
 refine ⟨h.con b a,fun x c=>?_⟩;obtain ⟨s,hs,rfl⟩:=List.mem_iff_getElem.1 c;have d:=gW h.tab.ok a;have h1:=h.fac b a (s:=s) om_;unfold Lp.Line.g at h1;rw [ax,ak hs] at h1;exact h1
theorem ol (h:Lp.Inv p cc t)(a:Lp.Lim p cc 20):LineQ 20 t.worth:=by
 refine ⟨h.wcon a,fun x b=>?_⟩;obtain ⟨s,hs,rfl⟩:=List.mem_iff_getElem.1 b;have c:=h.tab.ok.wl;have h1:=h.wfac a (s:=s) om_;unfold Lp.Line.g at h1;rw [ax,ak hs] at h1;exact h1
theorem LineQ.g0 (h:LineQ k l)(a:k<=m)(b:1<=m)(j:Nat):QB m (l.g j):=by
 unfold Lp.Line.g;rw [ax];by_cases c:j<l.f.length
 ·rw [ak c];exact (h.2 _ (Qa _)).le a
 rw [Pq om_];exact Lp.qb_zero b
theorem lZ {c:Nat->Prop}(h:Lp.LeastR vs q n o)(e:∀ i,i<n->(q i ↔ c i)):Lp.LeastR vs c n o:=by
 cases h with
 | none h=>exact .none fun i a b=>h i a ((e i a).2 b)
 | some i a b hm=>exact .some i a ((e i a).1 b) fun j d f=>hm j d ((e j d).2 f)
theorem gY (h:Lp.LeastR vs q n o)(a:¬ o<0):∃ i:Nat,o=i/\i<n/\q i/\∀ j,j<n->q j->vs.getD i 0<=vs.getD j 0:=by
 cases h with
 | none h=>exact absurd dc_ a
 | some i b c hm=>exact ⟨i,rfl,b,c,hm⟩
theorem gZ (h:Lp.LeastR vs q n o)(a:o<0):∀ i,i<n->¬ q i:=by
 cases h with
 | none h=>exact h
 | some i b c hm=>omega
section
variable {C:Mem} {a a2 b n N:Nat} {r:Int} {t:Lp.Tab} {wB wL wO wW:Value} {wF:Nat->Value}
theorem zR (c:t.Ok N):∀ x∈.obj a2 [.int .i64 r] 3::eY b n t wB wL wO wW wF,x.wf:=fun x a=>by
 rcases Ps.1 a with rfl | a
 ·trivial
 exact fV c x a
theorem FW (d:t.Ok N)(j:C a=some (.cells ⟨[.pointer (some ⟨b,0,none⟩)]⟩ 221 (0,0)))(k:∀ i,i<t.basic.length->LineQ 20 (t.line i)) :
  Jog.Fn cx.P 206 [wB,.func (.func 207) #[] #[.pointer (some ⟨a,0,none⟩)]] C ((.obj a2 [.int .i64 r] 3::eY b n t wB wL wO wW wF).map Lent.ent)
   fun u _ e=>(∃ o:Int,u=.int .i64 o/\Lp.LeastR t.basic (fun i=>n<=t.bas i/\(t.line i).c<0) t.basic.length o)/\e=(.obj a2 [.int .i64 r] 3::eY b n t wB wL wO wW wF).map Lent.ent:=by
 refine Ua kr_ _ (zR d) fun l m hs=>?_;have f:=eT d fun x p=>hs x (Pr _ p);refine (nP l wB t.basic 207 [.pointer (some ⟨a,0,none⟩)] (fun i=>decide (n<=t.bas i) && decide ((t.line i).c<0)) f.B kr_ fun i g D h =>
  Jh D a b n i N t wB wL wO wW _ (f.mono h) d ((m.trans h) _ _ j) g ((k i g).1.le dc_)).mono ?_
 rintro u D e _ ⟨h1,o,rfl,h2⟩;exact ⟨h1,o,Z,lZ h2 fun i _=>by simp⟩
theorem FU {r:Nat}(c:t.Ok N)(h:C a=some (.cells ⟨[.pointer (some ⟨b,0,none⟩)]⟩ 221 (0,0)))(j:r<t.basic.length)(k:LineQ 20 (t.line r)) :
  Jog.Fn cx.P 206 [wO,.func (.func 208) #[] #[.pointer (some ⟨a,0,none⟩),.pointer (some ⟨a2,0,none⟩)]] C ((.obj a2 [.int .i64 r] 3::eY b n t wB wL wO wW wF).map Lent.ent)
   fun u _ e=>(∃ o:Int,u=.int .i64 o/\Lp.LeastR t.others (fun i=>n<=t.oth i/\0<(t.line r).g i) t.others.length o)/\e=(.obj a2 [.int .i64 r] 3::eY b n t wB wL wO wW wF).map Lent.ent:=by
 refine Ua kr_ _ (zR c) fun l m hs=>?_;have f:=eT c fun x p=>hs x (Pr _ p);have h2:=hs _ (Ph ..);refine (nP l wO t.others 208 [.pointer (some ⟨a,0,none⟩),.pointer (some ⟨a2,0,none⟩)] (fun i=>decide (n<=t.oth i) && decide (0<(t.line r).g i)) f.O kr_ fun i q D d =>
  Jg D a a2 b n i r N t wB wL wO wW _ (f.mono d) c ((m.trans d) _ _ h) (d _ _ h2) j q (k.g0 dc_ dc_ i)).mono ?_
 rintro u D e _ ⟨h1,o,rfl,h2⟩;exact ⟨h1,o,Z,lZ h2 fun i _=>by simp⟩
end
inductive FeasO (p:Lp.Sys) (t:Lp.Tab):Value->Prop where
 | yes:t.Feas p.n->FeasO p t (.tuple #[.int .i64 0,.bool true])
 | no (r:Nat):r<t.basic.length->p.n<=t.bas r->(t.line r).c<0->(∀ s,s<t.others.length->p.n<=t.oth s->(t.line r).g s<=0)->FeasO p t (.tuple #[.int .i64 r,.bool false])
theorem yI (C:Mem)(hT:Tabs C)(p:Lp.Sys)(A:Nat->Rat)(b:Nat)(d:Lp.Tab)(e h k l:Value)(B:Nat->Value)(q:Lp.Inv p A d)(a:Lp.Rel p.n d p.n)(T:Lp.Lim p A 20)(hm:p.m<=1000000)(hn:p.n<=1000000) :
  Jog.Fn cx.P 138 [.pointer (some ⟨b,0,none⟩)] C ((eY b p.n d e h k l B).map Lent.ent) fun u _ w=>∃ t wF,Lp.Inv p A t/\Lp.Rel p.n t p.n/\FeasO p t u/\w=(eY b p.n t e h k l wF).map Lent.ent:=by
 have an:maxLen<=9223372036854775807:=by simp [maxLen]
 refine S4 func138 26 U3 fun w0=>?_;refine SX fun R a=>?_;refine Tf U6 (fun b1=>?_);refine Te U5 (fun v=>?_);refine C6 1 [1,2] a Z ?_;clear a R;refine G.freeze 1 Z (fun _ _ x=>?_);refine Tc (L':=[.obj v (.cells ⟨[.int .i64 0]⟩ 3 (0,0)),.obj b (.cells ⟨[.int .i64 p.n,e,h,k,af (qtx d.worth.c),l]⟩ 231 (0,0)),.arr e 3 1 d.basic.length ((d.basic).map aT).flatten,.arr h 228 2 d.basic.length ((cN d B).map bE).flatten,.arr k 3 1 d.others.length ((d.others).map aT).flatten,.arr l 32 1 d.others.length ((d.worth.f).map aP).flatten]++(List.range d.basic.length).map (stE d B 0 0 0)) (by rw [aZ 0 0];rfl) ?_;refine G.loop (fun fr C' w μ=>∃ (t:Lp.Tab)(wF:Nat->Value)(o:Int)(E:Nat),(Lp.Inv p A t/\Lp.Rel p.n t p.n/\∀ K,Lp.Reach (Lp.FeasP p.n) t K->K<=E)/\fr=[(1,[],.pointer (some ⟨b1,0,none⟩)),(2,[],.pointer (some ⟨v,0,none⟩))]/\w=[.obj v (.cells ⟨[.int .i64 o]⟩ 3 (0,0)),.obj b (.cells ⟨[.int .i64 p.n,e,h,k,af (qtx t.worth.c),l]⟩ 231 (0,0)),.arr e 3 1 t.basic.length ((t.basic).map aT).flatten,.arr h 228 2 t.basic.length ((cN t wF).map bE).flatten,.arr k 3 1 t.others.length ((t.others).map aT).flatten,.arr l 32 1 t.others.length ((t.worth.f).map aP).flatten]++(List.range t.basic.length).map (stE t wF 0 0 0)/\μ=E) (hn_ [1,2] Z) ⟨d,B,0,2 ^ (p.n+p.m),⟨q,a,fun K F=>Lp.feas_len q.tab.ok F⟩,Z,Z,Z⟩ (fun fr ao ap m _ q=>?_);obtain ⟨t,wF,o,E,⟨q,a,F⟩,rfl,rfl,rfl⟩:=q;have ok:=q.tab.ok;have aa:t.basic.length<=1000000:=by rw [q.tab.lb];exact hm
 have ab:t.others.length<=1000000:=by rw [q.tab.lo];exact hn
 have H:∀ i,i<t.basic.length->LineQ 20 (t.line i):=fun i y=>tQ q T y;refine Tk [(5,3)] Z (fun R a=>?_);refine SU (bkT x 1) U8 ?_;refine SZ 2 Z ?_;refine S1 ae U9 ?_;refine SV U6 ?_;refine D.call (FW ok (Mem.get x mup) H) Z (.inr dc_) U6 (show List.Perm _ (((.obj v [.int .i64 o] 3::eY b p.n t e h k l wF).map Lent.ent)++[]) from List.Perm.of_eq (by rw [PF,PU,aZ 0 0];rfl)) fl_ (fun aq _ ar _ ac=>?_);obtain ⟨⟨I,rfl,U⟩,rfl⟩:=ac;refine S5 (j:=0) U12 ?_;refine SY [1,2] a Z ?_;clear a R;refine Tc (L':=[.obj v (.cells ⟨[.int .i64 I]⟩ 3 (0,0)),.obj b (.cells ⟨[.int .i64 p.n,e,h,k,af (qtx t.worth.c),l]⟩ 231 (0,0)),.arr e 3 1 t.basic.length ((t.basic).map aT).flatten,.arr h 228 2 t.basic.length ((cN t wF).map bE).flatten,.arr k 3 1 t.others.length ((t.others).map aT).flatten,.arr l 32 1 t.others.length ((t.worth.f).map aP).flatten]++(List.range t.basic.length).map (stE t wF 0 0 0)) (by rw [PF,PU,aZ 0 0];rfl) ?_;refine SX fun R a=>?_;refine S1 ag U9 ?_;refine C6 1 [1,2,12] a Z ?_;clear a R;refine G.cd (fun J=>?_) fun J=>?_
 ·have L:I<0:=OD J;have M:=gZ U L;refine SX fun R a=>?_;refine S5 (j:=0) U12 ?_;refine C6 1 [2,3] a Z ?_;clear a R;refine S7 (UX 0 Z Z Z Z Z Z ?_);exact ⟨t,wF,q,a,.yes (fun i y z=>by have:=M i y;grind),by rw [aZ 0 0];rfl⟩
 have L:¬ I<0:=Pj J;obtain ⟨r,rfl,hr,⟨N,V⟩,ad⟩:=gY U L;refine Tk [(5,3)] Z (fun R a=>?_);refine SU (bkT x 1) U8 ?_;refine SZ 2 Z ?_;refine S1 ae U9 ?_;refine SV U6 ?_;refine D.call (FU ok (Mem.get x mup) hr (H r hr)) Z (.inr dc_) U6 (show List.Perm _ (((.obj v [.int .i64 (r:Nat)] 3::eY b p.n t e h k l wF).map Lent.ent)++[]) from List.Perm.of_eq (by rw [PF,PU,aZ 0 0];rfl)) fl_ (fun au _ av _ ah=>?_);refine C6 1 [1,2,4] a Z ?_;clear a R;obtain ⟨⟨W,rfl,X⟩,rfl⟩:=ah;refine Tc (L':=[.obj v (.cells ⟨[.int .i64 (r:Nat)]⟩ 3 (0,0)),.obj b (.cells ⟨[.int .i64 p.n,e,h,k,af (qtx t.worth.c),l]⟩ 231 (0,0)),.arr e 3 1 t.basic.length ((t.basic).map aT).flatten,.arr h 228 2 t.basic.length ((cN t wF).map bE).flatten,.arr k 3 1 t.others.length ((t.others).map aT).flatten,.arr l 32 1 t.others.length ((t.worth.f).map aP).flatten]++(List.range t.basic.length).map (stE t wF 0 0 0)) (by rw [PF,PU,aZ 0 0];rfl) ?_;refine SR 2 [1,2,4,20] Z ?_;refine G.cd (fun O=>?_) fun O=>?_
 ·have Q:W<0:=OD O;have M:=gZ X Q;refine SX fun R a=>?_;refine S1 ag U9 ?_;refine S5 (j:=0) U12 ?_;refine C6 1 [2,3] a Z ?_;clear a R;refine S7 (UX 0 Z Z Z Z Z Z ?_);exact ⟨t,wF,q,a,.no r hr N V (fun s hs z=>by have:=M s hs;grind),by rw [aZ 0 0];rfl⟩
 have Q:¬ W<0:=Pj O;obtain ⟨s,rfl,hs,⟨ai,aj⟩,ak⟩:=gY X Q;have hP:Lp.FeasP p.n t r s:=⟨hr,hs,N,ai,V,fun i y z hc=>ad i y ⟨z,hc⟩,aj,fun j hj z hg=>ak j hj ⟨z,hg⟩⟩;have Y:(t.line r).g s≠0:=by grind
 obtain ⟨aw,al⟩:=Lp.Reach.fall hP F;refine Tk [(3,3)] Z (fun R a=>?_);refine SU (bkT x 1) U8 ?_;refine S1 ag U9 ?_;refine SV U6 ?_;refine D.call (tG _ hT.m_ b p.n r s (p.n+p.m) t e h k l wF ok aa ab hr hs Y H (ol q T)) Z (.inr dc_) U6 (by rw [aZ 0 0];exact (List.perm_append_singleton _ _).symm) fl_ (fun ax _ ay _ am=>?_);refine SY [1,2] a Z ?_;clear a R;obtain ⟨-,S,rfl⟩:=am;refine G.perm (L':=[.obj v (.cells ⟨[.int .i64 (r:Nat)]⟩ 3 (0,0)),.obj b (.cells ⟨[.int .i64 p.n,e,h,k,af (qtx (t.pivot r s).worth.c),l]⟩ 231 (0,0)),.arr e 3 1 (t.pivot r s).basic.length (((t.pivot r s).basic).map aT).flatten,.arr h 228 2 (t.pivot r s).basic.length ((cN (t.pivot r s) S).map bE).flatten,.arr k 3 1 (t.pivot r s).others.length (((t.pivot r s).others).map aT).flatten,.arr l 32 1 (t.pivot r s).others.length (((t.pivot r s).worth.f).map aP).flatten]++(List.range (t.pivot r s).basic.length).map (stE (t.pivot r s) S 0 0 0)) (by rw [aZ 0 0];exact List.perm_append_singleton _ _) ?_;refine S6 (m':=m-1) om_ mup (hn_ [1,2] Z) ⟨t.pivot r s,S,(r:Int),m-1,⟨q.pivot hr hs Y,Lp.rel_pivot ok a hr hs N,al⟩,Z,Z,Z⟩
section
variable {C:Mem} {a b n N:Nat} {t:Lp.Tab} {wB wL wO wW:Value} {wF:Nat->Value}
theorem FT (c:t.Ok N)(h:C a=some (.cells ⟨[.pointer (some ⟨b,0,none⟩)]⟩ 221 (0,0))) :
  Jog.Fn cx.P 206 [wO,.func (.func 209) #[] #[.pointer (some ⟨a,0,none⟩)]] C ((eY b n t wB wL wO wW wF).map Lent.ent)
   fun u _ d=>(∃ o:Int,u=.int .i64 o/\Lp.LeastR t.others (fun i=>¬ n<=t.oth i/\¬ t.worth.g i=0) t.others.length o)/\d=(eY b n t wB wL wO wW wF).map Lent.ent:=by
 refine Ua kr_ _ (fV c) fun j k hs=>?_;have e:=eT c hs;refine (nP j wO t.others 209 [.pointer (some ⟨a,0,none⟩)] (fun i=>!decide (n<=t.oth i) && !decide (t.worth.g i=0)) e.O kr_ fun i l D f =>
  Mc D a b n i N t wB wL wO wW _ (e.mono f) c ((k.trans f) _ _ h) l).mono ?_
 rintro u D d _ ⟨h1,o,rfl,h2⟩;exact ⟨h1,o,Z,lZ h2 fun i _=>by simp⟩
theorem FS (c:t.Ok N)(h:C a=some (.cells ⟨[.pointer (some ⟨b,0,none⟩)]⟩ 221 (0,0)))(j:LineQ 20 t.worth) :
  Jog.Fn cx.P 206 [wO,.func (.func 210) #[] #[.pointer (some ⟨a,0,none⟩)]] C ((eY b n t wB wL wO wW wF).map Lent.ent)
   fun u _ d=>(∃ o:Int,u=.int .i64 o/\Lp.LeastR t.others (fun i=>n<=t.oth i/\t.worth.g i<0) t.others.length o)/\d=(eY b n t wB wL wO wW wF).map Lent.ent:=by
 refine Ua kr_ _ (fV c) fun k l hs=>?_;have e:=eT c hs;refine (nP k wO t.others 210 [.pointer (some ⟨a,0,none⟩)] (fun i=>decide (n<=t.oth i) && decide (t.worth.g i<0)) e.O kr_ fun i m D f =>
  Mb D a b n i N t wB wL wO wW _ (e.mono f) c ((l.trans f) _ _ h) m (j.g0 dc_ dc_ i)).mono ?_
 rintro u D d _ ⟨h1,o,rfl,h2⟩;exact ⟨h1,o,Z,lZ h2 fun i _=>by simp⟩
theorem FR {s:Nat}(f:Tabs C)(a:t.Ok N)(d:s<t.others.length)(e:∀ i,i<t.basic.length->LineQ 20 (t.line i)) :
  Jog.Fn cx.P 211 [.pointer (some ⟨b,0,none⟩),.int .i64 s] C ((eY b n t wB wL wO wW wF).map Lent.ent)
   fun u _ h=>(∃ o:Int,u=.int .i64 o/\Lp.LeaveR n t s t.basic.length o)/\h=(eY b n t wB wL wO wW wF).map Lent.ent :=
 Ua kr_ _ (fV a) fun j k l=>IX j (f.mono k) b n s N t wB wL wO wW _ (eT a l) a d fun i c=>⟨(e i c).1,(e i c).g (by rw [gW a c];exact d)⟩
end
theorem yt (h:Lp.LeaveR F t s n o)(a:o<0):∀ i,i<n->F<=t.bas i->0<=(t.line i).g s:=by
 cases h with
 | none h=>exact h
 | some r _ _ _ _=>omega
theorem yr (h:Lp.LeaveR F t s n o)(a:¬ o<0):∃ r:Nat,o=r/\r<n/\F<=t.bas r/\(t.line r).g s<0 /\
  ∀ i,i<n->F<=t.bas i->(t.line i).g s<0->(t.line r).c / -(t.line r).g s<(t.line i).c / -(t.line i).g s∨(t.line r).c / -(t.line r).g s=(t.line i).c / -(t.line i).g s/\t.bas r<=t.bas i:=by
 cases h with
 | none h=>exact absurd dc_ a
 | some r h1 h2 h3 h4=>exact ⟨r,rfl,h1,h2,h3,h4⟩
inductive MinO (p:Lp.Sys) (t:Lp.Tab):Value->Prop where
 | yes:Lp.RelW p.n t->(∀ s,s<t.others.length->p.n<=t.oth s->0<=t.worth.g s)->MinO p t (.tuple #[.int .i64 0,.bool true])
 | no (s:Nat):s<t.others.length->kP t s*t.worth.g s<0->(∀ i,i<t.basic.length->p.n<=t.bas i->0<=kP t s*(t.line i).g s)->(p.n<=t.oth s->0<=kP t s)->MinO p t (.tuple #[.int .i64 s,.bool false])
theorem yn (C:Mem)(U:Tabs C)(p:Lp.Sys)(F:Nat->Rat)(b:Nat)(a:Lp.Tab)(e k l o:Value)(v:Nat->Value)(q:Lp.Inv p F a)(d:Lp.Rel p.n a p.n)(A:a.Feas p.n)(V:Lp.Lim p F 20)(hm:p.m<=1000000)(hn:p.n<=1000000) :
  Jog.Fn cx.P 140 [.pointer (some ⟨b,0,none⟩)] C ((eY b p.n a e k l o v).map Lent.ent) fun u _ w=>∃ t wF,Lp.Inv p F t/\t.Feas p.n/\MinO p t u/\w=(eY b p.n t e k l o wF).map Lent.ent:=by
 have aw:maxLen<=9223372036854775807:=by simp [maxLen]
 refine S4 func140 32 U3 fun w0=>?_;refine SX fun R d=>?_;refine Tf U6 (fun b1=>?_);refine C6 2 [1] d Z ?_;clear d R;refine G.freeze 0 Z (fun _ _ B=>?_);refine Tc (L':=[.obj b (.cells ⟨[.int .i64 p.n,e,k,l,af (qtx a.worth.c),o]⟩ 231 (0,0)),.arr e 3 1 a.basic.length ((a.basic).map aT).flatten,.arr k 228 2 a.basic.length ((cN a v).map bE).flatten,.arr l 3 1 a.others.length ((a.others).map aT).flatten,.arr o 32 1 a.others.length ((a.worth.f).map aP).flatten]++(List.range a.basic.length).map (stE a v 0 0 0)) (by rw [aZ 0 0];rfl) ?_;refine Tk [(5,3)] Z (fun R d=>?_);refine SU (bkT B 1) U8 ?_;refine SZ 2 Z ?_;refine S1 ag U9 ?_;refine SV U6 ?_;refine D.call (FT q.tab.ok (Mem.get B mup)) Z (.inr dc_) U6 (show List.Perm _ (((eY b p.n a e k l o v).map Lent.ent)++[]) from List.Perm.of_eq (by rw [PF,aZ 0 0])) fl_ (fun ax _ ay _ ah=>?_);refine C6 1 [1,2] d Z ?_;clear d R;obtain ⟨⟨W,rfl,X⟩,rfl⟩:=ah;refine Tc (L':=[.obj b (.cells ⟨[.int .i64 p.n,e,k,l,af (qtx a.worth.c),o]⟩ 231 (0,0)),.arr e 3 1 a.basic.length ((a.basic).map aT).flatten,.arr k 228 2 a.basic.length ((cN a v).map bE).flatten,.arr l 3 1 a.others.length ((a.others).map aT).flatten,.arr o 32 1 a.others.length ((a.worth.f).map aP).flatten]++(List.range a.basic.length).map (stE a v 0 0 0)) (by rw [PF,aZ 0 0]) ?_;refine SR 2 [1,2,12] Z ?_;refine G.cd (fun H=>?_) fun H=>?_
 ·have y:¬ W<0:=by
   have:=OD H;omega
  obtain ⟨s,rfl,hs,⟨I,Y⟩,_⟩:=gY X y;have ai:kP a s*a.worth.g s<0:=by
   unfold kP;split <;> grind
  refine SR 3 [2,3] Z ?_;refine S7 (Tp U3 ?_);refine ⟨a,v,q,A,.no s hs ai (fun i z x=>?_) (fun h=>absurd h I),by rw [aZ 0 0]⟩;rw [d s (by rw [<- q.tab.lo];exact hs) hs om_ i z x,Rat.mul_zero];exact Rat.le_refl
 have y:W<0:=by
  have:=Pj H;omega
 have E:=gZ X y;have aj:Lp.RelW p.n a:=fun s hs az=>by
  have:=E s hs;have h2:¬ p.n<=a.oth s:=by omega
  grind
 refine G.loop (fun fr C' w μ=>∃ (t:Lp.Tab)(wF:Nat->Value)(J:Nat),(Lp.Inv p F t/\Lp.Rel p.n t p.n/\t.Feas p.n/\Lp.RelW p.n t/\∀ K,Lp.Reach (Lp.MinP p.n) t K->K<=J)/\fr=[(1,[],.pointer (some ⟨b1,0,none⟩))]/\w=[.obj b (.cells ⟨[.int .i64 p.n,e,k,l,af (qtx t.worth.c),o]⟩ 231 (0,0)),.arr e 3 1 t.basic.length ((t.basic).map aT).flatten,.arr k 228 2 t.basic.length ((cN t wF).map bE).flatten,.arr l 3 1 t.others.length ((t.others).map aT).flatten,.arr o 32 1 t.others.length ((t.worth.f).map aP).flatten]++(List.range t.basic.length).map (stE t wF 0 0 0)/\μ=J) (hn_ [1] Z) ⟨a,v,2 ^ (p.n+p.m),⟨q,d,A,aj,fun K L=>Lp.min_len q.tab.ok L⟩,Z,Z,Z⟩ (fun fr aA aB m _ q=>?_);obtain ⟨t,wF,J,⟨q,d,A,hW,L⟩,rfl,rfl,rfl⟩:=q;have ok:=q.tab.ok;have ak:t.basic.length<=1000000:=by rw [q.tab.lb];exact hm
 have al:t.others.length<=1000000:=by rw [q.tab.lo];exact hn
 have hq:∀ i,i<t.basic.length->LineQ 20 (t.line i):=fun i z=>tQ q V z;have aa:=ol q V;refine Tk [(5,3)] Z (fun R d=>?_);refine SU (bkT B 1) U8 ?_;refine SZ 2 Z ?_;refine S1 ag U9 ?_;refine SV U6 ?_;refine D.call (FS ok (Mem.get B mup) aa) Z (.inr dc_) U6 (show List.Perm _ (((eY b p.n t e k l o wF).map Lent.ent)++[]) from List.Perm.of_eq (by rw [PF,aZ 0 0])) fl_ (fun aC _ aD _ am=>?_);refine C6 1 [1,2] d Z ?_;clear d R;obtain ⟨⟨o1,rfl,ab⟩,rfl⟩:=am;refine Tc (L':=[.obj b (.cells ⟨[.int .i64 p.n,e,k,l,af (qtx t.worth.c),o]⟩ 231 (0,0)),.arr e 3 1 t.basic.length ((t.basic).map aT).flatten,.arr k 228 2 t.basic.length ((cN t wF).map bE).flatten,.arr l 3 1 t.others.length ((t.others).map aT).flatten,.arr o 32 1 t.others.length ((t.worth.f).map aP).flatten]++(List.range t.basic.length).map (stE t wF 0 0 0)) (by rw [PF,aZ 0 0]) ?_;refine SR 2 [1,2,21] Z ?_;refine G.cd (fun M=>?_) fun M=>?_
 ·have y:o1<0:=OD M;have E:=gZ ab y;refine SR 2 [2,3] Z ?_;refine S7 (Tp U3 ?_);exact ⟨t,wF,q,A,.yes hW (fun s hs x=>by have:=E s hs;grind),by rw [aZ 0 0]⟩
 have y:¬ o1<0:=Pj M;obtain ⟨s,rfl,hs,⟨I,Y⟩,an⟩:=gY ab y;refine Tk [(2,3)] Z (fun R d=>?_);refine SU (bkT B 1) U8 ?_;refine SV U6 ?_;refine D.call (FR U.m_ ok hs hq) Z (.inr dc_) U6 (show List.Perm _ (((eY b p.n t e k l o wF).map Lent.ent)++[]) from List.Perm.of_eq (by rw [PF,aZ 0 0])) fl_ (fun aE _ aG _ ao=>?_);refine C6 1 [1,2,4] d Z ?_;clear d R;obtain ⟨⟨o2,rfl,ac⟩,rfl⟩:=ao;refine Tc (L':=[.obj b (.cells ⟨[.int .i64 p.n,e,k,l,af (qtx t.worth.c),o]⟩ 231 (0,0)),.arr e 3 1 t.basic.length ((t.basic).map aT).flatten,.arr k 228 2 t.basic.length ((cN t wF).map bE).flatten,.arr l 3 1 t.others.length ((t.others).map aT).flatten,.arr o 32 1 t.others.length ((t.worth.f).map aP).flatten]++(List.range t.basic.length).map (stE t wF 0 0 0)) (by rw [PF,aZ 0 0]) ?_;refine SR 2 [1,2,4,26] Z ?_;refine G.cd (fun N=>?_) fun N=>?_
 ·have O:o2<0:=OD N;have E:=yt ac O;have Q:kP t s=1:=by
   unfold kP;rw [aF (by grind)]
  refine SR 3 [2,3] Z ?_;refine S7 (Tp U3 ?_);refine ⟨t,wF,q,A,.no s hs (by rw [Q];grind) (fun i z x=>?_) (fun _=>by rw [Q];decide),by rw [aZ 0 0]⟩;rw [Q];have:=E i z x;grind
 have O:¬ o2<0:=Pj N;obtain ⟨r,rfl,hr,S,ap,aq⟩:=yr ac O;have hP:Lp.MinP p.n t r s:=⟨hr,hs,S,I,Y,fun j hj x hg=>an j hj ⟨x,hg⟩,ap,aq,A⟩;have ad:(t.line r).g s≠0:=by grind
 obtain ⟨aH,ar⟩:=Lp.Reach.fall hP L;refine Tk [(3,3)] Z (fun R d=>?_);refine SU (bkT B 1) U8 ?_;refine SZ 2 Z ?_;refine D.call (tG _ U.m_ b p.n r s (p.n+p.m) t e k l o wF ok ak al hr hs ad hq aa) Z (.inr dc_) U6 (show List.Perm _ (((eY b p.n t e k l o wF).map Lent.ent)++[]) from List.Perm.of_eq (by rw [PF,aZ 0 0])) fl_ (fun aI _ aJ _ au=>?_);refine SY [1] d Z ?_;clear d R;obtain ⟨-,T,rfl⟩:=au;refine Tc (L':=[.obj b (.cells ⟨[.int .i64 p.n,e,k,l,af (qtx (t.pivot r s).worth.c),o]⟩ 231 (0,0)),.arr e 3 1 (t.pivot r s).basic.length (((t.pivot r s).basic).map aT).flatten,.arr k 228 2 (t.pivot r s).basic.length ((cN (t.pivot r s) T).map bE).flatten,.arr l 3 1 (t.pivot r s).others.length (((t.pivot r s).others).map aT).flatten,.arr o 32 1 (t.pivot r s).others.length (((t.pivot r s).worth.f).map aP).flatten]++(List.range (t.pivot r s).basic.length).map (stE (t.pivot r s) T 0 0 0)) (by rw [PF,aZ 0 0]) ?_;refine S6 (m':=m-1) om_ mup (hn_ [1] Z) ⟨t.pivot r s,T,m-1,⟨q.pivot hr hs ad,Lp.rel_pivot ok d hr hs S,Lp.min_feas ok hP,Lp.relw_pivot ok (fun s' ae av i z x=>d s' (by rw [<- q.tab.lo];exact ae) ae av i z x) hW hr hs S,ar⟩,Z,Z,Z⟩
theorem Of (C:Mem)(v:Value)(l:List Nat)(b:Sl C 1 v (l.map aT))(t:l.length<=1000000):Jog.Fn cx.P 200 [v] C [] fun u _w e=>∃ A n c,u=.slice A n c/\e=[.arr (.slice A n c) 3 1 l.length (l.map aT).flatten]:=by
 obtain ⟨f,c0,rfl,m,x,y,o⟩:=id b;have z:maxLen<=9223372036854775807:=by simp [maxLen]
 simp only [al] at b m ⊢;refine S4 func200 8 U3 fun w0=>SR 1 [0] Z<|SS 1 Z fun R d=>Uo U9<|SY [0,4] d Z<|G.cd (fun h4=>?_) fun h4=>?_
 ·have p:f=none:=by
   cases f with
   | none=>rfl
   | some a=>cases h4
  have s:l=[]:=by
   cases l with
   | nil=>rfl
   | cons q r =>
    obtain ⟨a,g,_⟩:=o 0 (aT q) rfl;rw [p] at g;cases g
  refine SR 1 [2] Z<|G.nilArr 3 1<|S7 (Tx Z Z ?_);exact ⟨none,0,0,Z,by rw [s];rfl⟩
 refine SX fun R d=>TY [] U12 fl_ fun B=>SV U6<|Tq (j:=0) U11 b.m_ (by simp [aT,na]) (by simp only [al,PV,maxLen];omega) (by simp only [al,PV];omega) fl_ fun h i k=>C6 1 [2] d Z<|Tc (L':=[.arr (.slice h i k) 3 1 l.length (l.map aT).flatten]) am<|S7 (Tx Z Z ?_);exact ⟨h,i,k,Z,Z⟩
theorem Lu (C:Mem)(b s:Nat)(q:Rat)(w:Value)(l:List Rat)(c:Sl C 1 w (l.map aP))(d:C b=some (.cells ⟨[.int .i64 s]⟩ 3 (0,0)))(e:s<l.length) :
  Gives cx.P 202 [.agg ⟨[af (qtx q),w]⟩,.pointer (some ⟨b,0,none⟩)] C (.bool (!decide (l.getD s 0=0))):=by
 obtain ⟨h,i,rfl,j,k,_⟩:=id c;have m:maxLen<=9223372036854775807:=by simp [maxLen]
 refine S4 func202 10 U3 fun w0=>SX fun R a=>Tf U6 fun n=>C6 1 [1,2] a Z<|G.freeze 0 Z fun _ _ f=>SS 1 Z fun R a=>SU (bkT f 1) U8<|SU (bkT d 1) U8<|Ta c.m_ U10 om_ (dJ e) fl_ fun o g=>SU g U8<|C6 2 [3] a Z<|S3 U2<|⟨?_,Z⟩;show Value.bool _=Value.bool _;congr 1;show (!((⟨(qtx (l.getD s 0)).toArray⟩:ByteArray).data.toList == (⟨#[48]⟩:ByteArray).data.toList))=_;rw [fe]
theorem Lt (C:Mem)(b s:Nat)(q:Rat)(w:Value)(l:List Rat)(c:Sl C 1 w (l.map aP))(d:C b=some (.cells ⟨[.int .i64 s]⟩ 3 (0,0)))(e:s<l.length) :
  Gives cx.P 204 [.agg ⟨[af (qtx q),w]⟩,.pointer (some ⟨b,0,none⟩)] C (.bool (!decide (l.getD s 0=0))):=by
 obtain ⟨h,i,rfl,j,k,_⟩:=id c;have m:maxLen<=9223372036854775807:=by simp [maxLen]
 refine S4 func204 10 U3 fun w0=>SX fun R a=>Tf U6 fun n=>C6 1 [1,2] a Z<|G.freeze 0 Z fun _ _ f=>SS 1 Z fun R a=>SU (bkT f 1) U8<|SU (bkT d 1) U8<|Ta c.m_ U10 om_ (dJ e) fl_ fun o g=>SU g U8<|C6 2 [3] a Z<|S3 U2<|⟨?_,Z⟩;show Value.bool _=Value.bool _;congr 1;show (!((⟨(qtx (l.getD s 0)).toArray⟩:ByteArray).data.toList == (⟨#[48]⟩:ByteArray).data.toList))=_;rw [fe]
inductive FirstR (q:Nat->Prop) (n:Nat):Int->Prop where
 | none:(∀ i,i<n->¬ q i)->FirstR q n (-1)
 | some (r:Nat):r<n->q r->(∀ i,i<r->¬ q i)->FirstR q n r
theorem FO (C:Mem)(v:Value)(a:List (Rat × Value))(g:Nat)(c:List Value)(q:Nat->Prop)[DecidablePred q](d:Sl C 2 v (a.map bE))(_E:Jog.Enters cx.P g=true)
  (p:∀ i x,a[i]?=some x->∀ D:Mem,C.le D->Gives cx.P g (.agg ⟨bE x⟩::c) D (.bool (decide (q i)))) :
  Pur cx.P 201 [v,.func (.func g) #[] ⟨c⟩] C fun u _=>∃ o:Int,u=.int .i64 o/\FirstR q a.length o:=by
 obtain ⟨r,c0,rfl,s,F,_⟩:=id d;have H:maxLen<=9223372036854775807:=by simp [maxLen]
 simp only [al] at d s ⊢;refine S4 func201 19 U3 fun w0=>SR 1 [0,1] Z<|SR 3 [0,1,7,8] Z<|G.loop (fun fr I t w=>∃ (i:Nat),(i<=a.length/\∀ j,j<i->¬ q j)/\fr=[(0,[],.slice r a.length c0),(1,[],.func (.func g) #[] ⟨c⟩),(7,[],.int .i64 a.length),(8,[],.int .i64 i)]/\t=[]/\w=a.length-i) (hn_ [0,1,7,8] Z) ⟨0,⟨Pm _,fun j e=>absurd e (Nat.not_lt_zero _)⟩,Z,Z,Z⟩ (fun fr J K m _ y=>?_);obtain ⟨i,⟨L,f⟩,rfl,rfl,rfl⟩:=y;refine SR 1 [0,1,7,8,9] Z<|G.cd (fun h=>?_) fun h=>?_
 ·have b:i<a.length:=by simpa using h
  obtain ⟨x,n⟩:∃ x,a[i]?=some x:=⟨a[i],ak b⟩;refine SR 2 [0,1,5,7,8] Z<|SS 3 Z fun R k=>Ta d.m_ U10 om_ (show (a.map bE)[i]?=some [af (qtx x.1),x.2] from kA n) fl_ fun M z=>SU z U8<|S8 (p i x n _ mup) U7<|SY [0,1,5,7,8,16] k Z<|G.cd (fun l=>?_) fun l=>?_
  ·have A:q i:=OD l;exact SR 2 [4] Z<|S3 U2<|⟨Z,(i:Int),Z,.some i b A f⟩
  have B:¬ q i:=Pj l;refine SX fun R k=>S2 _ Z U6<|C6 1 [0,1,7,8] k Z<|S6 (m':=a.length-(i+1)) om_ mup (hn_ [0,1,7,8] Z) ⟨i+1,⟨by omega,fun j e=>by
   rcases Nat.lt_or_eq_of_le (Nat.le_of_lt_succ e) with h1 | h1
   ·exact f j h1
   rw [h1];exact B⟩,rfl,rfl,rfl⟩
 have b:i=a.length:=by
  have:¬ i<a.length:=by simpa using h
  omega
 exact SR 1 [4] Z<|S3 U2<|⟨Z, -1,Z,.none (by rw [<- b];exact f)⟩
theorem El (C:Mem)(b n v:Nat)(a:List Value)(c:C b=some (.cells ⟨.int .i64 n::a⟩ 231 (0,0))) :
  Gives cx.P 203 [.pointer (some ⟨b,0,none⟩),.int .i64 v] C (.bool (decide (n<=v))):=by
 refine S4 func203 11 U3 fun w0=>SR 1 [0,1] Z<|SS 4 Z fun R d=>SU (bkT c 1) U8<|C6 2 [4] d Z<|S3 U2<|⟨?_,Z⟩;congr 1;rw [Qb];omega
theorem oH (C:Mem)(b n v:Nat)(a:List Value):Jog.Fn cx.P 203 [.pointer (some ⟨b,0,none⟩),.int .i64 v] C [.obj b (.cells ⟨.int .i64 n::a⟩ 231 (0,0))]
   fun u _ d=>u=.bool (decide (n<=v))/\d=[.obj b (.cells ⟨.int .i64 n::a⟩ 231 (0,0))]:=by
 have h:=Ua (P:=cx.P) (f:=203) (args:=[.pointer (some ⟨b,0,none⟩),.int .i64 v]) (C:=C) (q:=fun u=>u=.bool (decide (n<=v))) kr_ [.obj b (.int .i64 n::a) 231] (fun x c=>by
  rcases Ps.1 c with rfl | c
  ·trivial
  cases c) fun e g hs=>(El e b n v a (hs _ (Ph ..))).mono fun u _ i _ ⟨h1,h2⟩=>⟨h2,h1⟩
 exact h
theorem oz {C:Mem}(h:∀ x∈eY b n t wB wL wO wW wF,x.seen C):Sl C 1 wO (t.others.map aT)/\Sl C 2 wL ((cN t wF).map bE)/\∀ i,i<t.basic.length->Sl C 1 (wF i) ((t.line i).f.map aP) :=
 ⟨h _ (Pr _ (Pr _ (Pr _ (Ph ..)))),h _ (Pr _ (Pr _ (Ph ..))),fun i a =>
  h (J9 t wF i) (Pr _ (Pr _ (Pr _ (Pr _ (Pr _ (Pn.2 ⟨i,PC.2 a,rfl⟩))))))⟩
section
variable {C:Mem} {a2 b n N s:Nat} {t:Lp.Tab} {wB wO wW:Value} {wF:Nat->Value}
theorem Oe {d:Value}(i:t.Ok N)(j:t.others.length<=1000000):Jog.Fn cx.P 200 [wO] C ((eY b n t wB d wO wW wF).map Lent.ent)
   fun u _ a=>∃ A n2 c,u=.slice A n2 c/\a=.arr (.slice A n2 c) 3 1 t.others.length (t.others.map aT).flatten::(eY b n t wB d wO wW wF).map Lent.ent:=by
 have h:=Uq (P:=cx.P) (f:=200) (args:=[wO]) (L:=[]) (C:=C) (post:=fun u a=>∃ A n2 c,u=.slice A n2 c/\a=[.arr (.slice A n2 c) 3 1 t.others.length (t.others.map aT).flatten]) kr_ (eY b n t wB d wO wW wF) (fV i) fun g o hs=>Of g wO t.others (oz hs).1 j;rw [PF] at h;refine ⟨h.1,fun w k=>(h.2 w k).mono ?_⟩;rintro e w' ⟨v,g,a,l,m,p,rfl,A,n2,c,rfl,rfl⟩;exact ⟨_,g,_,l,St.perm m (List.perm_append_singleton _ _),A,n2,c,Z,Z⟩
theorem Mj {a:Value}(h:t.Ok N)(l:C a2=some (.cells ⟨[.int .i64 s]⟩ 3 (0,0)))(m:s<t.others.length) :
  Jog.Fn cx.P 201 [a,.func (.func 202) #[] #[.pointer (some ⟨a2,0,none⟩)]] C ((eY b n t wB a wO wW wF).map Lent.ent)
   fun u _ j=>(∃ o:Int,u=.int .i64 o/\FirstR (fun i=>¬ (t.line i).g s=0) t.basic.length o)/\j=(eY b n t wB a wO wW wF).map Lent.ent:=by
 refine Ua kr_ _ (fV h) fun p q r=>?_;obtain ⟨_,v,w⟩:=oz r;refine (FO p a (cN t wF) 202 [.pointer (some ⟨a2,0,none⟩)] (fun i=>¬ (t.line i).g s=0) v kr_ fun i x d D k=>?_).mono ?_
 ·have e:i<t.basic.length:=by rw [<- fC (wF:=wF)];exact (aJ.1 d).1
  rw [nI e] at d;cases d
  rw [decide_not];exact Lu D a2 s (t.line i).c (wF i) (t.line i).f ((w i e).mono k) ((q.trans k) _ _ l) (by rw [gW h e];exact m)
 rintro u D j _ ⟨h1,o,rfl,h2⟩;rw [fC] at h2;exact ⟨h1,o,Z,h2⟩
theorem Mi {A:Option Addr}{c r M:Nat}(v:t.basic.length=M)(j:t.Ok N)(w:C a2=some (.cells ⟨[.int .i64 s]⟩ 3 (0,0)))(y:s<t.others.length)(J:r<t.basic.length)(z:M<=c) :
  Jog.Fn cx.P 201 [.slice (if c=r+1 then A else A.map (·.add ((r+1)*2))) (M-(r+1)) (c-(r+1)),.func (.func 204) #[] #[.pointer (some ⟨a2,0,none⟩)]] C ((eY b n t wB (.slice A M c) wO wW wF).map Lent.ent)
   fun u _ k=>(∃ o:Int,u=.int .i64 o/\FirstR (fun i=>¬ (t.line (r+1+i)).g s=0) (t.basic.length-(r+1)) o)/\k=(eY b n t wB (.slice A M c) wO wW wF).map Lent.ent:=by
 subst v;refine Ua kr_ _ (fV j) fun B E F=>?_;obtain ⟨_,G,H⟩:=oz F;have p:=Sl.sub (l:=r+1) (h:=t.basic.length) (m:=c) G om_ (by rw [al,fC];exact Pf _) z (Pf _);have e:((cN t wF).map bE).take t.basic.length=(cN t wF).map bE:=PZ (by rw [al,fC];exact Pf _);rw [e,<- List.map_drop] at p;have I:((cN t wF).drop (r+1)).length=t.basic.length-(r+1):=by rw [Rj,fC]
 refine (FO B _ ((cN t wF).drop (r+1)) 204 [.pointer (some ⟨a2,0,none⟩)] (fun i=>¬ (t.line (r+1+i)).g s=0) p kr_ fun i x a D q=>?_).mono ?_
 ·have d:r+1+i<t.basic.length:=by have:=(aJ.1 a).1;omega
  rw [List.getElem?_drop,nI d] at a;cases a
  rw [decide_not];exact Lt D a2 s (t.line (r+1+i)).c (wF (r+1+i)) (t.line (r+1+i)).f ((H _ d).mono q) ((E.trans q) _ _ w) (by rw [gW j d];exact y)
 rintro u D k _ ⟨h1,o,rfl,h2⟩;rw [I] at h2;exact ⟨h1,o,Z,h2⟩
end
def Pc (p:Lp.Sys)(t:Lp.Tab)(s:Nat)(o:Int):Prop:=(o=-1/\∀ i,i<t.basic.length->p.n<=t.bas i->(t.line i).g s=0)∨∃ r:Nat,o=r/\r<t.basic.length/\¬ (t.line r).g s=0/\∀ i,i<r->p.n<=t.bas i->(t.line i).g s=0
theorem yG (h:FirstR q n o)(a:o<0):∀ i,i<n->¬ q i:=by
 cases h with
 | none h=>exact h
 | some r _ _ _=>omega
theorem yF (h:FirstR q n o)(a:¬ o<0):∃ r:Nat,o=r/\r<n/\q r/\∀ i,i<r->¬ q i:=by
 cases h with
 | none h=>exact absurd dc_ a
 | some r h1 h2 h3=>exact ⟨r,rfl,h1,h2,h3⟩
theorem Ce (h:FirstR (fun i=>¬ (t.line i).g s=0) t.basic.length o):Pc p t s o:=by
 cases h with
 | none h=>exact .inl ⟨rfl,fun i a _=>Decidable.not_not.1 (h i a)⟩
 | some r h1 h2 h3=>exact .inr ⟨r,rfl,h1,h2,fun i a _=>Decidable.not_not.1 (h3 i a)⟩
theorem CB (C:Mem)(hT:Tabs C)(p:Lp.Sys)(M:Nat->Rat)(b:Nat)(a:Lp.Tab)(N O e l:Value)(A:Nat->Value)(q:Lp.Inv p M a)(ho:a.others=List.range p.n)(hl:Lp.Lim p M 20)(hm:p.m<=1000000)(hn:p.n<=1000000) :
  Jog.Fn cx.P 137 [.pointer (some ⟨b,0,none⟩)] C ((eY b p.n a N O e l A).map Lent.ent) fun u _ z=>u=.tuple #[]/\∃ t wF,Lp.Inv p M t/\Lp.Rel p.n t p.n/\z=(eY b p.n t N O e l wF).map Lent.ent:=by
 have aM:maxLen<=9223372036854775807:=by simp [maxLen]
 have au:a.others.length=p.n:=q.tab.lo;refine S4 func137 65 U3 fun w0=>?_;refine Tc (L':=[.obj b (.cells ⟨[.int .i64 p.n,N,O,e,af (qtx a.worth.c),l]⟩ 231 (0,0)),.arr N 3 1 a.basic.length ((a.basic).map aT).flatten,.arr O 228 2 a.basic.length ((cN a A).map bE).flatten,.arr e 3 1 a.others.length ((a.others).map aT).flatten,.arr l 32 1 a.others.length ((a.worth.f).map aP).flatten]++(List.range a.basic.length).map (stE a A 0 0 0)) (by rw [aZ 0 0]) ?_;refine UW 1 Z (fun w y I S av _=>?_);rw [q.tab.lb] at I S av;subst I;refine UW 2 Z (fun AL x I _ T _=>?_);rw [q.tab.lb] at I T;subst I;refine Tc (L':=[.obj b (.cells ⟨[.int .i64 p.n,(.slice w p.m y),(.slice AL p.m x),e,af (qtx a.worth.c),l]⟩ 231 (0,0)),.arr (.slice w p.m y) 3 1 a.basic.length ((a.basic).map aT).flatten,.arr (.slice AL p.m x) 228 2 a.basic.length ((cN a A).map bE).flatten,.arr e 3 1 a.others.length ((a.others).map aT).flatten,.arr l 32 1 a.others.length ((a.worth.f).map aP).flatten]++(List.range a.basic.length).map (stE a A 0 0 0)) Z ?_;refine Tk [(4,3)] Z (fun R d=>?_);refine SZ 3 Z ?_;refine S1 ag U9 ?_;refine D.call (Oe q.tab.ok om_) Z (.inr dc_) U6 (show List.Perm _ (((eY b p.n a (.slice w p.m y) (.slice AL p.m x) e l A).map Lent.ent)++[]) from List.Perm.of_eq (by rw [PF,aZ 0 0] <;> rfl)) fl_ (fun aN aw aO _ ax=>?_);obtain ⟨Ac,n2,c2,rfl,rfl⟩:=ax;refine C6 2 [0,10,11,12] d Z ?_;clear d R;refine G.freezeArr 0 (a.others.map aT) U2 uh am (fun aw _ ao=>?_);have ay:n2=p.n:=by
  obtain ⟨A9,c9,az,_⟩:=id ao;injection az with e1 e2 e3;rw [e2,al,au]
 subst ay;refine Tc (L':=[.obj b (.cells ⟨[.int .i64 p.n,(.slice w p.m y),(.slice AL p.m x),e,af (qtx a.worth.c),l]⟩ 231 (0,0)),.arr (.slice w p.m y) 3 1 a.basic.length ((a.basic).map aT).flatten,.arr (.slice AL p.m x) 228 2 a.basic.length ((cN a A).map bE).flatten,.arr e 3 1 a.others.length ((a.others).map aT).flatten,.arr l 32 1 a.others.length ((a.worth.f).map aP).flatten]++(List.range a.basic.length).map (stE a A 0 0 0)) (by rw [aZ 0 0,PF];rfl) ?_;refine G.loop (fun fr C' z U=>∃ (k:Nat)(t:Lp.Tab)(wF:Nat->Value),(k<=p.n/\Lp.Inv p M t/\Lp.Rel p.n t k)/\fr=[(0,[],.pointer (some ⟨b,0,none⟩)),(10,[],.slice Ac p.n c2),(11,[],.int .i64 p.n),(12,[],.int .i64 k)]/\z=[.obj b (.cells ⟨[.int .i64 p.n,(.slice w p.m y),(.slice AL p.m x),e,af (qtx t.worth.c),l]⟩ 231 (0,0)),.arr (.slice w p.m y) 3 1 t.basic.length ((t.basic).map aT).flatten,.arr (.slice AL p.m x) 228 2 t.basic.length ((cN t wF).map bE).flatten,.arr e 3 1 t.others.length ((t.others).map aT).flatten,.arr l 32 1 t.others.length ((t.worth.f).map aP).flatten]++(List.range t.basic.length).map (stE t wF 0 0 0)/\U=p.n-k) (hn_ [0,10,11,12] Z) ⟨0,a,A,⟨Pm _,q,fun s hs=>absurd hs (Nat.not_lt_zero _)⟩,Z,Z,Z⟩ (fun fr aQ aR m _ q=>?_);obtain ⟨k,t,wF,⟨hk,q,d⟩,rfl,rfl,rfl⟩:=q;refine SR 1 [0,10,11,12,13] Z ?_;refine G.cd (fun V=>?_) fun V=>?_
 ·have ap:k<p.n:=by
   have:=OD V;omega
  have ok:=q.tab.ok;have aA:=q.tab.lb;have aB:t.basic.length<=1000000:=by rw [q.tab.lb];exact hm
  have aC:t.others.length<=1000000:=by rw [q.tab.lo];exact hn
  have hq:∀ i,i<t.basic.length->LineQ 20 (t.line i):=fun i W=>tQ q hl W;have J:k<t.others.length:=by rw [q.tab.lo];exact ap
  refine SS 1 Z fun R d=>?_;refine Ta ao.m_ U10 om_ (show (a.others.map aT)[k]?=some (aT k) from tL (by rw [ho,PX ap])) fl_ (fun aS aD=>?_);refine SU aD U8 ?_;refine Te U5 (fun b2=>?_);refine S5 (j:=0) U12 ?_;refine C6 1 [0,2,3,10,11,12] d Z ?_;clear d R;refine G.freeze 0 Z (fun _ _ X=>?_);refine Tk [(5,3)] Z (fun R d=>?_);refine SZ 3 Z ?_;refine S1 ag U9 ?_;refine SV U6 ?_;refine D.call (Mj ok (Mem.get X mup) J) Z (.inr dc_) U6 (show List.Perm _ (((eY b p.n t (.slice w p.m y) (.slice AL p.m x) e l wF).map Lent.ent)++[]) from List.Perm.of_eq (by rw [PF,aZ 0 0] <;> rfl)) fl_ (fun aU _ aV _ aE=>?_);refine C6 1 [0,2,3,4,10,11,12] d Z ?_;clear d R;obtain ⟨⟨o0,rfl,aF⟩,rfl⟩:=aE;refine Tc (L':=[.obj b (.cells ⟨[.int .i64 p.n,(.slice w p.m y),(.slice AL p.m x),e,af (qtx t.worth.c),l]⟩ 231 (0,0)),.arr (.slice w p.m y) 3 1 t.basic.length ((t.basic).map aT).flatten,.arr (.slice AL p.m x) 228 2 t.basic.length ((cN t wF).map bE).flatten,.arr e 3 1 t.others.length ((t.others).map aT).flatten,.arr l 32 1 t.others.length ((t.worth.f).map aP).flatten]++(List.range t.basic.length).map (stE t wF 0 0 0)) (by rw [PF,aZ 0 0]) ?_;refine G.loop (fun fr C' z U=>∃ (o:Int),(Pc p t k o)/\fr=[(0,[],.pointer (some ⟨b,0,none⟩)),(2,[],.pointer (some ⟨b2,0,none⟩)),(3,[],.int .i64 k),(4,[],.int .i64 o),(10,[],.slice Ac p.n c2),(11,[],.int .i64 p.n),(12,[],.int .i64 k)]/\z=[.obj b (.cells ⟨[.int .i64 p.n,(.slice w p.m y),(.slice AL p.m x),e,af (qtx t.worth.c),l]⟩ 231 (0,0)),.arr (.slice w p.m y) 3 1 t.basic.length ((t.basic).map aT).flatten,.arr (.slice AL p.m x) 228 2 t.basic.length ((cN t wF).map bE).flatten,.arr e 3 1 t.others.length ((t.others).map aT).flatten,.arr l 32 1 t.others.length ((t.worth.f).map aP).flatten]++(List.range t.basic.length).map (stE t wF 0 0 0)/\U=t.basic.length-o.toNat) (hn_ [0,2,3,4,10,11,12] Z) ⟨o0,Ce aF,Z,Z,Z⟩ (fun fr aW aX m _ q=>?_);obtain ⟨o,K,rfl,rfl,rfl⟩:=q;refine SS 7 Z fun R d=>?_;refine S1 ag U9 ?_;refine SV U6 ?_;refine Vj (w.getD ⟨0,0,none⟩).block (o.toNat*1) Z Z Z Z Z Z Z Z Z Z (fun Y=>by
   have h:decide (o ≥ 0)=true:=Y.1;have h2:=OD h;obtain ⟨r,L,B,_⟩:=K.resolve_left om_;exact ⟨S om_,by omega,by omega,Z⟩) Z Z ?_
  refine Vf (v:=.int .i64 (t.bas o.toNat)) ae Z Z Z Z Z Z (fun Y=>by
   have h:decide (o ≥ 0)=true:=Y.1;have h2:=OD h;obtain ⟨r,L,B,_⟩:=K.resolve_left om_;refine ⟨S om_, ?_⟩;rw [er fp (show t.basic[o.toNat]?=some (t.bas o.toNat) from yl om_)];rfl) rfl rfl ?_
  refine Uy ag (fun _=>oH _ b p.n (t.bas o.toNat) _) U9 ?_;refine SV U6 ?_;refine Tl U8 ?_;refine SY [0,2,3,4,10,11,12,36] d Z ?_;clear d R;refine G.cd (fun aa=>?_) fun aa=>?_
  ·have Q:o ≥ 0/\¬ p.n<=t.bas o.toNat:=by simpa using aa
   obtain ⟨a0,ab⟩:=Q;obtain ⟨r,L,B,ac,ad⟩:=K.resolve_left om_;subst L;rw [Rc] at ab;refine Tk [(8,3)] Z (fun R d=>?_);refine SZ 3 Z ?_;refine S1 ag U9 ?_;refine SV U6 ?_;refine S2 _ Z U6 ?_;refine TO (r+1) p.m x U12 (fun _=>⟨.inr ⟨_,Z⟩,.inl ⟨Z,Z⟩,.inl ⟨Z,Z⟩,by omega,T,Pf _⟩) U2 ?_;refine SV U6 ?_;refine D.call (Mi aA ok (Mem.get X mup) J B T) Z (.inr dc_) U6 (show List.Perm _ (((eY b p.n t (.slice w p.m y) (.slice AL p.m x) e l wF).map Lent.ent)++[]) from List.Perm.of_eq (by rw [PF,aZ 0 0] <;> rfl)) fl_ (fun a1 _ a2 _ aG=>?_);refine C6 1 [0,2,3,4,5,10,11,12] d Z ?_;clear d R;obtain ⟨⟨o2,rfl,aq⟩,rfl⟩:=aG;refine Tc (L':=[.obj b (.cells ⟨[.int .i64 p.n,(.slice w p.m y),(.slice AL p.m x),e,af (qtx t.worth.c),l]⟩ 231 (0,0)),.arr (.slice w p.m y) 3 1 t.basic.length ((t.basic).map aT).flatten,.arr (.slice AL p.m x) 228 2 t.basic.length ((cN t wF).map bE).flatten,.arr e 3 1 t.others.length ((t.others).map aT).flatten,.arr l 32 1 t.others.length ((t.worth.f).map aP).flatten]++(List.range t.basic.length).map (stE t wF 0 0 0)) (by rw [PF,aZ 0 0]) ?_;refine SR 2 [0,2,3,4,5,10,11,12,47] Z ?_;refine G.cd (fun ah=>?_) fun ah=>?_
   ·have ai:o2<0:=OD ah;have hz:∀ i,i<t.basic.length->p.n<=t.bas i->(t.line i).g k=0:=fun i W E=>by
     rcases Nat.lt_trichotomy i r with h1 | h1 | h1
     ·exact ad i h1 E
     ·rw [h1] at E;exact absurd E ab
     have:=yG aq ai (i-(r+1)) om_;rw [show r+1+(i-(r+1))=i by omega] at this;exact Decidable.not_not.1 this
    refine SR 1 [0,2,3,4,10,11,12] Z ?_;refine SS 5 Z fun R d=>?_;refine Uy ag (fun _=>oH _ b p.n k _) U9 ?_;refine SV U6 ?_;refine Tl U8 ?_;refine SY [0,2,4,10,11,12,59] d Z ?_;clear d R;refine G.cd (fun ar=>?_) fun ar=>?_
    ·exact absurd ar am
    refine SX fun R d=>?_;refine S2 _ Z U6 ?_;refine C6 1 [0,10,11,12] d Z ?_;clear d R;refine S6 (m':=p.n-(k+1)) om_ mup (hn_ [0,10,11,12] Z) ⟨k+1,t,wF,⟨by omega,q,Lp.rel_none d hz⟩,Z,Z,Z⟩
   have ai:¬ o2<0:=Pj ah;obtain ⟨F,rfl,a3,aH,aI⟩:=yF aq ai;have aJ:Pc p t k ((r+(1+F):Nat):Int):=.inr ⟨r+(1+F),rfl,by omega,by rw [show r+(1+F)=r+1+F by omega];exact aH,fun i W E=>by
    rcases Nat.lt_trichotomy i r with h1 | h1 | h1
    ·exact ad i h1 E
    ·rw [h1] at E;exact absurd E ab
    have:=aI (i-(r+1)) om_;rw [show r+1+(i-(r+1))=i by omega] at this;exact Decidable.not_not.1 this⟩
   refine SS 2 Z fun R d=>?_;refine S2 _ Z U6 ?_;refine S2 _ Z U6 ?_;refine C6 1 [0,2,3,4,10,11,12] d Z ?_;clear d R;refine S6 (m':=t.basic.length-((r+(1+F):Nat):Int).toNat) om_ mup (hn_ [0,2,3,4,10,11,12] Z) ⟨((r+(1+F):Nat):Int),aJ,Z,Z,Z⟩
  have Q:¬ (o ≥ 0/\¬ p.n<=t.bas o.toNat):=by simpa using aa
  refine SS 5 Z fun R d=>?_;refine Uy ag (fun _=>oH _ b p.n k _) U9 ?_;refine SV U6 ?_;refine Tl U8 ?_;refine SY [0,2,4,10,11,12,59] d Z ?_;clear d R;refine G.cd (fun aj=>?_) fun aj=>?_
  ·have H:0<=o:=by
    have H:(decide (0<=o) && !decide (p.n<=k))=true:=aj;simp only [Pu,Pp] at H;exact H.1
   obtain ⟨r,L,B,ac,ad⟩:=K.resolve_left om_;subst L;rw [Rc] at Q;have aK:p.n<=t.bas r:=by
    apply Decidable.byContradiction;intro h;exact Q ⟨by omega,h⟩
   refine Tk [(3,3)] Z (fun R d=>?_);refine SZ 2 Z ?_;refine SU (bkT X 1) U8 ?_;refine D.call (tG _ hT.m_ b p.n r k (p.n+p.m) t (.slice w p.m y) (.slice AL p.m x) e l wF ok aB aC B J ac hq (ol q hl)) Z (.inr dc_) U6 (show List.Perm _ (((eY b p.n t (.slice w p.m y) (.slice AL p.m x) e l wF).map Lent.ent)++[]) from List.Perm.of_eq (by rw [PF,aZ 0 0] <;> rfl)) fl_ (fun a4 _ a5 _ aL=>?_);refine SY [0,10,11,12] d Z ?_;clear d R;refine SX fun R d=>?_;refine S2 _ Z U6 ?_;refine C6 1 [0,10,11,12] d Z ?_;clear d R;obtain ⟨-,ak,rfl⟩:=aL;refine Tc (L':=[.obj b (.cells ⟨[.int .i64 p.n,(.slice w p.m y),(.slice AL p.m x),e,af (qtx (t.pivot r k).worth.c),l]⟩ 231 (0,0)),.arr (.slice w p.m y) 3 1 (t.pivot r k).basic.length (((t.pivot r k).basic).map aT).flatten,.arr (.slice AL p.m x) 228 2 (t.pivot r k).basic.length ((cN (t.pivot r k) ak).map bE).flatten,.arr e 3 1 (t.pivot r k).others.length (((t.pivot r k).others).map aT).flatten,.arr l 32 1 (t.pivot r k).others.length (((t.pivot r k).worth.f).map aP).flatten]++(List.range (t.pivot r k).basic.length).map (stE (t.pivot r k) ak 0 0 0)) (by rw [PF,aZ 0 0]) ?_;refine S6 (m':=p.n-(k+1)) om_ mup (hn_ [0,10,11,12] Z) ⟨k+1,t.pivot r k,ak,⟨by omega,q.pivot B J ac,Lp.rel_next ok d B J aK⟩,Z,Z,Z⟩
  have H:¬ 0<=o:=by
   have H:(decide (0<=o) && !decide (p.n<=k))=false:=aj;have an:¬ p.n<=k:=by omega
   simpa [an] using H
  have hz:∀ i,i<t.basic.length->p.n<=t.bas i->(t.line i).g k=0:=by
   rcases K with ⟨_,h2⟩ | ⟨r,h1,_⟩
   ·exact h2
   omega
  refine SX fun R d=>?_;refine S2 _ Z U6 ?_;refine C6 1 [0,10,11,12] d Z ?_;clear d R;refine S6 (m':=p.n-(k+1)) om_ mup (hn_ [0,10,11,12] Z) ⟨k+1,t,wF,⟨by omega,q,Lp.rel_none d hz⟩,Z,Z,Z⟩
 have an:k=p.n:=by
  have:=Pj V;omega
 refine Uc Z ?_;exact ⟨Z,t,wF,q,by rw [an] at d;exact d,by rw [aZ 0 0]⟩
theorem xd (C:Mem)(v:Value)(l:List Rat)(b:Sl C 1 v (l.map aP))(t:l.length<=1000000):Jog.Fn cx.P 50 [v] C [] fun u _w e=>∃ A n c,u=.slice A n c/\e=[.arr (.slice A n c) 32 1 l.length (l.map aP).flatten]:=by
 obtain ⟨f,c0,rfl,m,x,y,o⟩:=id b;have z:maxLen<=9223372036854775807:=by simp [maxLen]
 simp only [al] at b m ⊢;refine S4 func50 8 U3 fun w0=>SR 1 [0] Z<|SS 1 Z fun R d=>Uo U9<|SY [0,4] d Z<|G.cd (fun h4=>?_) fun h4=>?_
 ·have p:f=none:=by
   cases f with
   | none=>rfl
   | some a=>cases h4
  have s:l=[]:=by
   cases l with
   | nil=>rfl
   | cons q r =>
    obtain ⟨a,g,_⟩:=o 0 (aP q) rfl;rw [p] at g;cases g
  refine SR 1 [2] Z<|G.nilArr 32 1<|S7 (Tx Z Z ?_);exact ⟨none,0,0,Z,by rw [s];rfl⟩
 refine SX fun R d=>TY [] U12 fl_ fun B=>SV U6<|Tq (j:=0) U11 b.m_ (by simp [aP,na,af]) (by simp only [al,PV,maxLen];omega) (by simp only [al,PV];omega) fl_ fun h i k=>C6 1 [2] d Z<|Tc (L':=[.arr (.slice h i k) 32 1 l.length (l.map aP).flatten]) am<|S7 (Tx Z Z ?_);exact ⟨h,i,k,Z,Z⟩
def ck (n:Nat)(rs:List (List Rat × Rat)):Lp.Sys:=⟨n,rs.length,fun r j=>(rs.getD r ([],0)).1.getD j 0,fun r=>(rs.getD r ([],0)).2⟩
abbrev sA (A:Option Addr)(n c:Nat):Value:=.slice A n c
abbrev sB (A:Option Addr)(n c:Nat):Value:=.slice A n c
abbrev sO (A:Option Addr)(n c:Nat):Value:=.slice A n c
abbrev sW (A:Option Addr)(n c:Nat):Value:=.slice A n c
abbrev sF (A:Option Addr)(n c:Nat):Value:=.slice A n c
def lbF (n i:Nat):List Nat:=(List.range i).map fun q=>n+q
def lvF (rs:List (List Rat × Rat))(wF:Nat->Value)(i:Nat):List (Rat × Value):=(List.range i).map fun q=>((rs.getD q ([],0)).2,wF q)
def opE (n:Nat)(rs:List (List Rat × Rat))(wF:Nat->Value)(q:Nat):Ent:=.arr (wF q) 32 1 n (((List.range n).map fun j=>-(rs.getD q ([],0)).1.getD j 0).map aP).flatten
def HG (wF:Nat->Value)(i:Nat)(w:Value):Nat->Value:=fun q=>if q=i then w else wF q
theorem D4 :HG wF i w i=w:=aL rfl
theorem D3 {q:Nat}(h:q≠i):HG wF i w q=wF q:=aF h
theorem IZ :lbF n (i+1)=lbF n i++[n+i]:=by unfold lbF;rw [Qp,PM];rfl
theorem IS {r:List Rat × Rat}(h:rs.getD i ([],0)=r):lvF rs (HG wF i w) (i+1)=lvF rs wF i++[(r.2,w)]:=by
 unfold lvF;rw [Qp,PM,List.map_singleton,h,D4];congr 1;refine List.map_congr_left fun q a=>?_;rw [D3 (by have:=PC.1 a;omega)]
theorem IH {r:List Rat × Rat}(h:rs.getD i ([],0)=r):(List.range (i+1)).map (opE n rs (HG wF i w))=(List.range i).map (opE n rs wF)++[.arr w 32 1 n (((List.range n).map fun j=>-r.1.getD j 0).map aP).flatten]:=by
 rw [Qp,PM,List.map_singleton];congr 1
 ·refine List.map_congr_left fun q a=>?_;unfold opE;rw [D3 (by have:=PC.1 a;omega)]
 unfold opE;rw [h,D4]
theorem CD {l:List Rat}(h:l.length=n):(List.range n).map (fun j=>l.getD j 0)=l:=by
 refine List.ext_getElem? fun j=>?_;rw [Pi];by_cases a:j<n
 ·rw [PX a,ak om_];show some (l.getD j 0)=_;rw [ax,ak om_];rfl
 rw [Pq (show (List.range n).length<=j by simp;omega),Pq om_];rfl
theorem Ff (g:ob.length=n) :
  (eY b n (Lp.openT (ck n rs) fun j=>ob.getD j 0) wB wL wO wW wF).map Lent.ent=[.obj b (.cells ⟨[.int .i64 n,wB,wL,wO,af [48],wW]⟩ 231 (0,0)),.arr wB 3 1 rs.length ((lbF n rs.length).map aT).flatten,.arr wL 228 2 rs.length ((lvF rs wF rs.length).map bE).flatten,.arr wO 3 1 n ((List.range n).map aT).flatten,.arr wW 32 1 n (ob.map aP).flatten]++(List.range rs.length).map (opE n rs wF):=by
 have d:(Lp.openT (ck n rs) fun j=>ob.getD j 0).basic.length=rs.length:=Lp.openT_lb;have e:(Lp.openT (ck n rs) fun j=>ob.getD j 0).others.length=n:=Lp.openT_lo;have h1:cN (Lp.openT (ck n rs) fun j=>ob.getD j 0) wF=lvF rs wF rs.length:=by
  unfold cN lvF;rw [d];refine List.map_congr_left fun q a=>?_;rw [Lp.openT_line (p:=ck n rs) (PC.1 a)];rfl
 have h2:(List.range rs.length).map (Lent.ent ∘ J9 (Lp.openT (ck n rs) fun j=>ob.getD j 0) wF)=(List.range rs.length).map (opE n rs wF):=by
  refine List.map_congr_left fun q a=>?_;show Ent.arr _ _ 1 _ _=_;rw [Lp.openT_line (p:=ck n rs) (PC.1 a),e];rfl
 have h3:(Lp.openT (ck n rs) fun j=>ob.getD j 0).worth.f=ob:=CD g;have h4:(Lp.openT (ck n rs) fun j=>ob.getD j 0).worth.c=0:=rfl;unfold eY;rw [h1,h3,h4,d,e,Kf];simp only [PU,Qe,h2];rfl
def CK (n:Nat)(rs:List (List Rat × Rat))(ob:List Rat)(b17:Nat)(Aw:Option Addr)(nw cw:Nat)(A1:Option Addr)(n1 c1:Nat)(i:Nat)(wF:Nat->Value)(r:List Rat × Rat)(A4:Option Addr)(n4 c4:Nat)(A71:Option Addr)(n71 c71:Nat)(A78:Option Addr)(n78 c78:Nat):List Ent:=[.arr (sA A71 n71 c71) 3 1 (i+1) (((lbF n i).map aT).flatten++[[.int .i64 ((n:Int)+(i:Int))]].flatten),.arr (sB A78 n78 c78) 228 2 (i+1) (((lvF rs wF i).map bE).flatten++[[af (qtx r.2),.slice A4 n4 c4]].flatten),.obj b17 (.cells ⟨[.int .i64 n,.slice A71 n71 c71,.slice A78 n78 c78,.slice A1 n1 c1,af [48],.slice Aw nw cw]⟩ 231 (0,0)),.arr (sO A1 n1 c1) 3 1 n (((List.range n)).map aT).flatten,.arr (sW Aw nw cw) 32 1 n (ob.map aP).flatten,.arr (sF A4 n4 c4) 32 1 n (((List.range n).map fun q=>-r.1.getD q 0).map aP).flatten]++(List.range i).map (opE n rs wF)
def opX1 (n:Nat)(rs:List (List Rat × Rat))(ob:List Rat)(b17:Nat)(Aw:Option Addr)(nw cw:Nat)(A1:Option Addr)(n1 c1:Nat)(i:Nat)(wF:Nat->Value)(A4:Option Addr)(n4 c4:Nat)(A71:Option Addr)(n71 c71:Nat)(A78:Option Addr)(n78 c78:Nat):List Ent:=[.arr (sA A71 n71 c71) 3 1 (i+1) ((lbF n (i+1)).map aT).flatten,.arr (sB A78 n78 c78) 228 2 (i+1) ((lvF rs (HG wF i (.slice A4 n4 c4)) (i+1)).map bE).flatten,.obj b17 (.cells ⟨[.int .i64 n,.slice A71 n71 c71,.slice A78 n78 c78,.slice A1 n1 c1,af [48],.slice Aw nw cw]⟩ 231 (0,0)),.arr (sO A1 n1 c1) 3 1 n (((List.range n)).map aT).flatten,.arr (sW Aw nw cw) 32 1 n (ob.map aP).flatten]++(List.range (i+1)).map (opE n rs (HG wF i (.slice A4 n4 c4)))
theorem dE {a:Nat}{b:Option Addr}{c d:Nat}{e:Option Addr}{f g:Nat}{r:List Rat × Rat}{h:Option Addr}{j k:Nat}{l:Option Addr}{m o:Nat}{p:Option Addr}{q s:Nat}(t:rs.getD i ([],0)=r):(CK n rs ob a b c d e f g i wF r h j k l m o p q s).Perm (opX1 n rs ob a b c d e f g i wF h j k l m o p q s):=by
 unfold CK opX1;rw [IZ,IS t,IH t];simp only [PM,PH];exact List.Perm.append_left [_,_,_,_,_] (List.perm_append_singleton _ _).symm
theorem Iw (C:Mem)(_aO:Tabs C)(n:Nat)(rv ov:Value)(c:List (List Rat × Rat))(z:List Rat)(hr:RowsT C rv (c.map fo))(ho:Sl C 1 ov (z.map aP))(hq:RowsQ n c)(hn:n<=1000)(au:z.length=n) :
  Jog.Fn cx.P 136 [.agg ⟨[.int .i64 n,rv,ov]⟩] C [] fun u _aQ x=>∃ b wB wL wO wW wF,u=.pointer (some ⟨b,0,none⟩)/\x=(eY b n (Lp.openT (ck n c) fun j=>z.getD j 0) wB wL wO wW wF).map Lent.ent:=by
 obtain ⟨vs,av,aC,V⟩:=hr;obtain ⟨Ar,cr,rfl,ay,aR,_⟩:=id V;have hm:=hq.m;have aS:maxLen<=9223372036854775807:=by simp [maxLen]
 rw [jl av] at V ay ⊢;simp only [al] at V ay av ⊢;refine S4 func136 85 U3 fun w0=>?_;refine SX fun R a=>?_;refine Tf U6 (fun W=>?_);refine C6 1 [1] a Z ?_;clear a R;refine G.freeze 0 Z (fun _ _ U=>?_);refine Tg [0,1,2,3,4,5,6,7,8] [(4,3),(1,0)] Z kr_ (fun R I a=>?_);refine SV U6 ?_;refine TS (fun _=>((PtrTo.blockT U _ 1).mono I)) U9 ?_;refine SV U6 ?_;refine SU (bkT U 1) U8 ?_;refine D.call (xd _ ov z ho.m_ om_) Z (.inr dc_) U6 (Pk _) fl_ (fun aU _ aV _ aD=>?_);obtain ⟨d,e,f,rfl,rfl⟩:=aD;refine Td [af [48],.slice d e f] U8 ?_;refine Td [.int .i64 n,.slice none 0 0,.slice none 0 0,.slice none 0 0,af [48],.slice d e f] U8 ?_;refine Tf U6 (fun y=>?_);refine SV U6 ?_;refine SY [1,3] a Z ?_;clear a I R;refine SS 1 Z fun R a=>?_;refine SU (bkT U 1) U8 ?_;refine C6 1 [1,3,19,20] a Z ?_;clear a R;refine G.nilArr 3 1 ?_;refine Tc (L':=[.arr (sO none 0 0) 3 1 0 (((List.range 0)).map aT).flatten,.obj y (.cells ⟨[.int .i64 n,.slice none 0 0,.slice none 0 0,.slice none 0 0,af [48],.slice d e f]⟩ 231 (0,0)),.arr (sW d e f) 32 1 n (z.map aP).flatten]) (by rw [au];rfl) ?_;refine G.loop (fun fr C' x O=>∃ (i:Nat)(t:Option Addr)(n1 v:Nat),(i<=n)/\fr=[(1,[],.pointer (some ⟨W,0,none⟩)),(3,[],.pointer (some ⟨y,0,none⟩)),(19,[],.int .i64 n),(20,[],.int .i64 i)]/\x=[.arr (sO t n1 v) 3 1 i (((List.range i)).map aT).flatten,.obj y (.cells ⟨[.int .i64 n,.slice none 0 0,.slice none 0 0,.slice t n1 v,af [48],.slice d e f]⟩ 231 (0,0)),.arr (sW d e f) 32 1 n (z.map aP).flatten]/\O=n-i) (hn_ [1,3,19,20] Z) ⟨0,none,0,0,Pm _,Z,Z,Z⟩ (fun fr aW aX m _ Q=>?_);obtain ⟨i,t,n1,v,hi,rfl,rfl,rfl⟩:=Q;refine SR 1 [1,3,19,20,21] Z ?_;refine G.cd (fun ad=>?_) fun ad=>?_
 ·have az:i<n:=by
   have:=OD ad;omega
  refine SR 2 [1,3,4,19,20] Z ?_;refine SS 4 Z fun R a=>?_;refine S1 ae U9 ?_;refine SV U6 ?_;refine Th [[.int .i64 i]] U12 (fun aZ _ _ aE=>?_);refine Tq (j:=0) U11 aE Z aw (by show (i+1)*8<=_;omega) fl_ (fun ag ah ai=>?_);refine SZ 2 Z ?_;refine S5 (j:=1) U12 ?_;refine SY [1,3,19,20] a Z ?_;clear a R;refine SX fun R a=>?_;refine S2 _ Z U6 ?_;refine C6 1 [1,3,19,20] a Z ?_;clear a R;refine G.perm (L':=[.arr (sO ag ah ai) 3 1 (i+1) (((List.range (i+1))).map aT).flatten,.obj y (.cells ⟨[.int .i64 n,.slice none 0 0,.slice none 0 0,.slice ag ah ai,af [48],.slice d e f]⟩ 231 (0,0)),.arr (sW d e f) 32 1 n (z.map aP).flatten]) (by rw [Qp,PM,PH];exact List.Perm.swap _ _ _) ?_;refine S6 (m':=n-(i+1)) om_ mup (hn_ [1,3,19,20] Z) ⟨i+1,ag,ah,ai,om_,Z,Z,Z⟩
 have aj:i=n:=by
  have:=Pj ad;omega
 rw [aj];refine SS 1 Z fun R a=>?_;refine SU (bkT U 1) U8 ?_;refine C6 2 [1,3,35,36,37] a Z ?_;clear a R;refine G.nilArr 228 2 ?_;refine G.nilArr 3 1 ?_;refine G.perm (L':=[.arr (sA none 0 0) 3 1 0 ((lbF n 0).map aT).flatten,.arr (sB none 0 0) 228 2 0 ((lvF c (fun _=>.slice none 0 0) 0).map bE).flatten,.obj y (.cells ⟨[.int .i64 n,.slice none 0 0,.slice none 0 0,.slice t n1 v,af [48],.slice d e f]⟩ 231 (0,0)),.arr (sO t n1 v) 3 1 n (((List.range n)).map aT).flatten,.arr (sW d e f) 32 1 n (z.map aP).flatten]++(List.range 0).map (opE n c (fun _=>.slice none 0 0))) (by
  show List.Perm ([_,_,_,_,_]++[]) _
  (exact pkL [0,0,1,0,0] rfl)) ?_
 refine G.loop (fun fr C' x O=>∃ (i:Nat)(A2:Option Addr)(n2 c2:Nat)(K:Option Addr)(L M:Nat)(wF:Nat->Value),(i<=c.length)/\fr=[(1,[],.pointer (some ⟨W,0,none⟩)),(3,[],.pointer (some ⟨y,0,none⟩)),(35,[],.slice Ar c.length cr),(36,[],.int .i64 c.length),(37,[],.int .i64 i)]/\x=[.arr (sA A2 n2 c2) 3 1 i ((lbF n i).map aT).flatten,.arr (sB K L M) 228 2 i ((lvF c wF i).map bE).flatten,.obj y (.cells ⟨[.int .i64 n,.slice A2 n2 c2,.slice K L M,.slice t n1 v,af [48],.slice d e f]⟩ 231 (0,0)),.arr (sO t n1 v) 3 1 n (((List.range n)).map aT).flatten,.arr (sW d e f) 32 1 n (z.map aP).flatten]++(List.range i).map (opE n c wF)/\O=c.length-i) (hn_ [1,3,35,36,37] Z) ⟨0,none,0,0,none,0,0,fun _=>.slice none 0 0,Pm _,Z,Z,Z⟩ (fun fr a0 a1 m _ Q=>?_);obtain ⟨i,A2,n2,c2,K,L,M,wF,hi,rfl,rfl,rfl⟩:=Q;refine SR 1 [1,3,35,36,37,38] Z ?_;refine G.cd (fun am=>?_) fun am=>?_
 ·have az:i<c.length:=by
   have:=OD am;omega
  obtain ⟨r,X⟩:∃ r,c[i]?=some r:=⟨c[i],ak az⟩;have N:c.getD i ([],0)=r:=by rw [ax,X];rfl
  have a2:r.1.length=n:=hq.l r (Pe X);obtain ⟨aF,a3⟩:=hq.q r (Pe X);obtain ⟨w,hw⟩:∃ w,vs[i]?=some w:=⟨vs[i]'om_,ak om_⟩;have aA:(c.map fo)[i]?=some (fo r):=by rw [Pi,X];rfl
  have hx:=aC i w (fo r) hw aA;have an:Sl C 1 w (r.1.map aP):=by rw [pS];exact hx
  obtain ⟨Ax,aG,rfl,aH,a4,_⟩:=id an;simp only [al] at an aH hw;refine SS 1 Z fun R a=>?_;refine Ta V.m_ U10 om_ (sL hw aA) fl_ (fun a5 aI=>?_);refine SU aI U8 ?_;refine Te U5 (fun b6=>?_);refine SV U6 ?_;refine S5 (j:=0) U12 ?_;refine SY [1,3,5,6,35,36,37] a Z ?_;clear a R;refine G.freeze 0 Z (fun _ _ aB=>?_);refine SS 1 Z fun R a=>?_;refine SU (bkT aB 1) U8 ?_;refine Td [af (qtx r.2),.slice none 0 0] U8 ?_;refine Te U5 (fun Y=>?_);refine S5 (j:=0) U12 ?_;refine SY [1,3,5,6,7,35,36,37] a Z ?_;clear a R;refine SS 1 Z fun R a=>?_;refine SU (bkT aB 1) U8 ?_;refine C6 2 [1,3,5,7,35,36,37,46,47,48] a Z ?_;clear a R;refine G.nilArr 32 1 ?_;refine Tc (L':=[.arr (sF none 0 0) 32 1 0 (((List.range 0).map fun q=>-r.1.getD q 0).map aP).flatten,.obj Y (.cells ⟨[af (qtx r.2),.slice none 0 0]⟩ 228 (0,0)),.arr (sA A2 n2 c2) 3 1 i ((lbF n i).map aT).flatten,.arr (sB K L M) 228 2 i ((lvF c wF i).map bE).flatten,.obj y (.cells ⟨[.int .i64 n,.slice A2 n2 c2,.slice K L M,.slice t n1 v,af [48],.slice d e f]⟩ 231 (0,0)),.arr (sO t n1 v) 3 1 n (((List.range n)).map aT).flatten,.arr (sW d e f) 32 1 n (z.map aP).flatten]++(List.range i).map (opE n c wF)) Z ?_;refine G.loop (fun fr C' x O=>∃ (j:Nat)(A:Option Addr)(B E:Nat),(j<=n)/\fr=[(1,[],.pointer (some ⟨W,0,none⟩)),(3,[],.pointer (some ⟨y,0,none⟩)),(5,[],.int .i64 i),(7,[],.pointer (some ⟨Y,0,none⟩)),(35,[],.slice Ar c.length cr),(36,[],.int .i64 c.length),(37,[],.int .i64 i),(46,[],.slice Ax r.1.length aG),(47,[],.int .i64 r.1.length),(48,[],.int .i64 j)]/\x=[.arr (sF A B E) 32 1 j (((List.range j).map fun q=>-r.1.getD q 0).map aP).flatten,.obj Y (.cells ⟨[af (qtx r.2),.slice A B E]⟩ 228 (0,0)),.arr (sA A2 n2 c2) 3 1 i ((lbF n i).map aT).flatten,.arr (sB K L M) 228 2 i ((lvF c wF i).map bE).flatten,.obj y (.cells ⟨[.int .i64 n,.slice A2 n2 c2,.slice K L M,.slice t n1 v,af [48],.slice d e f]⟩ 231 (0,0)),.arr (sO t n1 v) 3 1 n (((List.range n)).map aT).flatten,.arr (sW d e f) 32 1 n (z.map aP).flatten]++(List.range i).map (opE n c wF)/\O=n-j) (hn_ [1,3,5,7,35,36,37,46,47,48] Z) ⟨0,none,0,0,Pm _,Z,Z,Z⟩ (fun fr a6 a7 m _ Q=>?_);obtain ⟨j,A,B,E,hj,rfl,rfl,rfl⟩:=Q;refine SR 1 [1,3,5,7,35,36,37,46,47,48,49] Z ?_;refine G.cd (fun ao=>?_) fun ao=>?_
  ·have a8:j<n:=by
    have:=OD ao;omega
   have aJ:QB 23 (r.1.getD j 0):=N6 aF;refine SX fun R a=>?_;refine Ta an.m_ U10 om_ (dJ om_) fl_ (fun a9 aK=>?_);refine SU aK U8 ?_;refine C6 1 [1,3,5,7,9,35,36,37,46,47,48] a Z ?_;clear a R;refine Tg [0,1,2,3,4,5,6,7] [(3,1)] Z kr_ (fun R I a=>?_);refine SV U6 ?_;refine S1 ae U9 ?_;refine SV U6 ?_;refine Tj (fun _=>(eA _ (r.1.getD j 0) (Py (bx aJ dc_) dc_))) U9 ?_;refine Th [[af (qtx (-(r.1.getD j 0)))]] U12 (fun ba _ _ aL=>?_);refine Tq (j:=0) U11 aL Z aw (by show (j+1)*16<=_;omega) fl_ (fun ap aq ar=>?_);refine SV U6 ?_;refine S5 (j:=1) U12 ?_;refine SY [1,3,5,7,35,36,37,46,47,48] a Z ?_;clear a I R;refine SX fun R a=>?_;refine S2 _ Z U6 ?_;refine C6 1 [1,3,5,7,35,36,37,46,47,48] a Z ?_;clear a R;refine G.perm (L':=[.arr (sF ap aq ar) 32 1 (j+1) (((List.range (j+1)).map fun q=>-r.1.getD q 0).map aP).flatten,.obj Y (.cells ⟨[af (qtx r.2),.slice ap aq ar]⟩ 228 (0,0)),.arr (sA A2 n2 c2) 3 1 i ((lbF n i).map aT).flatten,.arr (sB K L M) 228 2 i ((lvF c wF i).map bE).flatten,.obj y (.cells ⟨[.int .i64 n,.slice A2 n2 c2,.slice K L M,.slice t n1 v,af [48],.slice d e f]⟩ 231 (0,0)),.arr (sO t n1 v) 3 1 n (((List.range n)).map aT).flatten,.arr (sW d e f) 32 1 n (z.map aP).flatten]++(List.range i).map (opE n c wF)) (by rw [Qp,PM,PM,PH];exact List.Perm.swap _ _ _) ?_;refine S6 (m':=n-(j+1)) om_ mup (hn_ [1,3,5,7,35,36,37,46,47,48] Z) ⟨j+1,ap,aq,ar,om_,Z,Z,Z⟩
  have aM:j=n:=by
   have:=Pj ao;omega
  rw [aM];refine G.freeze 1 Z (fun _ _ aN=>?_);refine Tc (L':=[.arr (sF A B E) 32 1 n (((List.range n).map fun q=>-r.1.getD q 0).map aP).flatten,.arr (sA A2 n2 c2) 3 1 i ((lbF n i).map aT).flatten,.arr (sB K L M) 228 2 i ((lvF c wF i).map bE).flatten,.obj y (.cells ⟨[.int .i64 n,.slice A2 n2 c2,.slice K L M,.slice t n1 v,af [48],.slice d e f]⟩ 231 (0,0)),.arr (sO t n1 v) 3 1 n (((List.range n)).map aT).flatten,.arr (sW d e f) 32 1 n (z.map aP).flatten]++(List.range i).map (opE n c wF)) Z ?_;refine G.cut (fun fr C' x O=>∃ (A7:Option Addr)(n7 c7:Nat)(A8:Option Addr)(n8 c8:Nat),(True)/\fr=[(1,[],.pointer (some ⟨W,0,none⟩)),(3,[],.pointer (some ⟨y,0,none⟩)),(35,[],.slice Ar c.length cr),(36,[],.int .i64 c.length),(37,[],.int .i64 i)]/\x=[.arr (sA A7 n7 c7) 3 1 (i+1) ((lbF n (i+1)).map aT).flatten,.arr (sB A8 n8 c8) 228 2 (i+1) ((lvF c (HG wF i (.slice A B E)) (i+1)).map bE).flatten,.obj y (.cells ⟨[.int .i64 n,.slice A7 n7 c7,.slice A8 n8 c8,.slice t n1 v,af [48],.slice d e f]⟩ 231 (0,0)),.arr (sO t n1 v) 3 1 n (((List.range n)).map aT).flatten,.arr (sW d e f) 32 1 n (z.map aP).flatten]++(List.range (i+1)).map (opE n c (HG wF i (.slice A B E)))) ?_ (fun fr bb bc O bd Q=>?_)
  ·refine TG (.cut [0,1,2,3,4,5,6,7,8,9,12,13,14,16] (.alt 10 (.cut [] (.alt 11 (.fin [15,17,18,19,20,21,22,23,24]) (.alt 15 (.cut [] (.alt 11 (.fin [17,18,19,20,21,22,23,24]) (.alt 17 (.fin [11,18,19,20,21,22,23,24]) .stop))) (.alt 17 (.cut [] (.alt 11 (.fin [15,18,19,20,21,22,23,24]) (.alt 15 (.fin [11,18,19,20,21,22,23,24]) .stop))) .stop)))) (.alt 15 (.cut [] (.alt 10 (.cut [] (.alt 11 (.fin [17,18,19,20,21,22,23,24]) (.alt 17 (.fin [11,18,19,20,21,22,23,24]) .stop))) (.alt 17 (.fin [10,11,18,19,20,21,22,23,24]) .stop))) (.alt 17 (.cut [] (.alt 10 (.cut [] (.alt 11 (.fin [15,18,19,20,21,22,23,24]) (.alt 15 (.fin [11,18,19,20,21,22,23,24]) .stop))) (.alt 15 (.fin [10,11,18,19,20,21,22,23,24]) .stop))) .stop)))) [(16,0)] Z Z kr_ (fun R I a F=>?_);refine SZ 5 Z ?_;refine S1 aa U9 ?_;refine SV U6 ?_;refine SU (bkT U 1) U8 ?_;refine SV U6 ?_;refine S2 _ Z U6 ?_;refine SZ 3 Z ?_;refine TS (fun _=>((bkT aN 2).mono I)) U9 ?_;refine Tw F Z ⟨?_, ?_, ?_,trivial⟩
   ·refine Th [[.int .i64 ((n:Int)+(i:Int))]] U12 (fun ab ac _ J=>?_);refine Tw F Z ⟨?_, ?_, ?_,trivial⟩
    ·refine Tq (j:=1) U11 J.m_ Z aw (by show (i+1)*8<=_;omega) fl_ (fun g h k=>?_);refine S1 aa U9 ?_;refine Th [[af (qtx r.2),.slice A B E]] U12 (fun S T _ H=>?_);refine Tq (j:=2) U11 H.m_ Z aw (by show (i+1)*40<=_;omega) fl_ (fun o p s=>?_);refine SZ 2 Z ?_;refine S5 (j:=3) U12 ?_;refine SZ 2 Z ?_;refine S5 (j:=0) U12 ?_;refine SY [1,3,35,36,37] a Z ?_;clear a I F R;refine G.perm (L':=CK n c z y d e f t n1 v i wF r A B E g h k o p s) (pkL [2,1,0,1,1,0] Z) ?_;refine G.perm _ (dE N) ?_;exact S9 0 mup (hn_ [1,3,35,36,37] Z) ⟨g,h,k,o,p,s,trivial,Z,Z⟩
    ·refine S1 aa U9 ?_;refine Tw F Z ⟨?_, ?_,trivial⟩
     ·refine Tq (j:=1) U11 J.m_ Z aw (by show (i+1)*8<=_;omega) fl_ (fun g h k=>?_);refine Th [[af (qtx r.2),.slice A B E]] U12 (fun S T _ H=>?_);refine Tq (j:=2) U11 H.m_ Z aw (by show (i+1)*40<=_;omega) fl_ (fun o p s=>?_);refine SZ 2 Z ?_;refine S5 (j:=3) U12 ?_;refine SZ 2 Z ?_;refine S5 (j:=0) U12 ?_;refine SY [1,3,35,36,37] a Z ?_;clear a I F R;refine G.perm (L':=CK n c z y d e f t n1 v i wF r A B E g h k o p s) (pkL [2,1,0,1,1,0] Z) ?_;refine G.perm _ (dE N) ?_;exact S9 0 mup (hn_ [1,3,35,36,37] Z) ⟨g,h,k,o,p,s,trivial,Z,Z⟩
     refine Th [[af (qtx r.2),.slice A B E]] U12 (fun S T _ H=>?_);refine Tq (j:=1) U11 J.m_ Z aw (by show (i+1)*8<=_;omega) fl_ (fun g h k=>?_);refine Tq (j:=2) U11 H.m_ Z aw (by show (i+1)*40<=_;omega) fl_ (fun o p s=>?_);refine SZ 2 Z ?_;refine S5 (j:=3) U12 ?_;refine SZ 2 Z ?_;refine S5 (j:=0) U12 ?_;refine SY [1,3,35,36,37] a Z ?_;clear a I F R;refine G.perm (L':=CK n c z y d e f t n1 v i wF r A B E g h k o p s) (pkL [2,1,0,1,1,0] Z) ?_;refine G.perm _ (dE N) ?_;exact S9 0 mup (hn_ [1,3,35,36,37] Z) ⟨g,h,k,o,p,s,trivial,Z,Z⟩
    refine Th [[af (qtx r.2),.slice A B E]] U12 (fun S T _ H=>?_);refine Tw F Z ⟨?_, ?_,trivial⟩
    ·refine Tq (j:=1) U11 J.m_ Z aw (by show (i+1)*8<=_;omega) fl_ (fun g h k=>?_);refine S1 aa U9 ?_;refine Tq (j:=2) U11 H.m_ Z aw (by show (i+1)*40<=_;omega) fl_ (fun o p s=>?_);refine SZ 2 Z ?_;refine S5 (j:=3) U12 ?_;refine SZ 2 Z ?_;refine S5 (j:=0) U12 ?_;refine SY [1,3,35,36,37] a Z ?_;clear a I F R;refine G.perm (L':=CK n c z y d e f t n1 v i wF r A B E g h k o p s) (pkL [2,1,0,1,1,0] Z) ?_;refine G.perm _ (dE N) ?_;exact S9 0 mup (hn_ [1,3,35,36,37] Z) ⟨g,h,k,o,p,s,trivial,Z,Z⟩
    refine S1 aa U9 ?_;refine Tq (j:=1) U11 J.m_ Z aw (by show (i+1)*8<=_;omega) fl_ (fun g h k=>?_);refine Tq (j:=2) U11 H.m_ Z aw (by show (i+1)*40<=_;omega) fl_ (fun o p s=>?_);refine SZ 2 Z ?_;refine S5 (j:=3) U12 ?_;refine SZ 2 Z ?_;refine S5 (j:=0) U12 ?_;refine SY [1,3,35,36,37] a Z ?_;clear a I F R;refine G.perm (L':=CK n c z y d e f t n1 v i wF r A B E g h k o p s) (pkL [2,1,0,1,1,0] Z) ?_;refine G.perm _ (dE N) ?_;exact S9 0 mup (hn_ [1,3,35,36,37] Z) ⟨g,h,k,o,p,s,trivial,Z,Z⟩
   ·refine S1 aa U9 ?_;refine Tw F Z ⟨?_, ?_,trivial⟩
    ·refine Th [[.int .i64 ((n:Int)+(i:Int))]] U12 (fun ab ac _ J=>?_);refine Tw F Z ⟨?_, ?_,trivial⟩
     ·refine Tq (j:=1) U11 J.m_ Z aw (by show (i+1)*8<=_;omega) fl_ (fun g h k=>?_);refine Th [[af (qtx r.2),.slice A B E]] U12 (fun S T _ H=>?_);refine Tq (j:=2) U11 H.m_ Z aw (by show (i+1)*40<=_;omega) fl_ (fun o p s=>?_);refine SZ 2 Z ?_;refine S5 (j:=3) U12 ?_;refine SZ 2 Z ?_;refine S5 (j:=0) U12 ?_;refine SY [1,3,35,36,37] a Z ?_;clear a I F R;refine G.perm (L':=CK n c z y d e f t n1 v i wF r A B E g h k o p s) (pkL [2,1,0,1,1,0] Z) ?_;refine G.perm _ (dE N) ?_;exact S9 0 mup (hn_ [1,3,35,36,37] Z) ⟨g,h,k,o,p,s,trivial,Z,Z⟩
     refine Th [[af (qtx r.2),.slice A B E]] U12 (fun S T _ H=>?_);refine Tq (j:=1) U11 J.m_ Z aw (by show (i+1)*8<=_;omega) fl_ (fun g h k=>?_);refine Tq (j:=2) U11 H.m_ Z aw (by show (i+1)*40<=_;omega) fl_ (fun o p s=>?_);refine SZ 2 Z ?_;refine S5 (j:=3) U12 ?_;refine SZ 2 Z ?_;refine S5 (j:=0) U12 ?_;refine SY [1,3,35,36,37] a Z ?_;clear a I F R;refine G.perm (L':=CK n c z y d e f t n1 v i wF r A B E g h k o p s) (pkL [2,1,0,1,1,0] Z) ?_;refine G.perm _ (dE N) ?_;exact S9 0 mup (hn_ [1,3,35,36,37] Z) ⟨g,h,k,o,p,s,trivial,Z,Z⟩
    refine Th [[af (qtx r.2),.slice A B E]] U12 (fun S T _ H=>?_);refine Th [[.int .i64 ((n:Int)+(i:Int))]] U12 (fun ab ac _ J=>?_);refine Tq (j:=1) U11 J.m_ Z aw (by show (i+1)*8<=_;omega) fl_ (fun g h k=>?_);refine Tq (j:=2) U11 H.m_ Z aw (by show (i+1)*40<=_;omega) fl_ (fun o p s=>?_);refine SZ 2 Z ?_;refine S5 (j:=3) U12 ?_;refine SZ 2 Z ?_;refine S5 (j:=0) U12 ?_;refine SY [1,3,35,36,37] a Z ?_;clear a I F R;refine G.perm (L':=CK n c z y d e f t n1 v i wF r A B E g h k o p s) (pkL [2,1,0,1,1,0] Z) ?_;refine G.perm _ (dE N) ?_;exact S9 0 mup (hn_ [1,3,35,36,37] Z) ⟨g,h,k,o,p,s,trivial,Z,Z⟩
   refine Th [[af (qtx r.2),.slice A B E]] U12 (fun S T _ H=>?_);refine Tw F Z ⟨?_, ?_,trivial⟩
   ·refine Th [[.int .i64 ((n:Int)+(i:Int))]] U12 (fun ab ac _ J=>?_);refine Tw F Z ⟨?_, ?_,trivial⟩
    ·refine Tq (j:=1) U11 J.m_ Z aw (by show (i+1)*8<=_;omega) fl_ (fun g h k=>?_);refine S1 aa U9 ?_;refine Tq (j:=2) U11 H.m_ Z aw (by show (i+1)*40<=_;omega) fl_ (fun o p s=>?_);refine SZ 2 Z ?_;refine S5 (j:=3) U12 ?_;refine SZ 2 Z ?_;refine S5 (j:=0) U12 ?_;refine SY [1,3,35,36,37] a Z ?_;clear a I F R;refine G.perm (L':=CK n c z y d e f t n1 v i wF r A B E g h k o p s) (pkL [2,1,0,1,1,0] Z) ?_;refine G.perm _ (dE N) ?_;exact S9 0 mup (hn_ [1,3,35,36,37] Z) ⟨g,h,k,o,p,s,trivial,Z,Z⟩
    refine S1 aa U9 ?_;refine Tq (j:=1) U11 J.m_ Z aw (by show (i+1)*8<=_;omega) fl_ (fun g h k=>?_);refine Tq (j:=2) U11 H.m_ Z aw (by show (i+1)*40<=_;omega) fl_ (fun o p s=>?_);refine SZ 2 Z ?_;refine S5 (j:=3) U12 ?_;refine SZ 2 Z ?_;refine S5 (j:=0) U12 ?_;refine SY [1,3,35,36,37] a Z ?_;clear a I F R;refine G.perm (L':=CK n c z y d e f t n1 v i wF r A B E g h k o p s) (pkL [2,1,0,1,1,0] Z) ?_;refine G.perm _ (dE N) ?_;exact S9 0 mup (hn_ [1,3,35,36,37] Z) ⟨g,h,k,o,p,s,trivial,Z,Z⟩
   refine S1 aa U9 ?_;refine Th [[.int .i64 ((n:Int)+(i:Int))]] U12 (fun ab ac _ J=>?_);refine Tq (j:=1) U11 J.m_ Z aw (by show (i+1)*8<=_;omega) fl_ (fun g h k=>?_);refine Tq (j:=2) U11 H.m_ Z aw (by show (i+1)*40<=_;omega) fl_ (fun o p s=>?_);refine SZ 2 Z ?_;refine S5 (j:=3) U12 ?_;refine SZ 2 Z ?_;refine S5 (j:=0) U12 ?_;refine SY [1,3,35,36,37] a Z ?_;clear a I F R;refine G.perm (L':=CK n c z y d e f t n1 v i wF r A B E g h k o p s) (pkL [2,1,0,1,1,0] Z) ?_;refine G.perm _ (dE N) ?_;exact S9 0 mup (hn_ [1,3,35,36,37] Z) ⟨g,h,k,o,p,s,trivial,Z,Z⟩
  obtain ⟨A7,n7,c7,A8,n8,c8,_,rfl,rfl⟩:=Q;refine SX fun R a=>?_;refine S2 _ Z U6 ?_;refine C6 1 [1,3,35,36,37] a Z ?_;clear a R;refine S6 (m':=c.length-(i+1)) om_ mup (hn_ [1,3,35,36,37] Z) ⟨i+1,A7,n7,c7,A8,n8,c8,(HG wF i (.slice A B E)),om_,Z,Z,Z⟩
 have aj:i=c.length:=by
  have:=Pj am;omega
 refine SR 2 [2] Z ?_;rw [aj];refine G.perm (L':=(eY y n (Lp.openT (ck n c) fun j=>z.getD j 0) (.slice A2 n2 c2) (.slice K L M) (.slice t n1 v) (.slice d e f) wF).map Lent.ent) (by rw [Ff au];(exact pkL [2,0,0,0] Z)) ?_;refine S7 (Tx Z Z ?_);exact ⟨y,.slice A2 n2 c2,.slice K L M,.slice t n1 v,.slice d e f,wF,Z,Z⟩
def Wl (D:Int)(q:Rat):Prop:=∃ z:Int,q*(D:Rat)=(z:Rat)/\z.natAbs<=999999999
def RowI (r:RowQ):Prop:=∃ D:Int,D≠0/\D.natAbs<=999999999/\(∀ q∈r.f,Wl D q)/\Wl D r.b
def eG (rows:List RowQ):List (List Rat × Rat):=rows.map fun r=>(r.f,r.b)
theorem Wl.zero (D:Int):Wl D 0:=⟨0,by grind,by decide⟩
theorem Wl.neg {D:Int}{q:Rat}(h:Wl D q):Wl D (-q):=by
 obtain ⟨z,h1,h2⟩:=h;exact ⟨-z,by rw [Rat.intCast_neg,<- h1];grind,by omega⟩
theorem Wl.sg {D:Int}{q a:Rat}(h:Wl D q)(b:a=1∨a=-1):Wl D (a*q):=by
 rcases b with rfl | rfl
 ·rw [Rat.one_mul];exact h
 rw [show (-1:Rat)*q=-q by grind];exact h.neg
theorem my (h:i<rows.length):(eG rows).getD i ([],0)=(rows[i].f,rows[i].b):=by
 unfold eG;rw [ax,Pi,ak h];rfl
theorem FN {d:Nat}(g:n<=12)(h:∀ r∈rows,RowI r)(k:∃ D:Int,D≠0/\D.natAbs<=d/\∀ j,j<n->∃ z:Int,cc j*(D:Rat)=(z:Rat)/\z.natAbs<=d)(l:∀ n,n<=12->(n+1)*(d*Lp.fctM (2*999999999) n)<B9 ^ 20):Lp.Lim (ck n (eG rows)) cc 20:=by
 have o:∀ r:Nat,∃ D:Int,∀ hr:r<rows.length,D≠0/\D.natAbs<=999999999/\(∀ q∈rows[r].f,Wl D q)/\Wl D rows[r].b:=fun r=>by
  by_cases hr:r<rows.length
  ·obtain ⟨D,c⟩:=h rows[r] (Qa hr);exact ⟨D,fun _=>c⟩
  exact ⟨0,fun h=>absurd h hr⟩
 obtain ⟨D,c⟩:=Classical.axiomOfChoice o;obtain ⟨p,s,c2,t⟩:=k;have hm:(ck n (eG rows)).m=rows.length:=al _;have u:Lp.bdQ (ck n (eG rows)) 999999999<B9 ^ 20:=by
  unfold Lp.bdQ Lp.bdT;have:∀ n,n<=12->(n+1)*(999999999*Lp.fctM (2*999999999) n)<B9 ^ 20:=by decide +kernel
  exact this _ g
 refine ⟨⟨D,999999999,d,p,by decide,⟨fun r hr=>?_,fun r j hr i=>?_,fun r hr=>?_⟩,⟨s,c2⟩,fun j i=>?_,u,by unfold Lp.bdW Lp.bdT;exact l _ g⟩⟩
 ·rw [hm] at hr;exact ⟨(c r hr).1,(c r hr).2.1⟩
 ·rw [hm] at hr;have e:(ck n (eG rows)).a r j=rows[r].f.getD j 0:=by show ((eG rows).getD r ([],0)).1.getD j 0=_;rw [my hr]
  have v:Wl (D r) (rows[r].f.getD j 0):=by
   rw [ax];cases w:rows[r].f[j]? with
   | none=>exact Wl.zero _
   | some q=>exact (c r hr).2.2.1 q (Pe w)
  obtain ⟨z,h1,h2⟩:=v;exact ⟨z,by rw [e,Rat.mul_comm];exact h1,h2⟩
 ·rw [hm] at hr;have e:(ck n (eG rows)).b r=rows[r].b:=by show ((eG rows).getD r ([],0)).2=_;rw [my hr]
  obtain ⟨z,h1,h2⟩:=(c r hr).2.2.2;exact ⟨z,by rw [e,Rat.mul_comm];exact h1,h2⟩
 obtain ⟨z,h1,h2⟩:=t j i;exact ⟨z,by rw [Rat.mul_comm];exact h1,h2⟩
theorem tR (a:n<=12)(h:∀ r∈rows,RowI r)(b:∃ D:Int,D≠0/\D.natAbs<=999999999/\∀ j,j<n->Wl D (cc j)):Lp.Lim (ck n (eG rows)) cc 20:=FN a h b aq
theorem IW (a:n<=12)(h:∀ r∈rows,RowI r):Lp.Lim (ck n (eG rows)) (fun _=>0) 20:=tR a h ⟨1,by decide,by decide,fun _ _=>Wl.zero _⟩
theorem vP {p:Nat}{c:List (Nat × Rat)}{b a:Rat}{D:Int}(d:a=1∨a=-1)(e:D≠0)(f:D.natAbs<=999999999)(g:∀ x∈c,Wl D x.2)(h:Wl D b):RowI (gE s p k c b a):=by
 refine ⟨D,e,f,tg (Wl.zero _) (fun x i=>?_),h.sg d⟩;obtain ⟨y,hy,rfl⟩:=Pn.1 i;exact (g y hy).sg d
theorem K1 {pts:List Pt}{t:Tri}{fs:List Rat}{p:Pt}(e:∀ j,Qtr (cor pts t j))(f:dH (cor pts t 0) (cor pts t 1) (cor pts t 2)≠0)(g:∀ j,Hlf (fz fs t j))(z:Qtr p) :
  ∃ W:Int,W≠0/\W.natAbs<=2880000/\(∀ j,∃ N:Int,wgt pts t p j*W=N/\N.natAbs<=2880000)/\(∃ N:Int,onQ pts fs t p*((2*W:Int):Rat)=N/\N.natAbs<=600000000) /\
   ∀ j,(∃ N:Int,(slf pts t j).1*W=N/\N.natAbs<=400000)/\∃ N:Int,(slf pts t j).2*W=N/\N.natAbs<=400000:=by
 obtain ⟨x0,y0,h0,m,o⟩:=e 0;obtain ⟨x1,y1,h1,q,r⟩:=e 1;obtain ⟨x2,y2,h2,s,u⟩:=e 2;obtain ⟨x3,y3,h3,h⟩:=id z;obtain ⟨k0,v,A⟩:=g 0;obtain ⟨k1,w,B⟩:=g 1;obtain ⟨k2,x,C⟩:=g 2;have D:=yx (x0:=x0) (y0:=y0) (x1:=x1) (y1:=y1) (x2:=x2) (y2:=y2) ⟨m,o,q,r,s,u⟩;refine ⟨iA x0 y0 x1 y1 x2 y2,(iH h0 h1 h2 v w x f).1,D,fun j=>?_,⟨_,Km h0 h1 h2 h3 v w x f,NV ⟨m,o,q,r,s,u⟩ h ⟨A,B,C⟩⟩,fun j=>?_⟩
 ·obtain ⟨M,O,h4,E,F⟩:=e ((j+1) % 3);obtain ⟨P,Q,h5,G,H⟩:=e ((j+2) % 3);exact ⟨_,(vU (lX h3 h4 h5) (lX h0 h1 h2) f).2,yx ⟨h.1,h.2,E,F,G,H⟩⟩
 have l:=fun i=>zG (n:=pts.length) (k:=gD t j) (t:=t) i;obtain ⟨u0,g0,R⟩:=l 0;obtain ⟨u1,I,l1⟩:=l 1;obtain ⟨y,J,l2⟩:=l 2;obtain ⟨_,K,L⟩:=iH h0 h1 h2 g0 I J f;have S:=jM (a:=u1-u0) (b:=y2-y0) (c:=y1-y0) (d:=y-u0) ⟨by omega,by omega,by omega,by omega⟩;have T:=jM (a:=u1-u0) (b:=x2-x0) (c:=x1-x0) (d:=y-u0) ⟨by omega,by omega,by omega,by omega⟩;exact ⟨⟨_,K,by omega⟩,⟨_,L,by omega⟩⟩
theorem Nk {W:Int}{q:Rat}{N:Int}(h:q*(W:Rat)=N)(a:N.natAbs<=400000000):Wl (2*W) q:=⟨2*N,by rw [Qg,Qg,<- h];grind,by omega⟩
theorem Hg {t:Tri}{f:Nat->Rat}{P:Rat->Prop}(h:∀ j,P (f j)):∀ x∈atT t f,P x.2:=ga (P:=fun x=>P x.2) (h 0) (h 1) (h 2)
theorem Jq (n:Nat):kM ((n % 12:Nat):Int) 2*2=(((n % 12:Nat):Int):Rat):=nS dc_
theorem NE (S:Sht)(H:Hts)(l:List Sgt)(s:Sgt)(i:Nat)(p:SgtR s):∀ r∈rowsO (dT S H l) (fF S s i) (lj S s) (tK S s) (zK S H s),RowI r:=by
 obtain ⟨A,_⟩:=gj (S.kd % 8) (PY _ dc_) S.a S.b S.h;obtain ⟨_,B⟩:=locK S s p;have C:=jG A.ok (Pe B);obtain ⟨W,D,g,E,⟨d,u,L⟩,v⟩:=K1 (pts:=cE (S.kd % 8) S.a S.b S.h) (t:=tK S s) (fs:=fsK (cE (S.kd % 8) S.a S.b S.h).length H) (fun j=>uu j) C (fun j=>Kx j) (AK S s p);have m:∀ j,Wl (2*W) (wgt (cE (S.kd % 8) S.a S.b S.h) (tK S s) (lj S s) j):=fun j=>by
  obtain ⟨N,e,b⟩:=E j;exact Nk e om_
 have n:Wl (2*W) (kQ (fF S s i) (zK S H s)):=by
  unfold kQ;split
  ·rename_i F;rw [AW S s i F,cR (ok1 (sf s.depth))];have f:=Jq s.depth;have G:zK S H s*((2*W:Int):Rat)=d:=u;refine ⟨d-((s.depth % 12:Nat):Int)*W, ?_, ?_⟩
   ·simp only [RH,Qg,<- f];rw [show ((d:Int):Rat)=zK S H s*((2*W:Int):Rat) from G.symm];simp only [Qg];grind
   have:=iS (a:=((s.depth % 12:Nat):Int)) (b:=W) (M:=11) om_ g;omega
  exact ⟨d,u,by omega⟩
 have o:∀ sg∈([1, -1]:List Rat),sg=1∨sg=-1:=by simp
 intro r hr;unfold rowsO at hr;split at hr
 ·rcases Px.1 hr with h | h <;> split at h
  ·rw [PE.1 h];exact vP (.inl rfl) om_ om_ (Hg m) n
  ·simp at h
  ·rw [PE.1 h];exact vP (.inr rfl) om_ om_ (Hg m) n
  simp at h
 rename_i h1;split at hr
 ·obtain ⟨k,_,h⟩:=List.mem_flatMap.1 hr;obtain ⟨sg,c,rfl⟩:=Pn.1 h;exact vP (o sg c) om_ om_ (Hg m) n
 rename_i h2;have O:=ns s.n0;have P:=ns s.n1;have Q:=nQ s.n2;have w:=tT s.n2;have f:pV (fF S s i)*(fa s.n2:Int)=((-(s.n0.tmod 5):Int):Rat)/\iR (fF S s i)*(fa s.n2:Int)=((-(s.n1.tmod 5):Int):Rat):=by
  have I:=dX (s.n0.tmod 5) om_;have l1:=dX (s.n1.tmod 5) om_;have l2:=dX (fa s.n2) om_;have R:((fa s.n2:Int):Rat)≠0:=by exact_mod_cast w
  revert h1 h2;unfold pV iR fF;split
  ·intro h1;exact absurd rfl h1
  split
  ·intro _ h2;exact absurd rfl h2
  intro _ _;simp only;rw [cR (ok1 I),cR (ok1 l1),cR (ok1 l2),Rat.intCast_neg,Rat.intCast_neg];constructor <;> grind
 have hm:(W*fa s.n2).natAbs<=2880000*4:=iS g om_;have x:W*fa s.n2≠0:=Int.mul_ne_zero D w;have y:∀ {q:Rat}{N:Int},q*(W:Rat)=N->N.natAbs<=400000->Wl (W*fa s.n2) q:=fun {q N} e b=>⟨N*fa s.n2,by rw [Qg,Qg,<- e];grind,by have:=iS b (show (fa s.n2).natAbs<=4 by omega);omega⟩;have J:∀ j,Wl (W*fa s.n2) (slf (cE (S.kd % 8) S.a S.b S.h) (tK S s) j).1:=fun j=>by
  obtain ⟨N,e,b⟩:=(v j).1;exact y e b
 have K:∀ j,Wl (W*fa s.n2) (slf (cE (S.kd % 8) S.a S.b S.h) (tK S s) j).2:=fun j=>by
  obtain ⟨N,e,b⟩:=(v j).2;exact y e b
 have z:∀ {q:Rat}{N:Int},q*((fa s.n2:Int):Rat)=N->N.natAbs<=4->Wl (W*fa s.n2) q:=fun {q N} e b=>⟨N*W,by rw [Qg,Qg,<- e];grind,by have:=iS b g;omega⟩;obtain ⟨k,_,h⟩:=List.mem_flatMap.1 hr;rcases Px.1 h with h | h
 ·obtain ⟨sg,c,rfl⟩:=Pn.1 h;exact vP (o sg c) x om_ (Hg J) (z f.1 om_)
 obtain ⟨sg,c,rfl⟩:=Pn.1 h;exact vP (o sg c) x om_ (Hg K) (z f.2 om_)
def OA (x:Lay):Prop:=(∃ z:Int,x.min=z/\z.natAbs<=1000)/\∀ m,x.max=some m->∃ z:Int,m=z/\z.natAbs<=1000
theorem zz {q:Rat}{z:Int}(e:q=z)(h:z.natAbs<=1000):Wl 1 q:=⟨z,by rw [e];show _*(1:Rat)=_;grind,by omega⟩
theorem Np {a:Nat}{u v:Rat}{c:Rat}(f:u=1∨u=-1)(g:v=1∨v=-1)(i:Wl 1 c):RowI ⟨ru n [(a,u),(b,v)],c⟩:=by
 have d:∀ q:Rat,q=1∨q=-1->Wl 1 q:=fun q h=>by
  rcases h with rfl | rfl
  ·exact zz (z:=1) aq dc_
  exact zz (z:=-1) aq dc_
 refine ⟨1,by decide,by decide,tg (Wl.zero _) (fun x e=>?_),i⟩;simp only [Ps,Qh,Rz] at e;rcases e with rfl | rfl
 ·exact d _ f
 exact d _ g
theorem HL {p:Nat}{x:Lay}(h:OA x):∀ r∈jX s p x i k,RowI r:=by
 obtain ⟨z,a,b⟩:=h.1;intro r hr;unfold jX at hr;rcases Ps.1 hr with rfl | hr
 ·exact Np (.inr Z) (.inl Z) (zz a b).neg
 split at hr
 ·cases hr
 rename_i m hm;obtain ⟨z,a,b⟩:=h.2 m hm;rw [PE.1 hr];exact Np (.inl Z) (.inr Z) (zz a b)
theorem zP {s p:Nat}{x:Lay}{i:Nat}(h:OA x):∀ k,∀ r∈bl s p x i k,RowI r
 | 0,r,hr=>by cases hr
 | k+1,r,hr=>by
  rcases Px.1 hr with h1 | h1
  ·exact zP h k r h1
  exact HL h r h1
theorem zO {s p:Nat}{a:List Lay}(h:∀ x∈a,OA x):∀ n,∀ r∈ba s p a n,RowI r
 | 0,r,hr=>by cases hr
 | n+1,r,hr=>by
  rcases Px.1 hr with h1 | h1
  ·exact zO h n r h1
  refine zP ?_ _ r h1;rw [ax];cases b:a[n+1]? with
  | none=>exact ⟨⟨0,rfl,by decide⟩,fun m hm=>by cases hm⟩
  | some x=>exact h x (Pe b)
theorem O8:∀ x∈colK,OA x:=by
 intro x a;simp only [colK,Ps,Qh,Rz] at a;rcases a with rfl | rfl | rfl
 ·exact ⟨⟨0,Z,by decide⟩,fun m hm=>by cases hm⟩
 ·exact ⟨⟨0,Z,by decide⟩,fun m hm=>by cases hm;exact ⟨5,Z,by decide⟩⟩
 exact ⟨⟨1,Z,by decide⟩,fun m hm=>by cases hm⟩
theorem Df (h:FeasO p t u):∃ (row:Int)(a:Bool),u=.tuple #[.int .i64 row,.bool a]/\(a=true->t.Feas p.n) /\
  (a=false->∃ r:Nat,row=r/\r<t.basic.length/\p.n<=t.bas r/\(t.line r).c<0/\∀ s,s<t.others.length->p.n<=t.oth s->(t.line r).g s<=0):=by
 cases h with
 | yes h=>exact ⟨0,true,rfl,fun _=>h,fun h=>by cases h⟩
 | no r h1 h2 h3 h4=>exact ⟨r,false,rfl,fun h=>(by cases h),fun _=>⟨r,rfl,h1,h2,h3,h4⟩⟩
theorem Ft (h:MinO p t u):∃ (b:Int)(a:Bool),u=.tuple #[.int .i64 b,.bool a]/\(a=true->Lp.RelW p.n t/\∀ s,s<t.others.length->p.n<=t.oth s->0<=t.worth.g s) /\
  (a=false->∃ s:Nat,b=s/\s<t.others.length/\kP t s*t.worth.g s<0/\(∀ i,i<t.basic.length->p.n<=t.bas i->0<=kP t s*(t.line i).g s)/\(p.n<=t.oth s->0<=kP t s)):=by
 cases h with
 | yes h1 h2=>exact ⟨0,true,rfl,fun _=>⟨h1,h2⟩,fun h=>by cases h⟩
 | no s h1 h2 h3 h4=>exact ⟨s,false,rfl,fun h=>(by cases h),fun _=>⟨s,rfl,h1,h2,h3,h4⟩⟩
inductive SolO (p:Lp.Sys) (cc:Nat->Rat) (D:Mem):Value->Prop where
 | opt (val:Rat) (pt du:Nat->Rat) (vp vd:Value):Lp.OptR p cc 20 val pt du->Sl D 1 vp (((List.range p.n).map pt).map aP)->Sl D 1 vd (((List.range p.m).map du).map aP)->SolO p cc D (.agg ⟨[.int .i64 1,af (qtx val),vp,vd,.slice none 0 0]⟩)
 | inf (du:Nat->Rat) (vd:Value):Lp.InfR p 20 du->Sl D 1 vd (((List.range p.m).map du).map aP)->SolO p cc D (.agg ⟨[.int .i64 2,af [],.slice none 0 0,vd,.slice none 0 0]⟩)
 | unb (pt ra:Nat->Rat) (vp vr:Value):Lp.UnbR p cc 20 pt ra->Sl D 1 vp (((List.range p.n).map pt).map aP)->Sl D 1 vr (((List.range p.n).map ra).map aP)->SolO p cc D (.agg ⟨[.int .i64 3,af [],vp,.slice none 0 0,vr]⟩)
theorem Ih :kP t s=1∨kP t s=-1:=by unfold kP;split <;> simp
theorem zY (C:Mem)(x:Tabs C)(n:Nat)(V F:Value)(k:List (List Rat × Rat))(l:List Rat)(H:RowsT C V (k.map fo))(ho:Sl C 1 F (l.map aP))(X:RowsQ n k)(Y:n<=1000)(ai:l.length=n)(f:Lp.Lim (ck n k) (fun j=>l.getD j 0) 20) :
  Pur cx.P 74 [.agg ⟨[.int .i64 n,V,F]⟩] C fun u D=>SolO (ck n k) (fun j=>l.getD j 0) D u:=by
 have aS:maxLen<=9223372036854775807:=by simp [maxLen]
 have hm:=X.m;have aj:=H;obtain ⟨vs,ak,_,an⟩:=aj;obtain ⟨Ar,cr,rfl,_⟩:=id an;rw [jl ak,al] at H ⊢;obtain ⟨p,I⟩:∃ p,ck n k=p:=⟨_,rfl⟩;obtain ⟨cc,ao⟩:∃ cc:Nat->Rat,(fun j=>l.getD j 0)=cc:=⟨_,rfl⟩;have ap:p.n=n:=by rw [<- I];rfl
 have aq:p.m=k.length:=by rw [<- I];rfl
 have z:=fun (D:Mem)(J:C.le D)=>Iw D (x.mono J) n (.slice Ar k.length cr) F k l (H.mono J) (ho.mono J) X Y ai;rw [I,ao] at f z ⊢;rw [<- ap] at z Y ⊢;rw [<- aq] at z ⊢;refine S4 func74 57 U3 fun w0=>?_;refine SX fun R a=>?_;refine Tf U6 (fun b1=>?_);refine Te U5 (fun b2=>?_);refine SY [1,2] a Z ?_;clear a R;refine G.freeze 1 Z (fun _ _ K=>?_);refine Tk [(1,3)] Z (fun R a=>?_);refine SU (bkT K 3) U8 ?_;refine D.call (z _ mup) Z (.inr dc_) U6 (Pk _) fl_ (fun v9 C9 L9 _ ar=>?_);obtain ⟨b,wB,wL,wO,wW,wF,rfl,rfl⟩:=ar;refine C6 1 [1,2,3] a Z ?_;clear a R;refine Tk [(1,3)] Z (fun R a=>?_);refine SV U6 ?_;refine D.call (CB _ x.m_ p cc b _ wB wL wO wW wF Lp.openT_inv Z f om_ om_) Z (.inr dc_) U6 (Pk _) fl_ (fun aT _ aU _ au=>?_);refine SY [1,2,3] a Z ?_;clear a R;obtain ⟨-,t1,av,aw,ax,rfl⟩:=au;refine Tk [(1,3)] Z (fun R a=>?_);refine SV U6 ?_;refine D.call (yI _ x.m_ p cc b t1 wB wL wO wW av aw ax f om_ om_) Z (.inr dc_) U6 (Pk _) fl_ (fun aV _ aW _ ay=>?_);obtain ⟨t,aa,w,ab,hF,rfl⟩:=ay;obtain ⟨row,is,rfl,az,aA⟩:=Df hF;refine C6 5 [1,2,3,4,5] a Z ?_;clear a R;refine SR 2 [1,2,3,4,18] Z ?_;refine G.cd (fun L=>?_) fun L=>?_
 ·have M:is=false:=by simpa using L
  obtain ⟨r,rfl,N,ac,aB,aC⟩:=aA M;refine Uh (eY b p.n t wB wL wO wW aa) (fV w.tab.ok) (fun C5 _ y=>?_);have h:=eT w.tab.ok y;refine SS 3 Z fun R a=>?_;refine SU (bkT K 1) U8 ?_;refine SV U6 ?_;refine To (Ig _ p b r t wB wL wO wW _ h.m_ w.tab om_ N ac (fun q=>(w.dualQ f dc_ N q).le dc_)) U7 fl_ (fun aX _ _ aD=>?_);obtain ⟨g,rfl,hg⟩:=aD;refine Td [.int .i64 2,af [],.slice none 0 0,.slice (some ⟨g,0,none⟩) p.m p.m,.slice none 0 0] U8 ?_;refine S5 (j:=0) U12 ?_;refine SY [2] a Z ?_;clear a R;refine S7 (TE ag U4 ?_);exact ⟨Z,.inf _ _ (w.inf f dc_ ab N ac aB aC) hg.m_⟩
 have M:is=true:=by simpa using L
 have aE:=az M;refine Tk [(1,3)] Z (fun R a=>?_);refine SV U6 ?_;refine D.call (yn _ x.m_ p cc b t wB wL wO wW aa w ab aE f om_ om_) Z (.inr dc_) U6 (Pk _) fl_ (fun aZ _ a0 _ aF=>?_);obtain ⟨d,ad,e,ae,hM,rfl⟩:=aF;obtain ⟨a1,ah,rfl,aG,aH⟩:=Ft hM;refine C6 5 [1,2,3,6,7] a Z ?_;clear a R;refine SR 2 [1,2,3,6,32] Z ?_;refine G.cd (fun O=>?_) fun O=>?_
 ·have Q:ah=false:=by simpa using O
  obtain ⟨s,rfl,A,aI,aJ,aK⟩:=aH Q;refine Uh (eY b p.n d wB wL wO wW ad) (fV e.tab.ok) (fun C5 _ y=>?_);have h:=eT e.tab.ok y;refine Tk [(1,3),(4,3)] Z (fun R a=>?_);refine SV U6 ?_;refine D.call (AN _ b p.n (p.n+p.m) d wB wL wO wW _ h.m_ e.tab.ok om_) Z (.inr dc_) U6 (Pk _) fl_ (fun a2 _ a3 _ aL=>?_);obtain ⟨S,rfl,rfl⟩:=aL;refine SZ 2 Z ?_;refine D.call (NN _ x.m_ p b s d wB wL wO wW _ h.m_ e.tab A om_ (fun i hi=>e.fac f hi A) (e.wfac f A)) Z (.inr dc_) U6 (Pk _) fl_ (fun a4 _ a5 _ aM=>?_);obtain ⟨B,rfl,rfl⟩:=aM;refine Td [.int .i64 3,af [],.slice (some ⟨S,0,none⟩) p.n p.n,.slice none 0 0,.slice (some ⟨B,0,none⟩) p.n p.n] U8 ?_;refine S5 (j:=2) U12 ?_;refine SY [2] a Z ?_;clear a R;refine G.freezeArr 1 (((List.range p.n).map fun v=>kP d s*d.dir s v).map aP) U2 bH am (fun C8 _ T=>?_);refine G.freezeArr 1 (((List.range p.n).map d.sol).map aP) U2 bH am (fun C9 _ U=>?_);refine S7 (TE ag U4 ?_);exact ⟨Z,.unb _ _ _ _ (e.unb f dc_ ae A Ih aI aJ aK) U T.m_⟩
 have Q:ah=true:=by simpa using O
 obtain ⟨aN,aO⟩:=aG Q;refine Uh (eY b p.n d wB wL wO wW ad) (fV e.tab.ok) (fun C5 _ y=>?_);have h:=eT e.tab.ok y;refine Tg [0,1,2,3,4,5,7,8,9,10,11,12,13,14,6,15,16,17,18] [(6,3),(15,3),(4,0),(11,0),(13,0)] Z kr_ (fun R E a=>?_);refine SZ 4 Z ?_;refine TS (fun _=>((PtrTo.blockT h.o _ 1).mono E)) U9 ?_;refine SZ 5 Z ?_;refine TS (fun _=>((PtrTo.blockT h.o _ 2).mono E)) U9 ?_;refine SV U6 ?_;refine TS (fun _=>((bkT K 1).mono E)) U9 ?_;refine SV U6 ?_;refine D.call (AN _ b p.n (p.n+p.m) d wB wL wO wW _ h.m_ e.tab.ok om_) Z (.inr dc_) U6 (Pk _) fl_ (fun a6 _ a7 _ aQ=>?_);refine D.call (Gt _ p b d d.worth wB wL wO wW wW _ h.m_ e.tab om_ h.W.m_ e.tab.ok.wl) Z (.inr dc_) U6 (Pk _) fl_ (fun a8 _ a9 _ aR=>?_);obtain ⟨B,rfl,rfl⟩:=aR;obtain ⟨S,rfl,rfl⟩:=aQ;refine Td [.slice (some ⟨B,0,none⟩) p.m p.m] U8 ?_;refine Td [.int .i64 1,af (qtx d.worth.c),.slice (some ⟨S,0,none⟩) p.n p.n,.slice (some ⟨B,0,none⟩) p.m p.m,.slice none 0 0] U8 ?_;refine S5 (j:=2) U12 ?_;refine SY [2] a Z ?_;clear a E R;refine G.freezeArr 1 (((List.range p.m).map (Lp.dualV p d d.worth)).map aP) U2 bH am (fun C8 _ T=>?_);refine G.freezeArr 1 (((List.range p.n).map d.sol).map aP) U2 bH am (fun C9 _ U=>?_);refine S7 (TE ag U4 ?_);exact ⟨Z,.opt _ _ _ _ _ (e.opt f dc_ ae aN aO) U T.m_⟩
theorem Mn (C:Mem)(n:Nat)(j:n<=1000000):Jog.Fn cx.P 212 [.slice none 0 0,.int .i64 n] C [] fun u _ h=>∃ A n2 c,u=.slice A n2 c/\h=[.arr u 32 1 0 []]:=by
 have k:maxLen<=9223372036854775807:=by simp [maxLen]
 refine S4 func212 27 U3 fun w0=>SR 1 [0,1] Z<|SR 2 [0,1,6] Z<|G.cd (fun d=>?_) fun d=>?_
 ·simp at d;omega
 refine SS 2 Z fun R a=>UI Z Z Z Z Z Z Z Z Z<|SZ 2 Z<|S2 _ Z U6<|S2 _ Z U6<|C6 1 [0,1] a Z<|SR 2 [0,1,16] Z<|G.cd (fun f=>?_) fun f=>?_
 ·have i:0<n:=by
   simp at f;omega
  refine SS 2 Z fun R a=>UI Z Z Z Z Z Z Z Z Z<|TO 0 0 0 U12 (fun _=>⟨.inl ⟨Z,Z⟩,.inr ⟨_,Z⟩,.inl ⟨Z,Z⟩,Pf _,Pf _,Pf _⟩) U2<|SV U6<|Vo (m:=n) Z Z Z Z Z Z Z Z Z Z Z Z i (by show n*16<=_;omega) (by simp only [maxLen];omega) fl_ fun b g l=>SZ 2 Z<|TO 0 0 g U12 (fun _=>⟨.inl ⟨Z,Z⟩,.inr ⟨_,Z⟩,.inl ⟨Z,Z⟩,Pf _,Pm _,Pf _⟩) U2<|C6 1 [0] a Z<|SR 2 [4] Z<|VC 0 0 Z (Pm _)<|S7 (Tx Z Z ?_);refine ⟨_,_,_,Z, ?_⟩;have e:(if g=0 then some (⟨b,0,none⟩:Addr) else (some (⟨b,0,none⟩:Addr)).map (·.add (0*1)))=some ⟨b,0,none⟩:=by
   split
   ·rfl
   simp [Addr.add_lit]
  rw [e];simp
 refine SR 2 [4] Z<|G.nilArr 32 1<|S7 (Tx Z Z ?_);exact ⟨none,0,0,Z,Z⟩
def nl (xs:List (Value × List Rat)):List Rat:=(xs.map (·.2)).flatten
theorem xk {a:List (Value × List Rat)}{x:Value × List Rat}(h:a[i]?=some x):nl (a.take (i+1))=nl (a.take i)++x.2:=by
 unfold nl;rw [PN,h];simp
theorem G2 (a:List (Value × List Rat))(i:Nat):(nl (a.take i)).length<=(nl a).length:=by
 have h:nl a=nl (a.take i)++nl (a.drop i):=by
  unfold nl;rw [<- PH,<- PM,P9]
 rw [h,Po];omega
def Mu (x:Value × List Rat):List Value:=[x.1]
theorem GR (C:Mem)(v:Value)(a:List (Value × List Rat))(h:Sl C 1 v (a.map Mu))(B:∀ x∈a,Sl C 1 x.1 (x.2.map aP))(K:(nl a).length<=1000000) :
  Jog.Fn cx.P 144 [v] C [] fun u _ e=>∃ A n2 c,u=.slice A n2 c/\e=[.arr u 32 1 (nl a).length ((nl a).map aP).flatten]:=by
 obtain ⟨p,c0,rfl,L,Y,_⟩:=id h;have aa:maxLen<=9223372036854775807:=by simp [maxLen]
 simp only [al] at h L ⊢;refine S4 func144 36 U3 fun w0=>SR 1 [0] Z<|SR 1 [0,3] Z<|SR 3 [0,3,9,10,11] Z<|G.loop (fun fr M e q=>∃ (i:Nat)(z:Int),(i<=a.length/\z=(nl (a.take i)).length)/\fr=[(0,[],.slice p a.length c0),(3,[],.int .i64 z),(9,[],.slice p a.length c0),(10,[],.int .i64 a.length),(11,[],.int .i64 i)]/\e=[]/\q=a.length-i) (hn_ [0,3,9,10,11] Z) ⟨0,0,⟨Pm _,Z⟩,Z,Z,Z⟩ (fun fr ab ac m _ r=>?_);obtain ⟨i,z,⟨hi,s⟩,rfl,rfl,rfl⟩:=r;refine SR 1 [0,3,9,10,11,12] Z<|G.cd (fun t=>?_) fun t=>?_
 ·have f:i<a.length:=by
   have:=OD t;omega
  obtain ⟨x,d⟩:∃ x,a[i]?=some x:=⟨a[i],ak f⟩;have g:=B x (Pe d);obtain ⟨w,l⟩:=x;simp only at g;obtain ⟨Ax,ad,rfl,N,ae,_⟩:=id g;simp only [al] at g N d;have k:=xk d;have E:=G2 a (i+1);have O:(nl (a.take (i+1))).length=(nl (a.take i)).length+l.length:=by rw [k,Po]
  refine SX fun R b=>Ta h.m_ U10 om_ (show (a.map Mu)[i]?=some [_] from kA d) fl_ fun ag Q=>SU Q U8<|C6 1 [0,3,5,9,10,11] b Z<|SS 3 Z fun R b=>S2 _ Z U6<|C6 1 [0,3,9,10,11] b Z<|SR 2 [0,3,9,10,11,20] Z<|G.cd (fun F=>?_) fun F=>?_
  ·exfalso;have ah:=OD F;omega
  refine SX fun R b=>S2 _ Z U6<|C6 1 [0,3,9,10,11] b Z<|S6 (m':=a.length-(i+1)) om_ mup (hn_ [0,3,9,10,11] Z) ⟨i+1,_,⟨by omega,by rw [s];omega⟩,Z,Z,Z⟩
 have f:i=a.length:=by
  have:=Pj t;omega
 rw [f,Pv] at s;subst s;refine Tk [(1,3)] Z fun R b=>SV U6<|D.call (Mn _ (nl a).length K) Z (.inr dc_) U6 (Pk _) fl_ (fun ai _ aj _ S=>?_);obtain ⟨T,U,V,rfl,rfl⟩:=S;refine C6 1 [0,6] b Z<|SR 3 [6,25,26,27] Z<|G.loop (fun fr M e q=>∃ (i:Nat)(n:Option Addr)(n1 o:Nat),(i<=a.length)/\fr=[(6,[],.slice n n1 o),(25,[],.slice p a.length c0),(26,[],.int .i64 a.length),(27,[],.int .i64 i)]/\e=[.arr (.slice n n1 o) 32 1 (nl (a.take i)).length ((nl (a.take i)).map aP).flatten]/\q=a.length-i) (hn_ [6,25,26,27] Z) ⟨0,T,U,V,Pm _,Z,Z,Z⟩ (fun fr am an m E r=>?_);obtain ⟨i,n,n1,o,ao,rfl,rfl,rfl⟩:=r;refine SR 1 [6,25,26,27,28] Z<|G.cd (fun y=>?_) fun y=>?_
 ·have f:i<a.length:=by
   have:=OD y;omega
  obtain ⟨x,d⟩:∃ x,a[i]?=some x:=⟨a[i],ak f⟩;have g:=B x (Pe d);have k:=xk d;have E:=G2 a (i+1);have O:(nl (a.take (i+1))).length=(nl (a.take i)).length+x.2.length:=by rw [k,Po]
  refine SX fun R b=>Ta h.m_ U10 om_ (show (a.map Mu)[i]?=some [x.1] from kA d) fl_ fun ap W=>SU W U8<|C6 1 [6,8,25,26,27] b Z<|SS 2 Z fun R b=>Tq (j:=0) U11 g.m_ (by simp [aP,na,af]) (by simp only [al,maxLen];omega) (by show ((nl (a.take i)).length+(x.2.map aP).length)*16<=_;rw [al];omega) fl_ fun H I J=>C6 1 [6,25,26,27] b Z<|SX fun R b=>S2 _ Z U6<|C6 1 [6,25,26,27] b Z<|Tc (L':=[.arr (.slice H I J) 32 1 (nl (a.take (i+1))).length ((nl (a.take (i+1))).map aP).flatten]) (by rw [k,PM,PH,Po,al];rfl)<|S6 (m':=a.length-(i+1)) om_ mup (hn_ [6,25,26,27] Z) ⟨i+1,H,I,J,om_,Z,Z,Z⟩
 have X:i=a.length:=by
  have:=Pj y;omega
 refine SR 2 [2] Z<|S7 (Tx Z Z ?_);exact ⟨n,n1,o,Z,by rw [X,Pv]⟩
theorem Ah (C:Mem)(N:Tabs C)(o:Int)(y:Str)(f g i:Value)(a b c:List Rat)(z:Sl C 1 f (a.map aP))(A:Sl C 1 g (b.map aP))(B:Sl C 1 i (c.map aP))(O:∀ x∈a,QB 20 x)(Q:∀ x∈b,QB 20 x)(S:∀ x∈c,QB 20 x)(ae:a.length<=1000)(ag:b.length<=1000)(ah:c.length<=1000)
  (T:o=1->∃ q,y=qtx q/\QB 20 q):Gives cx.P 75 [.agg ⟨[.int .i64 o,af y,f,g,i]⟩] C (.bool true):=by
 have E:nl [(f,a),(g,b),(i,c)]=a++(b++(c++[])):=rfl;have F:(nl [(f,a),(g,b),(i,c)]).length<=1000000:=by rw [E];simp;omega
 obtain ⟨all,H⟩:∃ all,nl [(f,a),(g,b),(i,c)]=all:=⟨_,rfl⟩;have I:∀ x∈all,QB 20 x:=fun x d=>by
  rw [<- H,E] at d;simp only [Px,Qh,Rz] at d;rcases d with h | h | h
  ·exact O x h
  ·exact Q x h
  exact S x h
 have U:∀ l:List Rat,(∀ x∈l,QB 20 x)->((l.map qtx).any fun s=>!aW s)=false:=fun l V=>List.any_eq_false.2 fun s hs=>by
  obtain ⟨x,d,rfl⟩:=Pn.1 hs;rw [bC ((V x d).le dc_)];decide
 obtain ⟨p,r,rfl,_⟩:=id z;obtain ⟨t,u,rfl,_⟩:=id A;obtain ⟨v,w,rfl,_⟩:=id B;have W:∀ D:Mem,C.le D->∀ x∈[(Value.slice p (a.map aP).length r,a),(Value.slice t (b.map aP).length u,b),(Value.slice v (c.map aP).length w,c)],Sl D 1 x.1 (x.2.map aP):=fun D k x d=>by
  simp only [Ps,Qh,Rz] at d;rcases d with h | h | h
  ·rw [h];exact z.mono k
  ·rw [h];exact A.mono k
  rw [h];exact B.mono k
 refine S4 func75 24 U3 fun w0=>SX fun R e=>Tf U6 fun b1=>C6 1 [1] e Z<|G.freeze 0 Z fun _ _ m=>Tk [(8,3)] Z fun R e=>SV U6<|SU (bkT m 1) U8<|SZ 2 Z<|SU (bkT m 1) U8<|SV U6<|SU (bkT m 1) U8<|Th [[.slice p (a.map aP).length r],[.slice t (b.map aP).length u],[.slice v (c.map aP).length w]] U12 fun ai _ _ X=>D.call (GR _ _ [(.slice p (a.map aP).length r,a),(.slice t (b.map aP).length u,b),(.slice v (c.map aP).length w,c)] X.m_ (W _ mup) F) Z (.inr dc_) U6 (Pk _) fl_ (fun aj _ ak _ Y=>?_);obtain ⟨A3,n3,c3,rfl,rfl⟩:=Y;rw [H] at F ⊢;refine C6 1 [1,3] e Z<|SS 1 Z fun R e=>SU (bkT m 1) U8<|C6 1 [1,3,15] e Z<|G.cut (fun fr C' J μ=>∃ (n:Value)(l:List Rat),(∀ x∈l,QB 20 x)/\fr=[(3,[],n)]/\J=[.arr n 32 1 l.length (l.map aP).flatten]) ?_ (fun fr _ al μ _ hI=>?_)
 ·refine G.cd (fun K=>?_) fun K=>?_
  ·have aa:o=1:=by simpa using K
   obtain ⟨q,rfl,ab⟩:=T aa;refine SS 2 Z fun R e=>SU (bkT m 1) U8<|Th [[af (qtx q)]] U12 fun an _ _ ac=>D.append (j:=0) U11 ac Z aw (by show (all.length+1)*16<=_;omega) fl_ fun L=>C6 1 [3] e Z<|Tc (L':=[.arr L 32 1 (all++[q]).length ((all++[q]).map aP).flatten]) (by rw [PM,PH,Po];rfl)<|S9 0 mup (hn_ [3] Z) ⟨L,all++[q],fun x d=>by
    rcases Px.1 d with h | h
    ·exact I x h
    rw [PE.1 h];exact ab,rfl,rfl⟩
  refine S9 0 (Mem.le.refl _) (hn_ [3] Z) ⟨_,all,I,Z,Z⟩
 obtain ⟨n ,l,M,rfl,rfl⟩:=hI;refine G.freezeArr 0 (l.map aP) U2 bH am fun _ _ ad=>SS 1 Z fun R e=>Tb (E9 _ n (l.map qtx) 102 [] (fun s=>!aW s) (by rw [<- pS];exact ad.mono mup) kr_ (fun s hs D k=>by
  obtain ⟨x,d,rfl⟩:=Pn.1 hs;exact oW D (N.mono (Mem.le.trans mup k)) (qtx x) (Py (bx (M x d) dc_) dc_))) U7 fl_ ?_
 exact C6 2 [2] e Z<|S3 U2<|⟨by rw [U l M];rfl,Z⟩
end Go.Proofs.YtfjcldheldflbaaGreatDoor
