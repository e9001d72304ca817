/- Laws that the proofs of this seat share, part 10. -/
import Derived.Test.YtifolnapeolhcaaGreatDoorG9
import Derived.Test.YtifolnapeolhcaaGreatDoorShelf
set_option maxHeartbeats 4000000
namespace Go.Proofs.YtifolnapeolhcaaGreatDoor
open Go Go.Jog
set_option maxRecDepth 100000

theorem putF_line {l y:Lp.Line}{s:Nat}(hs:s<l.f.length):putF l.f y.f s (l.f.getD s 0) l.f.length=(Lp.putL l s y).f/\l.c+l.f.getD s 0*y.c=(Lp.putL l s y).c:=by
 have h:=putF_putL (c:=l.c) (bc:=y.c) (bf:=y.f) hs
 exact ⟨(congrArg Lp.Line.f h).symm,(congrArg Lp.Line.c h).symm⟩
theorem putL3_fn (C:Mem)(hT:Tabs C)(bL m cL i n s:Nat)(w wy:Value)(ls:List (Rat × Value))(l y:Lp.Line)(hml:ls.length=m)(hli:ls[i]?=some (l.c,w))(hfl:l.f.length=n)(hbl:y.f.length=n)(hs:s<n)(ql:QB 10 l.c/\∀ x∈l.f,QB 10 x)(qy:QB 10 y.c/\∀ x∈y.f,QB 10 x) :
  Jog.Fn cx.P 162 [.pointer (some ⟨bL,i*2,none⟩),.int .i64 s,.agg ⟨[strV (qtx y.c),wy]⟩] C [.arr wy 27 1 n (y.f.map encR).flatten,.arr (.slice (some ⟨bL,0,none⟩) m cL) 140 2 m (ls.map encL).flatten,.arr w 27 1 n (l.f.map encR).flatten]
   fun u _ L'=>u=.tuple #[]/\L'=[.arr wy 27 1 n (y.f.map encR).flatten,.arr (.slice (some ⟨bL,0,none⟩) m cL) 140 2 m ((ls.set i ((Lp.putL l s y).c,w)).map encL).flatten,.arr w 27 1 n ((Lp.putL l s y).f.map encR).flatten]:=by
 obtain ⟨h1,h2⟩:=putF_line (l:=l) (y:=y) (s:=s) om_
 rw [<- h1,<- h2,hfl]
 exact putL2_fn C hT bL m cL i n s w wy ls l.f y.f l.c y.c hml hli hfl hbl hs ql.1 ql.2 qy.1 qy.2
theorem putW3_fn (C:Mem)(hT:Tabs C)(bt n s:Nat)(v0 v1 v2 v3 w wy:Value)(l y:Lp.Line)(hfl:l.f.length=n)(hbl:y.f.length=n)(hs:s<n)(ql:QB 10 l.c/\∀ x∈l.f,QB 10 x)(qy:QB 10 y.c/\∀ x∈y.f,QB 10 x) :
  Jog.Fn cx.P 162 [.pointer (some ⟨bt,4,none⟩),.int .i64 s,.agg ⟨[strV (qtx y.c),wy]⟩] C [.arr wy 27 1 n (y.f.map encR).flatten,.obj bt (.cells ⟨[v0,v1,v2,v3,strV (qtx l.c),w]⟩ 143 (0,0)),.arr w 27 1 n (l.f.map encR).flatten]
   fun u _ L'=>u=.tuple #[]/\L'=[.arr wy 27 1 n (y.f.map encR).flatten,.obj bt (.cells ⟨[v0,v1,v2,v3,strV (qtx (Lp.putL l s y).c),w]⟩ 143 (0,0)),.arr w 27 1 n ((Lp.putL l s y).f.map encR).flatten]:=by
 obtain ⟨h1,h2⟩:=putF_line (l:=l) (y:=y) (s:=s) om_
 rw [<- h1,<- h2,hfl]
 exact putW2_fn C hT bt n s v0 v1 v2 v3 w wy l.f y.f l.c y.c hfl hbl hs ql.1 ql.2 qy.1 qy.2
def byF (l:Lp.Line)(s j:Nat):List Rat:=(List.range l.f.length).map fun q=>if q<j then (Lp.byL l s).g q else 0
theorem byF_len {l:Lp.Line}{s j:Nat}:(byF l s j).length=l.f.length:=by simp [byF]
theorem byF_at {l:Lp.Line}{s j q:Nat}(h:q<l.f.length):(byF l s j)[q]?=some (if q<j then (Lp.byL l s).g q else 0):=by
 unfold byF
 rw [List.getElem?_map,List.getElem?_range h];rfl
theorem byF_zero {l:Lp.Line}{s:Nat}:List.replicate l.f.length 0=byF l s 0:=by
 refine List.ext_getElem? fun v=>?_
 by_cases hv:v<l.f.length
 ·rw [byF_at hv,List.getElem?_replicate,if_pos hv,if_neg (Nat.not_lt_zero _)]
 ·rw [List.getElem?_eq_none (by simp;omega),List.getElem?_eq_none (by rw [byF_len];omega)]
theorem byF_set {l:Lp.Line}{s j:Nat}(h:j<l.f.length):(byF l s j).set j (-(if j=s then -1 else l.g j) / l.g s)=byF l s (j+1):=by
 refine List.ext_getElem? fun q=>?_
 rw [List.getElem?_set,byF_len]
 by_cases hq:q<l.f.length
 ·rw [byF_at hq,byF_at hq]
  by_cases e:j=q
  ·subst e
   rw [if_pos rfl,if_pos hq,if_pos (Nat.lt_succ_self j),Lp.byL_g hq]
   congr 1
   split <;> grind
  ·rw [if_neg e]
   by_cases h1:q<j
   ·rw [if_pos h1,if_pos om_]
   ·rw [if_neg h1,if_neg om_]
 ·rw [if_neg om_,List.getElem?_eq_none (by rw [byF_len];omega),List.getElem?_eq_none (by rw [byF_len];omega)]
theorem byL_len {l:Lp.Line}{s:Nat}:(Lp.byL l s).f.length=l.f.length:=by simp [Lp.byL]
theorem byF_end {l:Lp.Line}{s:Nat}:byF l s l.f.length=(Lp.byL l s).f:=by
 refine List.ext_getElem? fun q=>?_
 by_cases hq:q<l.f.length
 ·rw [byF_at hq,if_pos hq]
  unfold Lp.Line.g
  rw [List.getD_eq_getElem?_getD,List.getElem?_eq_getElem (by rw [byL_len];exact hq)];rfl
 ·rw [List.getElem?_eq_none (by rw [byF_len];omega),List.getElem?_eq_none (by rw [byL_len];omega)]
def stL (t:Lp.Tab)(r s i q:Nat):Lp.Line:=if q<i/\q≠r then Lp.putL (t.line q) s (Lp.byL (t.line r) s) else t.line q
def stV (t:Lp.Tab)(wF:Nat->Value)(r s i:Nat):List (Rat × Value):=(List.range t.basic.length).map fun q=>((stL t r s i q).c,wF q)
def stE (t:Lp.Tab)(wF:Nat->Value)(r s i q:Nat):Ent:=.arr (wF q) 27 1 t.others.length ((stL t r s i q).f.map encR).flatten
theorem stV_len {t:Lp.Tab}{wF:Nat->Value}{r s i:Nat}:(stV t wF r s i).length=t.basic.length:=by simp [stV]
theorem stV_at {t:Lp.Tab}{wF:Nat->Value}{r s i q:Nat}(h:q<t.basic.length):(stV t wF r s i)[q]?=some ((stL t r s i q).c,wF q):=by
 unfold stV
 rw [List.getElem?_map,List.getElem?_range h];rfl
theorem stL_zero {t:Lp.Tab}{r s q:Nat}:stL t r s 0 q=t.line q:=if_neg fun h=>Nat.not_lt_zero _ h.1
theorem stL_other {t:Lp.Tab}{r s i q:Nat}(h:q≠i):stL t r s (i+1) q=stL t r s i q:=by
 unfold stL
 by_cases h1:q<i/\q≠r
 ·rw [if_pos h1,if_pos ⟨by omega,h1.2⟩]
 ·rw [if_neg h1,if_neg fun h2=>h1 ⟨by omega,h2.2⟩]
theorem stL_same {t:Lp.Tab}{r s i:Nat}(h:i≠r):stL t r s i i=t.line i/\stL t r s (i+1) i=Lp.putL (t.line i) s (Lp.byL (t.line r) s) :=
 ⟨if_neg fun h2=>Nat.lt_irrefl _ h2.1,if_pos ⟨Nat.lt_succ_self _,h⟩⟩
theorem stL_skip {t:Lp.Tab}{r s q:Nat}:stL t r s (r+1) q=stL t r s r q:=by
 by_cases h:q=r
 ·subst h
  unfold stL
  rw [if_neg fun h=>h.2 rfl,if_neg fun h=>h.2 rfl]
 ·exact stL_other h
theorem stV_set {t:Lp.Tab}{wF:Nat->Value}{r s i:Nat}(hi:i<t.basic.length)(h:i≠r):(stV t wF r s i).set i ((Lp.putL (t.line i) s (Lp.byL (t.line r) s)).c,wF i)=stV t wF r s (i+1):=by
 refine List.ext_getElem? fun q=>?_
 rw [List.getElem?_set,stV_len]
 by_cases hq:q<t.basic.length
 ·rw [stV_at hq,stV_at hq]
  by_cases e:i=q
  ·subst e
   rw [if_pos rfl,if_pos hq,(stL_same h).2]
  ·rw [if_neg e,stL_other (Ne.symm e)]
 ·rw [if_neg om_,List.getElem?_eq_none (by rw [stV_len];omega),List.getElem?_eq_none (by rw [stV_len];omega)]
theorem stV_skip {t:Lp.Tab}{wF:Nat->Value}{r s:Nat}:stV t wF r s (r+1)=stV t wF r s r:=by
 unfold stV
 simp only [stL_skip]
theorem stV_zero {t:Lp.Tab}{wF:Nat->Value}{r s:Nat}:stV t wF r s 0=bE t wF:=by
 unfold stV bE
 simp only [stL_zero]
theorem stV_end {t:Lp.Tab}{N:Nat}{wF:Nat->Value}{r s:Nat}{wy:Value}(ok:t.Ok N)(hr:r<t.basic.length):(stV t wF r s t.basic.length).set r ((Lp.byL (t.line r) s).c,wy)=bE (t.pivot r s) fun q=>if q=r then wy else wF q:=by
 have hlb:(t.pivot r s).basic.length=t.basic.length:=List.length_set
 refine List.ext_getElem? fun q=>?_
 rw [List.getElem?_set,stV_len]
 by_cases hq:q<t.basic.length
 ·rw [stV_at hq,rowsV_at (by rw [hlb];exact hq),Lp.pivot_line (by rw [ok.ll];exact hq)]
  by_cases e:r=q
  ·subst e
   rw [if_pos rfl,if_pos hq,if_pos rfl,if_pos rfl]
  ·rw [if_neg e,if_neg (Ne.symm e),if_neg (Ne.symm e)]
   unfold stL
   rw [if_pos ⟨hq,Ne.symm e⟩]
 ·rw [if_neg om_,List.getElem?_eq_none (by rw [stV_len];omega),List.getElem?_eq_none (by rw [dT,hlb];omega)]
theorem range_nd {m:Nat}:(List.range m).Nodup:=List.nodup_range
theorem stE_end {t:Lp.Tab}{N:Nat}{wF:Nat->Value}{r s:Nat}{wy:Value}(ok:t.Ok N)(hr:r<t.basic.length) :
  (.arr wy 27 1 t.others.length ((Lp.byL (t.line r) s).f.map encR).flatten::((List.range t.basic.length).erase r).map (stE t wF r s t.basic.length)).Perm (((List.range (t.pivot r s).basic.length).map (rowL (t.pivot r s) fun q=>if q=r then wy else wF q)).map Lent.ent):=by
 have hlb:(t.pivot r s).basic.length=t.basic.length:=List.length_set
 have hlo:(t.pivot r s).others.length=t.others.length:=List.length_set
 rw [hlb,List.map_map]
 have h0:(Lent.ent ∘ rowL (t.pivot r s) fun q=>if q=r then wy else wF q) r=.arr wy 27 1 t.others.length ((Lp.byL (t.line r) s).f.map encR).flatten:=by
  show Ent.arr (if r=r then wy else wF r) _ 1 (t.pivot r s).others.length _=_
  rw [if_pos rfl,hlo,Lp.pivot_line (by rw [ok.ll];exact hr),if_pos rfl]
 have h1:=map_front range_nd (List.mem_range.2 hr) (Lent.ent ∘ rowL (t.pivot r s) fun q=>if q=r then wy else wF q) (stE t wF r s t.basic.length) (fun q hq hne=>by
  have hq':=List.mem_range.1 hq
  show Ent.arr (if q=r then wy else wF q) _ 1 (t.pivot r s).others.length _=_
  rw [if_neg hne,hlo,Lp.pivot_line (by rw [ok.ll];exact hq'),if_neg hne]
  unfold stE stL
  rw [if_pos ⟨hq',hne⟩])
 rw [h0] at h1
 exact h1.symm
theorem tab_end {b n N:Nat}{t:Lp.Tab}{wB wL wO wW wy:Value}{wF:Nat->Value}{r s:Nat}(ok:t.Ok N)(hr:r<t.basic.length) :
  (([.obj b (.cells ⟨[.int .i64 n,wB,wL,wO,strV (qtx (Lp.putL t.worth s (Lp.byL (t.line r) s)).c),wW]⟩ 143 (0,0)),.arr wB 3 1 t.basic.length ((t.basic.set r (t.oth s)).map encN).flatten,.arr wL 140 2 t.basic.length (((stV t wF r s t.basic.length).set r ((Lp.byL (t.line r) s).c,wy)).map encL).flatten,.arr wO 3 1 t.others.length ((t.others.set s (t.bas r)).map encN).flatten,.arr wW 27 1 t.others.length (((Lp.putL t.worth s (Lp.byL (t.line r) s)).f).map encR).flatten]:List Ent)++(.arr wy 27 1 t.others.length ((Lp.byL (t.line r) s).f.map encR).flatten::((List.range t.basic.length).erase r).map (stE t wF r s t.basic.length))).Perm ((tabL b n (t.pivot r s) wB wL wO wW fun q=>if q=r then wy else wF q).map Lent.ent):=by
 have hlb:(t.pivot r s).basic.length=t.basic.length:=List.length_set
 have hlo:(t.pivot r s).others.length=t.others.length:=List.length_set
 rw [stV_end ok hr]
 refine (List.Perm.append_left _ (stE_end ok hr)).trans (List.Perm.of_eq ?_)
 unfold tabL
 simp only [List.map_cons,Lent.ent,hlb,hlo]
 rfl
theorem nget_at {l:List Nat}{i:Nat}(h:i<l.length):l[i]?=some (l.getD i 0):=by
 rw [List.getD_eq_getElem?_getD,List.getElem?_eq_getElem h];rfl
theorem aI {b n:Nat}{t:Lp.Tab}{wB wL wO wW:Value}{wF:Nat->Value}(r s:Nat):(tabL b n t wB wL wO wW wF).map Lent.ent=[.obj b (.cells ⟨[.int .i64 n,wB,wL,wO,strV (qtx t.worth.c),wW]⟩ 143 (0,0)),.arr wB 3 1 t.basic.length ((t.basic).map encN).flatten,.arr wL 140 2 t.basic.length ((bE t wF).map encL).flatten,.arr wO 3 1 t.others.length ((t.others).map encN).flatten,.arr wW 27 1 t.others.length ((t.worth.f).map encR).flatten]++(List.range t.basic.length).map (stE t wF r s 0):=by
 have e:stE t wF r s 0=Lent.ent ∘ rowL t wF:=funext fun q=>by
  unfold stE
  rw [stL_zero];rfl
 rw [e,<- List.map_map];rfl
def LineQ (k:Nat)(l:Lp.Line):Prop:=QB k l.c/\∀ x∈l.f,QB k x
theorem LineQ.le {k m:Nat}{l:Lp.Line}(h:LineQ k l)(hk:k<=m):LineQ m l:=⟨h.1.le hk,fun x hx=>(h.2 x hx).le hk⟩
theorem LineQ.g {k:Nat}{l:Lp.Line}(h:LineQ k l){j:Nat}(hj:j<l.f.length):QB k (l.g j):=by
 unfold Lp.Line.g
 rw [List.getD_eq_getElem?_getD,List.getElem?_eq_getElem hj]
 exact h.2 _ (List.getElem_mem _)
theorem byL_q {l:Lp.Line}{s:Nat}(h:LineQ 1 l)(hs:s<l.f.length)(hk:l.g s≠0):LineQ 2 (Lp.byL l s):=by
 have hg:=h.g hs
 refine ⟨QB_div (QB_neg h.1) hg hk,fun x hx=>?_⟩
 obtain ⟨q,hq,rfl⟩:=List.mem_map.1 hx
 have hq':=List.mem_range.1 hq
 split
 ·exact QB_div ⟨by decide,by decide⟩ hg hk
 ·exact QB_div (QB_neg (h.g hq')) hg hk
theorem pivot_fn (C:Mem)(hT:Tabs C)(b n r s N:Nat)(t:Lp.Tab)(wB wL wO wW:Value)(wF:Nat->Value)(ok:t.Ok N)(hm:t.basic.length<=1000000)(hk6:t.others.length<=1000000)(hr:r<t.basic.length)(hs:s<t.others.length)(hk:(t.line r).g s≠0)(hq:∀ i,i<t.basic.length->LineQ 1 (t.line i))(hqw:LineQ 1 t.worth) :
  Jog.Fn cx.P 113 [.pointer (some ⟨b,0,none⟩),.int .i64 r,.int .i64 s] C ((tabL b n t wB wL wO wW wF).map Lent.ent) fun u _ L'=>u=.tuple #[]/\∃ wF',L'=(tabL b n (t.pivot r s) wB wL wO wW wF').map Lent.ent:=by
 have hmx:maxLen<=9223372036854775807:=by simp [maxLen]
 have hlr:=eM ok hr
 have hwl:=ok.wl
 have hql:=hq r hr
 have hsl:s<(t.line r).f.length:=by omega
 have hqg:=hql.g hsl
 have hqy:=byL_q hql hsl hk
 refine Fn.it kr_ Tryz.func113 123 fun w0=>?_
 rw [aI r s]
 refine G.aM (L':=[.obj b (.cells ⟨[.int .i64 n,wB,wL,wO,strV (qtx t.worth.c),wW]⟩ 143 (0,0)),.arr wB 3 1 t.basic.length ((t.basic).map encN).flatten,.arr wL 140 2 t.basic.length ((bE t wF).map encL).flatten,.arr wO 3 1 t.others.length ((t.others).map encN).flatten,.arr wW 27 1 t.others.length ((t.worth.f).map encR).flatten]++(List.range t.basic.length).map (stE t wF r s 0)) rfl ?_
 refine G.fe 1 rfl om_ (fun gB cB hw=>?_)
 subst hw
 refine G.fe 2 rfl om_ (fun gL cL hw=>?_)
 subst hw
 refine G.fe 3 rfl om_ (fun gO cO hw=>?_)
 subst hw
 refine G.perm (L':=[.arr (wF r) 27 1 t.others.length ((t.line r).f.map encR).flatten,.obj b (.cells ⟨[.int .i64 n,.slice (some ⟨gB,0,none⟩) t.basic.length cB,.slice (some ⟨gL,0,none⟩) t.basic.length cL,.slice (some ⟨gO,0,none⟩) t.others.length cO,strV (qtx t.worth.c),wW]⟩ 143 (0,0)),.arr (.slice (some ⟨gB,0,none⟩) t.basic.length cB) 3 1 t.basic.length ((t.basic).map encN).flatten,.arr (.slice (some ⟨gL,0,none⟩) t.basic.length cL) 140 2 t.basic.length ((bE t wF).map encL).flatten,.arr (.slice (some ⟨gO,0,none⟩) t.others.length cO) 3 1 t.others.length ((t.others).map encN).flatten,.arr wW 27 1 t.others.length ((t.worth.f).map encR).flatten]++((List.range t.basic.length).erase r).map (stE t wF r s 0)) (by
  have h1:=map_front range_nd (List.mem_range.2 hr) (stE t wF r s 0) (stE t wF r s 0) (fun _ _ _=>rfl)
  refine (List.Perm.append_left _ h1).trans ?_
  have e:stE t wF r s 0 r=.arr (wF r) 27 1 t.others.length ((t.line r).f.map encR).flatten:=by unfold stE;rw [stL_zero]
  rw [e]
  (exact pkL [5] rfl)) ?_
 refine G.freezeArr 0 ((t.line r).f.map encR) rfl rfl bK (by simp [hlr]) (fun C3 hle3 hrow=>?_)
 obtain ⟨A3,c3,h30,h31,h32,_⟩:=id hrow
 rw [h30] at hrow
 simp only [List.length_map] at hrow h31
 have hli:(bE t wF)[r]?=some ((t.line r).c,.slice A3 (t.line r).f.length c3):=by rw [rowsV_at hr,h30,List.length_map]
 refine G.rp 3 fun R hR=>?_
 refine D.ah (.head _) ?_
 refine D.ae ?_
 refine D.aD (r*2) rfl rfl rfl rfl rfl rfl rfl rfl rfl rfl (fun _=>⟨by omega,by omega,rfl⟩) rfl rfl ?_
 refine D.aT (v:=.agg ⟨[strV (qtx (t.line r).c),.slice A3 (t.line r).f.length c3]⟩) (.tail _ (.tail _ (.head _))) rfl rfl rfl rfl rfl rfl (fun _=>(by rw [line_get hli];rfl)) rfl rfl ?_
 refine D.aC (fun b6=>?_)
 refine D.ag (j:=0) ?_
 refine D.e4 0 1 2 6 hR ?_
 refine G.freeze 0 rfl (fun C6 hle6 hb6=>?_)
 refine G.rp 1 fun R hR=>?_
 refine D.ac (bkT hb6 1) ?_
 refine D.ae ?_
 refine D.ak (hrow.mono mup) rfl rfl rfl rfl rfl rfl rfl rfl rfl rfl om_ (ct hsl) fl_ (fun p22 hp22=>?_)
 refine D.ac hp22 ?_
 refine D.q5 1 0 1 2 6 7 hR ?_
 refine G.aA [(5,3)] rfl (fun R hR=>?_)
 refine D.ps 3 ?_
 refine D.ah (.head _) ?_
 refine D.ae ?_
 refine D.call (pzeros_fn _ t.others.length om_) rfl (.inr (by decide)) rfl rfl rfl rfl rfl rfl (List.Perm.refl _) fl_ (fun v29 C29 L29 hle29 hq29=>?_)
 obtain ⟨gy,rfl,rfl⟩:=hq29
 refine D.build [strV [],.slice (some ⟨gy,0,none⟩) t.others.length t.others.length] rfl rfl rfl rfl rfl rfl rfl rfl ?_
 refine D.aC (fun b8=>?_)
 refine D.ag (j:=0) ?_
 refine D.e6 0 1 2 6 7 8 hR ?_
 refine G.rp 1 fun R hR=>?_
 refine D.ac (bkT hb6 1) ?_
 refine D.al (rneg_fn _ (t.line r).c (Nat.le_trans (aZ hql.1 (by decide)) (by decide))) rfl rfl rfl rfl rfl rfl rfl fl_ ?_
 refine D.ae ?_
 refine D.al (rdiv_fn _ (hT.mono mup) (-(t.line r).c) ((t.line r).g s) 1 (by decide) (by decide) (QB_neg hql.1) hqg hk) rfl rfl rfl rfl rfl rfl rfl fl_ ?_
 refine D.ps 4 ?_
 refine D.ag (j:=0) ?_
 refine D.e6 0 1 2 6 7 8 hR ?_
 refine G.rp 1 fun R hR=>?_
 refine D.ac (bkT hb6 1) ?_
 refine D.q8 2 0 1 2 7 8 41 42 43 hR ?_
 refine G.aM (L':=[.obj b8 (.cells ⟨[strV (qtx (Lp.byL (t.line r) s).c),.slice (some ⟨gy,0,none⟩) t.others.length t.others.length]⟩ 140 (0,0)),.arr (.slice (some ⟨gy,0,none⟩) t.others.length t.others.length) 27 1 t.others.length ((byF (t.line r) s 0).map encR).flatten,.obj b (.cells ⟨[.int .i64 n,.slice (some ⟨gB,0,none⟩) t.basic.length cB,.slice (some ⟨gL,0,none⟩) t.basic.length cL,.slice (some ⟨gO,0,none⟩) t.others.length cO,strV (qtx t.worth.c),wW]⟩ 143 (0,0)),.arr (.slice (some ⟨gB,0,none⟩) t.basic.length cB) 3 1 t.basic.length ((t.basic).map encN).flatten,.arr (.slice (some ⟨gL,0,none⟩) t.basic.length cL) 140 2 t.basic.length ((bE t wF).map encL).flatten,.arr (.slice (some ⟨gO,0,none⟩) t.others.length cO) 3 1 t.others.length ((t.others).map encN).flatten,.arr wW 27 1 t.others.length ((t.worth.f).map encR).flatten]++((List.range t.basic.length).erase r).map (stE t wF r s 0)) (by rw [<- byF_zero,hlr,<- rep_enc];rfl) ?_
 refine G.loop (fun fr C' L' μ=>∃ (j:Nat),(j<=(t.line r).f.length)/\fr=[(0,[],.pointer (some ⟨b,0,none⟩)),(1,[],.int .i64 r),(2,[],.int .i64 s),(7,[],strV (qtx ((t.line r).g s))),(8,[],.pointer (some ⟨b8,0,none⟩)),(41,[],.slice A3 (t.line r).f.length c3),(42,[],.int .i64 (t.line r).f.length),(43,[],.int .i64 j)]/\L'=[.obj b8 (.cells ⟨[strV (qtx (Lp.byL (t.line r) s).c),.slice (some ⟨gy,0,none⟩) t.others.length t.others.length]⟩ 140 (0,0)),.arr (.slice (some ⟨gy,0,none⟩) t.others.length t.others.length) 27 1 t.others.length ((byF (t.line r) s j).map encR).flatten,.obj b (.cells ⟨[.int .i64 n,.slice (some ⟨gB,0,none⟩) t.basic.length cB,.slice (some ⟨gL,0,none⟩) t.basic.length cL,.slice (some ⟨gO,0,none⟩) t.others.length cO,strV (qtx t.worth.c),wW]⟩ 143 (0,0)),.arr (.slice (some ⟨gB,0,none⟩) t.basic.length cB) 3 1 t.basic.length ((t.basic).map encN).flatten,.arr (.slice (some ⟨gL,0,none⟩) t.basic.length cL) 140 2 t.basic.length ((bE t wF).map encL).flatten,.arr (.slice (some ⟨gO,0,none⟩) t.others.length cO) 3 1 t.others.length ((t.others).map encN).flatten,.arr wW 27 1 t.others.length ((t.worth.f).map encR).flatten]++((List.range t.basic.length).erase r).map (stE t wF r s 0)/\μ=(t.line r).f.length-j) (h_8 0 1 2 7 8 41 42 43) ⟨0,Nat.zero_le _,rfl,rfl,rfl⟩ (fun fr C0' L0' m hle0 hI=>?_)
 obtain ⟨j,hj,rfl,rfl,rfl⟩:=hI
 refine G.z9 1 0 1 2 7 8 41 42 43 44 ?_
 refine G.cd (fun h44=>?_) fun h44=>?_
 ·have hjl:j<(t.line r).f.length:=by
   have:=of_decide_eq_true h44
   omega
  have hxq:QB 1 (if j=s then (-1:Rat) else (t.line r).g j):=by
   split
   ·exact ⟨by decide,by decide⟩
   ·exact hql.g hjl
  refine G.rp 1 fun R hR=>?_
  refine D.ak (hrow.mono mup) rfl rfl rfl rfl rfl rfl rfl rfl rfl rfl om_ (show ((t.line r).f.map encR)[j]?=some (encR ((t.line r).g j)) from ct hjl) fl_ (fun p46 hp46=>?_)
  refine D.ac hp46 ?_
  refine D.q10 2 0 1 2 7 8 9 10 41 42 43 hR ?_
  refine G.z11 3 0 1 2 7 8 9 10 41 42 43 50 ?_
  refine G.bW (fun fr C' L' μ=>(True)/\fr=[(0,[],.pointer (some ⟨b,0,none⟩)),(1,[],.int .i64 r),(2,[],.int .i64 s),(7,[],strV (qtx ((t.line r).g s))),(8,[],.pointer (some ⟨b8,0,none⟩)),(9,[],.int .i64 j),(10,[],strV (qtx (if j=s then (-1:Rat) else (t.line r).g j))),(41,[],.slice A3 (t.line r).f.length c3),(42,[],.int .i64 (t.line r).f.length),(43,[],.int .i64 j)]/\L'=[.obj b8 (.cells ⟨[strV (qtx (Lp.byL (t.line r) s).c),.slice (some ⟨gy,0,none⟩) t.others.length t.others.length]⟩ 140 (0,0)),.arr (.slice (some ⟨gy,0,none⟩) t.others.length t.others.length) 27 1 t.others.length ((byF (t.line r) s j).map encR).flatten,.obj b (.cells ⟨[.int .i64 n,.slice (some ⟨gB,0,none⟩) t.basic.length cB,.slice (some ⟨gL,0,none⟩) t.basic.length cL,.slice (some ⟨gO,0,none⟩) t.others.length cO,strV (qtx t.worth.c),wW]⟩ 143 (0,0)),.arr (.slice (some ⟨gB,0,none⟩) t.basic.length cB) 3 1 t.basic.length ((t.basic).map encN).flatten,.arr (.slice (some ⟨gL,0,none⟩) t.basic.length cL) 140 2 t.basic.length ((bE t wF).map encL).flatten,.arr (.slice (some ⟨gO,0,none⟩) t.others.length cO) 3 1 t.others.length ((t.others).map encN).flatten,.arr wW 27 1 t.others.length ((t.worth.f).map encR).flatten]++((List.range t.basic.length).erase r).map (stE t wF r s 0)) ?_ (fun fr C50 L50 μ hle50 hI=>?_)
  ·refine G.cd (fun h50=>?_) fun h50=>?_
   ·have hjs:j=s:=by
     have h50':((j:Int) == (s:Int))=true:=h50
     have:=eq_of_beq h50'
     omega
    refine G.z10 1 0 1 2 7 8 9 10 41 42 43 ?_
    refine G.ar 0 (Mem.le.refl _) (h_10 0 1 2 7 8 9 10 41 42 43) ⟨trivial,by rw [if_pos hjs,qtxm1];rfl,rfl⟩
   ·have hjs:¬ j=s:=by
     have h50':((j:Int) == (s:Int))=false:=h50
     intro h
     rw [h] at h50'
     simp at h50'
    refine G.ar 0 (Mem.le.refl _) (h_10 0 1 2 7 8 9 10 41 42 43) ⟨trivial,by rw [if_neg hjs],rfl⟩
  ·obtain ⟨htriv,rfl,rfl⟩:=hI
   refine G.aH [0,1,2,3,4,5,6,7,8,9,10,11] [(4,1),(6,1)] rfl kr_ (fun R hB hR=>?_)
   refine D.ae ?_
   refine D.ah (.head _) ?_
   refine D.ps 2 ?_
   refine D.a6 (fun _=>(rneg_fn _ (if j=s then (-1:Rat) else (t.line r).g j) (Nat.le_trans (aZ hxq (by decide)) (by decide)))) rfl rfl rfl rfl rfl rfl rfl rfl rfl ?_
   refine D.ae ?_
   refine D.a6 (fun _=>(rdiv_fn _ (hT.mono mup) (-(if j=s then (-1:Rat) else (t.line r).g j)) ((t.line r).g s) 1 (by decide) (by decide) (QB_neg hxq) hqg hk)) rfl rfl rfl rfl rfl rfl rfl rfl rfl ?_
   refine D.ps 3 ?_
   refine D.aD (j*1) rfl rfl rfl rfl rfl rfl rfl rfl rfl rfl (fun _=>⟨by omega,by omega,rfl⟩) rfl rfl ?_
   refine D.aE (j:=1) rfl rfl rfl rfl rfl rfl rfl rfl rfl rfl rfl (by show j*1+1<=_;rw [aW aU,byF_len];omega) ?_
   refine D.e8 0 1 2 7 8 41 42 43 hR ?_
   refine G.rg fun R hR=>?_
   refine D.aq _ ?_
   refine D.q8 1 0 1 2 7 8 41 42 43 hR ?_
   refine G.perm (L':=[.obj b8 (.cells ⟨[strV (qtx (Lp.byL (t.line r) s).c),.slice (some ⟨gy,0,none⟩) t.others.length t.others.length]⟩ 140 (0,0)),.arr (.slice (some ⟨gy,0,none⟩) t.others.length t.others.length) 27 1 t.others.length ((byF (t.line r) s (j+1)).map encR).flatten,.obj b (.cells ⟨[.int .i64 n,.slice (some ⟨gB,0,none⟩) t.basic.length cB,.slice (some ⟨gL,0,none⟩) t.basic.length cL,.slice (some ⟨gO,0,none⟩) t.others.length cO,strV (qtx t.worth.c),wW]⟩ 143 (0,0)),.arr (.slice (some ⟨gB,0,none⟩) t.basic.length cB) 3 1 t.basic.length ((t.basic).map encN).flatten,.arr (.slice (some ⟨gL,0,none⟩) t.basic.length cL) 140 2 t.basic.length ((bE t wF).map encL).flatten,.arr (.slice (some ⟨gO,0,none⟩) t.others.length cO) 3 1 t.others.length ((t.others).map encN).flatten,.arr wW 27 1 t.others.length ((t.worth.f).map encR).flatten]++((List.range t.basic.length).erase r).map (stE t wF r s 0)) (by rw [<- byF_set hjl,<- aL aU _ (by rw [byF_len];exact hjl)];exact List.Perm.swap _ _ _) ?_
   refine G.ap (m':=(t.line r).f.length-(j+1)) om_ mup (h_8 0 1 2 7 8 41 42 43) ⟨j+1,om_,rfl,rfl,rfl⟩
 ·have hjl:j=(t.line r).f.length:=by
   have:=of_decide_eq_false h44
   omega
  rw [hjl,byF_end]
  refine G.freeze 0 rfl (fun C8 hle8 hb8=>?_)
  refine G.rp 3 fun R hR=>?_
  refine D.ah (.tail _ (.head _)) ?_
  refine D.q6 2 0 1 2 8 67 68 hR ?_
  refine G.perm (L':=[.arr (.slice (some ⟨gy,0,none⟩) t.others.length t.others.length) 27 1 t.others.length (((Lp.byL (t.line r) s).f).map encR).flatten,.arr (.slice (some ⟨gL,0,none⟩) t.basic.length cL) 140 2 t.basic.length ((stV t wF r s 0).map encL).flatten,.obj b (.cells ⟨[.int .i64 n,.slice (some ⟨gB,0,none⟩) t.basic.length cB,.slice (some ⟨gL,0,none⟩) t.basic.length cL,.slice (some ⟨gO,0,none⟩) t.others.length cO,strV (qtx t.worth.c),wW]⟩ 143 (0,0)),.arr (.slice (some ⟨gB,0,none⟩) t.basic.length cB) 3 1 t.basic.length ((t.basic).map encN).flatten,.arr (.slice (some ⟨gO,0,none⟩) t.others.length cO) 3 1 t.others.length ((t.others).map encN).flatten,.arr wW 27 1 t.others.length ((t.worth.f).map encR).flatten]++((List.range t.basic.length).erase r).map (stE t wF r s 0)) (by rw [stV_zero];(exact pkL [0,2] rfl)) ?_
  refine G.loop (fun fr C' L' μ=>∃ (i:Nat),(i<=t.basic.length)/\fr=[(0,[],.pointer (some ⟨b,0,none⟩)),(1,[],.int .i64 r),(2,[],.int .i64 s),(8,[],.pointer (some ⟨b8,0,none⟩)),(67,[],.int .i64 t.basic.length),(68,[],.int .i64 i)]/\L'=[.arr (.slice (some ⟨gy,0,none⟩) t.others.length t.others.length) 27 1 t.others.length (((Lp.byL (t.line r) s).f).map encR).flatten,.arr (.slice (some ⟨gL,0,none⟩) t.basic.length cL) 140 2 t.basic.length ((stV t wF r s i).map encL).flatten,.obj b (.cells ⟨[.int .i64 n,.slice (some ⟨gB,0,none⟩) t.basic.length cB,.slice (some ⟨gL,0,none⟩) t.basic.length cL,.slice (some ⟨gO,0,none⟩) t.others.length cO,strV (qtx t.worth.c),wW]⟩ 143 (0,0)),.arr (.slice (some ⟨gB,0,none⟩) t.basic.length cB) 3 1 t.basic.length ((t.basic).map encN).flatten,.arr (.slice (some ⟨gO,0,none⟩) t.others.length cO) 3 1 t.others.length ((t.others).map encN).flatten,.arr wW 27 1 t.others.length ((t.worth.f).map encR).flatten]++((List.range t.basic.length).erase r).map (stE t wF r s i)/\μ=t.basic.length-i) (h_6 0 1 2 8 67 68) ⟨0,Nat.zero_le _,rfl,rfl,rfl⟩ (fun fr C1' L1' m hle1 hI=>?_)
  obtain ⟨i,hi,rfl,rfl,rfl⟩:=hI
  refine G.z7 1 0 1 2 8 67 68 69 ?_
  refine G.cd (fun h69=>?_) fun h69=>?_
  ·have hil:i<t.basic.length:=by
    have:=of_decide_eq_true h69
    omega
   refine G.z7 2 0 1 2 8 11 67 68 ?_
   refine G.z8 3 0 1 2 8 11 67 68 73 ?_
   refine G.cd (fun h73=>?_) fun h73=>?_
   ·have hir:i≠r:=by
     have h73':(!((i:Int) == (r:Int)))=true:=h73
     intro h
     rw [h] at h73'
     simp at h73'
    have hmem:i∈(List.range t.basic.length).erase r:=(List.Nodup.mem_erase_iff range_nd).2 ⟨hir,List.mem_range.2 hil⟩
    have hfr:=map_front (range_nd.erase r) hmem (stE t wF r s i) (stE t wF r s (i+1)) (fun q _ hne=>by unfold stE;rw [stL_other hne])
    have he:stE t wF r s i i=.arr (wF i) 27 1 t.others.length ((t.line i).f.map encR).flatten:=by unfold stE;rw [(stL_same hir).1]
    have he2:stE t wF r s (i+1) i=.arr (wF i) 27 1 t.others.length ((Lp.putL (t.line i) s (Lp.byL (t.line r) s)).f.map encR).flatten:=by unfold stE;rw [(stL_same hir).2]
    have hat:(stV t wF r s i)[i]?=some ((t.line i).c,wF i):=by rw [stV_at hil,(stL_same hir).1]
    rw [he] at hfr
    refine G.perm (L':=[.arr (.slice (some ⟨gy,0,none⟩) t.others.length t.others.length) 27 1 t.others.length (((Lp.byL (t.line r) s).f).map encR).flatten,.arr (.slice (some ⟨gL,0,none⟩) t.basic.length cL) 140 2 t.basic.length ((stV t wF r s i).map encL).flatten,.arr (wF i) 27 1 t.others.length ((t.line i).f.map encR).flatten,.obj b (.cells ⟨[.int .i64 n,.slice (some ⟨gB,0,none⟩) t.basic.length cB,.slice (some ⟨gL,0,none⟩) t.basic.length cL,.slice (some ⟨gO,0,none⟩) t.others.length cO,strV (qtx t.worth.c),wW]⟩ 143 (0,0)),.arr (.slice (some ⟨gB,0,none⟩) t.basic.length cB) 3 1 t.basic.length ((t.basic).map encN).flatten,.arr (.slice (some ⟨gO,0,none⟩) t.others.length cO) 3 1 t.others.length ((t.others).map encN).flatten,.arr wW 27 1 t.others.length ((t.worth.f).map encR).flatten]++(((List.range t.basic.length).erase r).erase i).map (stE t wF r s (i+1))) ((List.Perm.append_left _ hfr).trans (pkL [0,0,4] rfl)) ?_
    refine G.aH [0,1,2,3,4,5,6,7,8] [(8,3)] rfl kr_ (fun R hB hR=>?_)
    refine D.ps 3 ?_
    refine D.ah (.tail _ (.tail _ (.tail _ (.head _)))) ?_
    refine D.ae ?_
    refine D.aD (i*2) rfl rfl rfl rfl rfl rfl rfl rfl rfl rfl (fun _=>⟨by omega,by omega,rfl⟩) rfl rfl ?_
    refine D.ae ?_
    refine D.ac (bkT hb8 2) ?_
    refine D.call (putL3_fn _ (hT.mono mup) gL t.basic.length cL i t.others.length s (wF i) (.slice (some ⟨gy,0,none⟩) t.others.length t.others.length) (stV t wF r s i) (t.line i) (Lp.byL (t.line r) s) stV_len hat (eM ok hil) (by rw [byL_len];exact hlr) hs ((hq i hil).le (by decide)) (hqy.le (by decide))) rfl (.inr (by decide)) rfl rfl rfl rfl rfl rfl (pkL [0,0,0] rfl) fl_ (fun v82 C82 L82 hle82 hq82=>?_)
    refine D.e6 0 1 2 8 67 68 hR ?_
    obtain ⟨-,rfl⟩:=hq82
    refine G.perm (L':=[.arr (.slice (some ⟨gy,0,none⟩) t.others.length t.others.length) 27 1 t.others.length (((Lp.byL (t.line r) s).f).map encR).flatten,.arr (.slice (some ⟨gL,0,none⟩) t.basic.length cL) 140 2 t.basic.length ((stV t wF r s (i+1)).map encL).flatten,.obj b (.cells ⟨[.int .i64 n,.slice (some ⟨gB,0,none⟩) t.basic.length cB,.slice (some ⟨gL,0,none⟩) t.basic.length cL,.slice (some ⟨gO,0,none⟩) t.others.length cO,strV (qtx t.worth.c),wW]⟩ 143 (0,0)),.arr (.slice (some ⟨gB,0,none⟩) t.basic.length cB) 3 1 t.basic.length ((t.basic).map encN).flatten,.arr (.slice (some ⟨gO,0,none⟩) t.others.length cO) 3 1 t.others.length ((t.others).map encN).flatten,.arr wW 27 1 t.others.length ((t.worth.f).map encR).flatten]++((List.range t.basic.length).erase r).map (stE t wF r s (i+1))) (by
     rw [<- stV_set hil hir]
     refine List.Perm.trans (l₂:=[.arr (.slice (some ⟨gy,0,none⟩) t.others.length t.others.length) 27 1 t.others.length (((Lp.byL (t.line r) s).f).map encR).flatten,.arr (.slice (some ⟨gL,0,none⟩) t.basic.length cL) 140 2 t.basic.length (((stV t wF r s i).set i ((Lp.putL (t.line i) s (Lp.byL (t.line r) s)).c,wF i)).map encL).flatten,.obj b (.cells ⟨[.int .i64 n,.slice (some ⟨gB,0,none⟩) t.basic.length cB,.slice (some ⟨gL,0,none⟩) t.basic.length cL,.slice (some ⟨gO,0,none⟩) t.others.length cO,strV (qtx t.worth.c),wW]⟩ 143 (0,0)),.arr (.slice (some ⟨gB,0,none⟩) t.basic.length cB) 3 1 t.basic.length ((t.basic).map encN).flatten,.arr (.slice (some ⟨gO,0,none⟩) t.others.length cO) 3 1 t.others.length ((t.others).map encN).flatten,.arr wW 27 1 t.others.length ((t.worth.f).map encR).flatten]++(.arr (wF i) 27 1 t.others.length ((Lp.putL (t.line i) s (Lp.byL (t.line r) s)).f.map encR).flatten::(((List.range t.basic.length).erase r).erase i).map (stE t wF r s (i+1)))) (pkL [0,0,1,1,1,1] rfl) (List.Perm.append_left _ ?_)
     rw [<- he2]
     exact (map_front (range_nd.erase r) hmem (stE t wF r s (i+1)) (stE t wF r s (i+1)) (fun _ _ _=>rfl)).symm) ?_
    refine G.rg fun R hR=>?_
    refine D.aq _ ?_
    refine D.q6 1 0 1 2 8 67 68 hR ?_
    refine G.ap (m':=t.basic.length-(i+1)) om_ mup (h_6 0 1 2 8 67 68) ⟨i+1,om_,rfl,rfl,rfl⟩
   ·have hir:i=r:=by
     have h73':(!((i:Int) == (r:Int)))=false:=h73
     simp at h73'
     omega
    refine G.aM (L':=[.arr (.slice (some ⟨gy,0,none⟩) t.others.length t.others.length) 27 1 t.others.length (((Lp.byL (t.line r) s).f).map encR).flatten,.arr (.slice (some ⟨gL,0,none⟩) t.basic.length cL) 140 2 t.basic.length ((stV t wF r s (i+1)).map encL).flatten,.obj b (.cells ⟨[.int .i64 n,.slice (some ⟨gB,0,none⟩) t.basic.length cB,.slice (some ⟨gL,0,none⟩) t.basic.length cL,.slice (some ⟨gO,0,none⟩) t.others.length cO,strV (qtx t.worth.c),wW]⟩ 143 (0,0)),.arr (.slice (some ⟨gB,0,none⟩) t.basic.length cB) 3 1 t.basic.length ((t.basic).map encN).flatten,.arr (.slice (some ⟨gO,0,none⟩) t.others.length cO) 3 1 t.others.length ((t.others).map encN).flatten,.arr wW 27 1 t.others.length ((t.worth.f).map encR).flatten]++((List.range t.basic.length).erase r).map (stE t wF r s (i+1))) (by
     have e:stE t wF r s (r+1)=stE t wF r s r:=funext fun q=>by unfold stE;rw [stL_skip]
     rw [hir,stV_skip,e]) ?_
    refine G.rg fun R hR=>?_
    refine D.aq _ ?_
    refine D.q6 1 0 1 2 8 67 68 hR ?_
    refine G.ap (m':=t.basic.length-(i+1)) om_ mup (h_6 0 1 2 8 67 68) ⟨i+1,om_,rfl,rfl,rfl⟩
  ·have hil:i=t.basic.length:=by
    have:=of_decide_eq_false h69
    omega
   rw [hil]
   refine G.perm (L':=[.arr (.slice (some ⟨gy,0,none⟩) t.others.length t.others.length) 27 1 t.others.length (((Lp.byL (t.line r) s).f).map encR).flatten,.obj b (.cells ⟨[.int .i64 n,.slice (some ⟨gB,0,none⟩) t.basic.length cB,.slice (some ⟨gL,0,none⟩) t.basic.length cL,.slice (some ⟨gO,0,none⟩) t.others.length cO,strV (qtx t.worth.c),wW]⟩ 143 (0,0)),.arr wW 27 1 t.others.length ((t.worth.f).map encR).flatten,.arr (.slice (some ⟨gL,0,none⟩) t.basic.length cL) 140 2 t.basic.length ((stV t wF r s t.basic.length).map encL).flatten,.arr (.slice (some ⟨gB,0,none⟩) t.basic.length cB) 3 1 t.basic.length ((t.basic).map encN).flatten,.arr (.slice (some ⟨gO,0,none⟩) t.others.length cO) 3 1 t.others.length ((t.others).map encN).flatten]++((List.range t.basic.length).erase r).map (stE t wF r s t.basic.length)) (pkL [0,1,3,0,0,0] rfl) ?_
   refine G.aH [0,1,2,3,4,5] [(5,3)] rfl kr_ (fun R hB hR=>?_)
   refine D.ps 4 ?_
   refine D.ac (bkT hb8 2) ?_
   refine D.call (putW3_fn _ (hT.mono mup) b t.others.length s (.int .i64 n) (.slice (some ⟨gB,0,none⟩) t.basic.length cB) (.slice (some ⟨gL,0,none⟩) t.basic.length cL) (.slice (some ⟨gO,0,none⟩) t.others.length cO) wW (.slice (some ⟨gy,0,none⟩) t.others.length t.others.length) t.worth (Lp.byL (t.line r) s) hwl (by rw [byL_len];exact hlr) hs (hqw.le (by decide)) (hqy.le (by decide))) rfl (.inr (by decide)) rfl rfl rfl rfl rfl rfl (pkL [0,0,0] rfl) fl_ (fun v89 C89 L89 hle89 hq89=>?_)
   refine D.e4 0 1 2 8 hR ?_
   obtain ⟨-,rfl⟩:=hq89
   refine G.perm (L':=[.obj b (.cells ⟨[.int .i64 n,.slice (some ⟨gB,0,none⟩) t.basic.length cB,.slice (some ⟨gL,0,none⟩) t.basic.length cL,.slice (some ⟨gO,0,none⟩) t.others.length cO,strV (qtx (Lp.putL t.worth s (Lp.byL (t.line r) s)).c),wW]⟩ 143 (0,0)),.arr (.slice (some ⟨gB,0,none⟩) t.basic.length cB) 3 1 t.basic.length ((t.basic).map encN).flatten,.arr (.slice (some ⟨gL,0,none⟩) t.basic.length cL) 140 2 t.basic.length ((stV t wF r s t.basic.length).map encL).flatten,.arr (.slice (some ⟨gO,0,none⟩) t.others.length cO) 3 1 t.others.length ((t.others).map encN).flatten,.arr wW 27 1 t.others.length (((Lp.putL t.worth s (Lp.byL (t.line r) s)).f).map encR).flatten,.arr (.slice (some ⟨gy,0,none⟩) t.others.length t.others.length) 27 1 t.others.length (((Lp.byL (t.line r) s).f).map encR).flatten]++((List.range t.basic.length).erase r).map (stE t wF r s t.basic.length)) (pkL [1,3,2,2,1] rfl) ?_
   refine G.aH [0,1,2,3,4,5,6,7] [] rfl kr_ (fun R hB hR=>?_)
   refine D.ps 3 ?_
   refine D.ah (.head _) ?_
   refine D.ae ?_
   refine D.ac (bkT hb8 2) ?_
   refine D.aD (r*2) rfl rfl rfl rfl rfl rfl rfl rfl rfl rfl (fun _=>⟨by omega,by omega,rfl⟩) rfl rfl ?_
   refine D.aE (j:=2) rfl rfl rfl rfl rfl rfl rfl rfl rfl rfl rfl (by show r*2+2<=_;rw [aW encL_len,stV_len];omega) ?_
   refine D.e3 0 1 2 hR ?_
   refine G.aM (L':=[.arr (.slice (some ⟨gL,0,none⟩) t.basic.length cL) 140 2 t.basic.length (((stV t wF r s t.basic.length).set r ((Lp.byL (t.line r) s).c,.slice (some ⟨gy,0,none⟩) t.others.length t.others.length)).map encL).flatten,.obj b (.cells ⟨[.int .i64 n,.slice (some ⟨gB,0,none⟩) t.basic.length cB,.slice (some ⟨gL,0,none⟩) t.basic.length cL,.slice (some ⟨gO,0,none⟩) t.others.length cO,strV (qtx (Lp.putL t.worth s (Lp.byL (t.line r) s)).c),wW]⟩ 143 (0,0)),.arr (.slice (some ⟨gB,0,none⟩) t.basic.length cB) 3 1 t.basic.length ((t.basic).map encN).flatten,.arr (.slice (some ⟨gO,0,none⟩) t.others.length cO) 3 1 t.others.length ((t.others).map encN).flatten,.arr wW 27 1 t.others.length (((Lp.putL t.worth s (Lp.byL (t.line r) s)).f).map encR).flatten,.arr (.slice (some ⟨gy,0,none⟩) t.others.length t.others.length) 27 1 t.others.length (((Lp.byL (t.line r) s).f).map encR).flatten]++((List.range t.basic.length).erase r).map (stE t wF r s t.basic.length)) (by rw [<- aL encL_len _ (by rw [stV_len];exact hr)];rfl) ?_
   refine G.aH [0,1,2,3,4,5,6,7,8,9,10,11,12,13,14,15,16,17,18,19,20,21,22,23,24,25,26,27] [] rfl kr_ (fun R hB hR=>?_)
   refine D.ps 3 ?_
   refine D.ah (.tail _ (.head _)) ?_
   refine D.ps 4 ?_
   refine D.ah (.tail _ (.head _)) ?_
   refine D.ps 4 ?_
   refine D.ah (.tail _ (.head _)) ?_
   refine D.ae ?_
   refine D.aD (s*1) rfl rfl rfl rfl rfl rfl rfl rfl rfl rfl (fun _=>⟨by omega,by omega,rfl⟩) rfl rfl ?_
   refine D.aT (.tail _ (.tail _ (.tail _ (.head _)))) rfl rfl rfl rfl rfl rfl (fun _=>(by rw [bU dH (show t.others[s]?=some (t.oth s) from nget_at hs)];rfl)) rfl rfl ?_
   refine D.ps 3 ?_
   refine D.ah (.tail _ (.head _)) ?_
   refine D.ae ?_
   refine D.aD (r*1) rfl rfl rfl rfl rfl rfl rfl rfl rfl rfl (fun _=>⟨by omega,by omega,rfl⟩) rfl rfl ?_
   refine D.aT (.tail _ (.tail _ (.head _))) rfl rfl rfl rfl rfl rfl (fun _=>(by rw [bU dH (show t.basic[r]?=some (t.bas r) from nget_at hr)];rfl)) rfl rfl ?_
   refine D.aD (r*1) rfl rfl rfl rfl rfl rfl rfl rfl rfl rfl (fun _=>⟨by omega,by omega,rfl⟩) rfl rfl ?_
   refine D.aE (j:=2) rfl rfl rfl rfl rfl rfl rfl rfl rfl rfl rfl (by show r*1+1<=_;rw [aW dH];omega) ?_
   refine D.aD (s*1) rfl rfl rfl rfl rfl rfl rfl rfl rfl rfl (fun _=>⟨by omega,by omega,rfl⟩) rfl rfl ?_
   refine D.aE (j:=3) rfl rfl rfl rfl rfl rfl rfl rfl rfl rfl rfl (by show s*1+1<=_;rw [aW dH];omega) ?_
   refine D.done [] trivial (hR _ _ _ rfl ?_)
   refine G.perm (L':=(tabL b n (t.pivot r s) (.slice (some ⟨gB,0,none⟩) t.basic.length cB) (.slice (some ⟨gL,0,none⟩) t.basic.length cL) (.slice (some ⟨gO,0,none⟩) t.others.length cO) wW (fun q=>if q=r then (.slice (some ⟨gy,0,none⟩) t.others.length t.others.length) else wF q)).map Lent.ent) (by
    refine List.Perm.trans ?_ (tab_end ok hr)
    rw [<- aL dH _ hr,<- aL dH _ hs]
    (exact pkL [3,1,1,0,0,0] rfl)) ?_
   refine G.end0 rfl ?_
   exact ⟨rfl,_,rfl⟩

theorem lineQ_of {p:Lp.Sys}{cc:Nat->Rat}{t:Lp.Tab}(h:Lp.Inv p cc t)(hl:Lp.Lim p cc 1){i:Nat}(hi:i<t.basic.length):LineQ 1 (t.line i):=by
 refine ⟨h.con hl hi,fun x hx=>?_⟩
 obtain ⟨s,hs,rfl⟩:=List.mem_iff_getElem.1 hx
 have hf:=eM h.tab.ok hi
 have h1:=h.fac hl hi (s:=s) om_
 unfold Lp.Line.g at h1
 rw [List.getD_eq_getElem?_getD,List.getElem?_eq_getElem hs] at h1
 exact h1
theorem worthQ_of {p:Lp.Sys}{cc:Nat->Rat}{t:Lp.Tab}(h:Lp.Inv p cc t)(hl:Lp.Lim p cc 1):LineQ 1 t.worth:=by
 refine ⟨h.wcon hl,fun x hx=>?_⟩
 obtain ⟨s,hs,rfl⟩:=List.mem_iff_getElem.1 hx
 have hf:=h.tab.ok.wl
 have h1:=h.wfac hl (s:=s) om_
 unfold Lp.Line.g at h1
 rw [List.getD_eq_getElem?_getD,List.getElem?_eq_getElem hs] at h1
 exact h1
theorem LineQ.g0 {k m:Nat}{l:Lp.Line}(h:LineQ k l)(hk:k<=m)(hm:1<=m)(j:Nat):QB m (l.g j):=by
 unfold Lp.Line.g
 rw [List.getD_eq_getElem?_getD]
 by_cases hj:j<l.f.length
 ·rw [List.getElem?_eq_getElem hj]
  exact (h.2 _ (List.getElem_mem _)).le hk
 ·rw [List.getElem?_eq_none om_]
  exact Lp.qb_zero hm
theorem LeastR_of {vs:List Nat}{q q':Nat->Prop}{n:Nat}{o:Int}(h:Lp.LeastR vs q n o)(e:∀ i,i<n->(q i ↔ q' i)):Lp.LeastR vs q' n o:=by
 cases h with
 | none h=>exact .none fun i hi hq=>h i hi ((e i hi).2 hq)
 | some i hi hq hm=>exact .some i hi ((e i hi).1 hq) fun j hj hj2=>hm j hj ((e j hj).2 hj2)
theorem eN {vs:List Nat}{q:Nat->Prop}{n:Nat}{o:Int}(h:Lp.LeastR vs q n o)(ho:¬ o<0):∃ i:Nat,o=i/\i<n/\q i/\∀ j,j<n->q j->vs.getD i 0<=vs.getD j 0:=by
 cases h with
 | none h=>exact absurd (by decide) ho
 | some i hi hq hm=>exact ⟨i,rfl,hi,hq,hm⟩
theorem eO {vs:List Nat}{q:Nat->Prop}{n:Nat}{o:Int}(h:Lp.LeastR vs q n o)(ho:o<0):∀ i,i<n->¬ q i:=by
 cases h with
 | none h=>exact h
 | some i hi hq hm=>omega
section
variable {C:Mem} {a a2 b n N:Nat} {r:Int} {t:Lp.Tab} {wB wL wO wW:Value} {wF:Nat->Value}
theorem tabL2_wf (ok:t.Ok N):∀ x∈.obj a2 [.int .i64 r] 3::tabL b n t wB wL wO wW wF,x.wf:=fun x hx=>by
 rcases List.mem_cons.1 hx with rfl | hx
 ·trivial
 ·exact d9 ok x hx
theorem least1_fn (ok:t.Ok N)(ha:C a=some (.cells ⟨[.pointer (some ⟨b,0,none⟩)]⟩ 133 (0,0)))(hq:∀ i,i<t.basic.length->LineQ 1 (t.line i)) :
  Jog.Fn cx.P 114 [wB,.func (.func 115) #[] #[.pointer (some ⟨a,0,none⟩)]] C ((.obj a2 [.int .i64 r] 3::tabL b n t wB wL wO wW wF).map Lent.ent)
   fun u _ L'=>(∃ o:Int,u=.int .i64 o/\Lp.LeastR t.basic (fun i=>n<=t.bas i/\(t.line i).c<0) t.basic.length o)/\L'=(.obj a2 [.int .i64 r] 3::tabL b n t wB wL wO wW wF).map Lent.ent:=by
 refine Fn.lendPur kr_ _ (tabL2_wf ok) fun C' hle hs=>?_
 have hV:=dt ok fun x hx=>hs x (List.mem_cons_of_mem _ hx)
 refine (least_fn C' wB t.basic 115 [.pointer (some ⟨a,0,none⟩)] (fun i=>decide (n<=t.bas i) && decide ((t.line i).c<0)) hV.B kr_ fun i hi D hD =>
  feas1_fn D a b n i N t wB wL wO wW _ (hV.mono hD) ok ((hle.trans hD) _ _ ha) hi ((hq i hi).1.le (by decide))).mono ?_
 rintro u D L' _ ⟨h1,o,rfl,h2⟩
 exact ⟨h1,o,rfl,LeastR_of h2 fun i _=>by simp⟩
theorem least2_fn {r:Nat}(ok:t.Ok N)(ha:C a=some (.cells ⟨[.pointer (some ⟨b,0,none⟩)]⟩ 133 (0,0)))(hr:r<t.basic.length)(hq:LineQ 1 (t.line r)) :
  Jog.Fn cx.P 114 [wO,.func (.func 116) #[] #[.pointer (some ⟨a,0,none⟩),.pointer (some ⟨a2,0,none⟩)]] C ((.obj a2 [.int .i64 r] 3::tabL b n t wB wL wO wW wF).map Lent.ent)
   fun u _ L'=>(∃ o:Int,u=.int .i64 o/\Lp.LeastR t.others (fun i=>n<=t.oth i/\0<(t.line r).g i) t.others.length o)/\L'=(.obj a2 [.int .i64 r] 3::tabL b n t wB wL wO wW wF).map Lent.ent:=by
 refine Fn.lendPur kr_ _ (tabL2_wf ok) fun C' hle hs=>?_
 have hV:=dt ok fun x hx=>hs x (List.mem_cons_of_mem _ hx)
 have h2:=hs _ (List.mem_cons_self ..)
 refine (least_fn C' wO t.others 116 [.pointer (some ⟨a,0,none⟩),.pointer (some ⟨a2,0,none⟩)] (fun i=>decide (n<=t.oth i) && decide (0<(t.line r).g i)) hV.O kr_ fun i hi D hD =>
  feas2_fn D a a2 b n i r N t wB wL wO wW _ (hV.mono hD) ok ((hle.trans hD) _ _ ha) (hD _ _ h2) hr hi (hq.g0 (by decide) (by decide) i)).mono ?_
 rintro u D L' _ ⟨h1,o,rfl,h2⟩
 exact ⟨h1,o,rfl,LeastR_of h2 fun i _=>by simp⟩
end
inductive FeasO (p:Lp.Sys) (t:Lp.Tab):Value->Prop where
 | yes:t.Feas p.n->FeasO p t (.tuple #[.int .i64 0,.bool true])
 | no (r:Nat):r<t.basic.length->p.n<=t.bas r->(t.line r).c<0->(∀ s,s<t.others.length->p.n<=t.oth s->(t.line r).g s<=0)->FeasO p t (.tuple #[.int .i64 r,.bool false])
theorem feasible_fn (C:Mem)(hT:Tabs C)(p:Lp.Sys)(cc:Nat->Rat)(b:Nat)(t0:Lp.Tab)(wB wL wO wW:Value)(wF0:Nat->Value)(hI:Lp.Inv p cc t0)(hR:Lp.Rel p.n t0 p.n)(hl:Lp.Lim p cc 1)(hm:p.m<=1000000)(hn:p.n<=1000000) :
  Jog.Fn cx.P 55 [.pointer (some ⟨b,0,none⟩)] C ((tabL b p.n t0 wB wL wO wW wF0).map Lent.ent) fun u _ L'=>∃ t wF,Lp.Inv p cc t/\Lp.Rel p.n t p.n/\FeasO p t u/\L'=(tabL b p.n t wB wL wO wW wF).map Lent.ent:=by
 have hmx:maxLen<=9223372036854775807:=by simp [maxLen]
 refine Fn.it kr_ Tryz.func55 26 fun w0=>?_
 refine G.rg fun R hR=>?_
 refine D.aX (fun b1=>?_)
 refine D.aC (fun b2=>?_)
 refine D.q2 1 1 2 hR ?_;clear hR R
 refine G.freeze 1 rfl (fun C1 hle1 hb1=>?_)
 refine G.aM (L':=[.obj b2 (.cells ⟨[.int .i64 0]⟩ 3 (0,0)),.obj b (.cells ⟨[.int .i64 p.n,wB,wL,wO,strV (qtx t0.worth.c),wW]⟩ 143 (0,0)),.arr wB 3 1 t0.basic.length ((t0.basic).map encN).flatten,.arr wL 140 2 t0.basic.length ((bE t0 wF0).map encL).flatten,.arr wO 3 1 t0.others.length ((t0.others).map encN).flatten,.arr wW 27 1 t0.others.length ((t0.worth.f).map encR).flatten]++(List.range t0.basic.length).map (stE t0 wF0 0 0 0)) (by rw [aI 0 0];rfl) ?_
 refine G.loop (fun fr C' L' μ=>∃ (t:Lp.Tab)(wF:Nat->Value)(o:Int)(mu:Nat),(Lp.Inv p cc t/\Lp.Rel p.n t p.n/\∀ K,Lp.Reach (Lp.FeasP p.n) t K->K<=mu)/\fr=[(1,[],.pointer (some ⟨b1,0,none⟩)),(2,[],.pointer (some ⟨b2,0,none⟩))]/\L'=[.obj b2 (.cells ⟨[.int .i64 o]⟩ 3 (0,0)),.obj b (.cells ⟨[.int .i64 p.n,wB,wL,wO,strV (qtx t.worth.c),wW]⟩ 143 (0,0)),.arr wB 3 1 t.basic.length ((t.basic).map encN).flatten,.arr wL 140 2 t.basic.length ((bE t wF).map encL).flatten,.arr wO 3 1 t.others.length ((t.others).map encN).flatten,.arr wW 27 1 t.others.length ((t.worth.f).map encR).flatten]++(List.range t.basic.length).map (stE t wF 0 0 0)/\μ=mu) (h_2 1 2) ⟨t0,wF0,0,2 ^ (p.n+p.m),⟨hI,hR,fun K hK=>Lp.feas_len hI.tab.ok hK⟩,rfl,rfl,rfl⟩ (fun fr C0' L0' m hle0 hI=>?_)
 obtain ⟨t,wF,o,mu,⟨hI,hR,hK⟩,rfl,rfl,rfl⟩:=hI
 have ok:=hI.tab.ok
 have hbl:t.basic.length<=1000000:=by rw [hI.tab.lb];exact hm
 have hol:t.others.length<=1000000:=by rw [hI.tab.lo];exact hn
 have hq:∀ i,i<t.basic.length->LineQ 1 (t.line i):=fun i hi=>lineQ_of hI hl hi
 refine G.aA [(5,3)] rfl (fun R hR=>?_)
 refine D.ac (bkT hb1 1) ?_
 refine D.ps 2 ?_
 refine D.ah (.tail _ (.head _)) ?_
 refine D.ae ?_
 refine D.call (least1_fn ok (Mem.get hb1 mup) hq) rfl (.inr (by decide)) rfl rfl rfl rfl rfl rfl (show List.Perm _ (((.obj b2 [.int .i64 o] 3::tabL b p.n t wB wL wO wW wF).map Lent.ent)++[]) from List.Perm.of_eq (by rw [List.append_nil,List.map_cons,aI 0 0];rfl)) fl_ (fun v10 C10 L10 hle10 hq10=>?_)
 obtain ⟨⟨o1,rfl,ho1⟩,rfl⟩:=hq10
 refine D.ag (j:=0) ?_
 refine D.e2 1 2 hR ?_;clear hR R
 refine G.aM (L':=[.obj b2 (.cells ⟨[.int .i64 o1]⟩ 3 (0,0)),.obj b (.cells ⟨[.int .i64 p.n,wB,wL,wO,strV (qtx t.worth.c),wW]⟩ 143 (0,0)),.arr wB 3 1 t.basic.length ((t.basic).map encN).flatten,.arr wL 140 2 t.basic.length ((bE t wF).map encL).flatten,.arr wO 3 1 t.others.length ((t.others).map encN).flatten,.arr wW 27 1 t.others.length ((t.worth.f).map encR).flatten]++(List.range t.basic.length).map (stE t wF 0 0 0)) (by rw [List.append_nil,List.map_cons,aI 0 0];rfl) ?_
 refine G.rg fun R hR=>?_
 refine D.ah (.head _) ?_
 refine D.q3 1 1 2 12 hR ?_;clear hR R
 refine G.cd (fun h12=>?_) fun h12=>?_
 ·have ho:o1<0:=of_decide_eq_true h12
  have hno:=eO ho1 ho
  refine G.rg fun R hR=>?_
  refine D.ag (j:=0) ?_
  refine D.q2 1 2 3 hR ?_;clear hR R
  refine G.ay (G.finC2K 0 rfl rfl rfl rfl rfl rfl ?_)
  exact ⟨t,wF,hI,hR,.yes (fun i hi hF=>by have:=hno i hi;grind),by rw [aI 0 0];rfl⟩
 ·have ho:¬ o1<0:=of_decide_eq_false h12
  obtain ⟨r,rfl,hr,⟨hrF,hrc⟩,hrm⟩:=eN ho1 ho
  refine G.aA [(5,3)] rfl (fun R hR=>?_)
  refine D.ac (bkT hb1 1) ?_
  refine D.ps 2 ?_
  refine D.ah (.tail _ (.head _)) ?_
  refine D.ae ?_
  refine D.call (least2_fn ok (Mem.get hb1 mup) hr (hq r hr)) rfl (.inr (by decide)) rfl rfl rfl rfl rfl rfl (show List.Perm _ (((.obj b2 [.int .i64 (r:Nat)] 3::tabL b p.n t wB wL wO wW wF).map Lent.ent)++[]) from List.Perm.of_eq (by rw [List.append_nil,List.map_cons,aI 0 0];rfl)) fl_ (fun v18 C18 L18 hle18 hq18=>?_)
  refine D.q3 1 1 2 4 hR ?_;clear hR R
  obtain ⟨⟨o2,rfl,ho2⟩,rfl⟩:=hq18
  refine G.aM (L':=[.obj b2 (.cells ⟨[.int .i64 (r:Nat)]⟩ 3 (0,0)),.obj b (.cells ⟨[.int .i64 p.n,wB,wL,wO,strV (qtx t.worth.c),wW]⟩ 143 (0,0)),.arr wB 3 1 t.basic.length ((t.basic).map encN).flatten,.arr wL 140 2 t.basic.length ((bE t wF).map encL).flatten,.arr wO 3 1 t.others.length ((t.others).map encN).flatten,.arr wW 27 1 t.others.length ((t.worth.f).map encR).flatten]++(List.range t.basic.length).map (stE t wF 0 0 0)) (by rw [List.append_nil,List.map_cons,aI 0 0];rfl) ?_
  refine G.z4 2 1 2 4 20 ?_
  refine G.cd (fun h20=>?_) fun h20=>?_
  ·have ho3:o2<0:=of_decide_eq_true h20
   have hno:=eO ho2 ho3
   refine G.rg fun R hR=>?_
   refine D.ah (.head _) ?_
   refine D.ag (j:=0) ?_
   refine D.q2 1 2 3 hR ?_;clear hR R
   refine G.ay (G.finC2K 0 rfl rfl rfl rfl rfl rfl ?_)
   exact ⟨t,wF,hI,hR,.no r hr hrF hrc (fun s hs hF=>by have:=hno s hs;grind),by rw [aI 0 0];rfl⟩
  ·have ho3:¬ o2<0:=of_decide_eq_false h20
   obtain ⟨s,rfl,hs,⟨hsF,hsg⟩,hsm⟩:=eN ho2 ho3
   have hP:Lp.FeasP p.n t r s:=⟨hr,hs,hrF,hsF,hrc,fun i hi hF hc=>hrm i hi ⟨hF,hc⟩,hsg,fun j hj hF hg=>hsm j hj ⟨hF,hg⟩⟩
   have hne:(t.line r).g s≠0:=by grind
   obtain ⟨hmu,hK2⟩:=Lp.Reach.fall hP hK
   refine G.aA [(3,3)] rfl (fun R hR=>?_)
   refine D.ac (bkT hb1 1) ?_
   refine D.ah (.head _) ?_
   refine D.ae ?_
   refine D.call (pivot_fn _ (hT.mono mup) b p.n r s (p.n+p.m) t wB wL wO wW wF ok hbl hol hr hs hne hq (worthQ_of hI hl)) rfl (.inr (by decide)) rfl rfl rfl rfl rfl rfl (by rw [aI 0 0];exact (List.perm_append_singleton _ _).symm) fl_ (fun v25 C25 L25 hle25 hq25=>?_)
   refine D.e2 1 2 hR ?_;clear hR R
   obtain ⟨-,wF2,rfl⟩:=hq25
   refine G.perm (L':=[.obj b2 (.cells ⟨[.int .i64 (r:Nat)]⟩ 3 (0,0)),.obj b (.cells ⟨[.int .i64 p.n,wB,wL,wO,strV (qtx (t.pivot r s).worth.c),wW]⟩ 143 (0,0)),.arr wB 3 1 (t.pivot r s).basic.length (((t.pivot r s).basic).map encN).flatten,.arr wL 140 2 (t.pivot r s).basic.length ((bE (t.pivot r s) wF2).map encL).flatten,.arr wO 3 1 (t.pivot r s).others.length (((t.pivot r s).others).map encN).flatten,.arr wW 27 1 (t.pivot r s).others.length (((t.pivot r s).worth.f).map encR).flatten]++(List.range (t.pivot r s).basic.length).map (stE (t.pivot r s) wF2 0 0 0)) (by rw [aI 0 0];exact List.perm_append_singleton _ _) ?_
   refine G.ap (m':=m-1) om_ mup (h_2 1 2) ⟨t.pivot r s,wF2,(r:Int),m-1,⟨hI.pivot hr hs hne,Lp.rel_pivot ok hR hr hs hrF,hK2⟩,rfl,rfl,rfl⟩

section
variable {C:Mem} {a b n N:Nat} {t:Lp.Tab} {wB wL wO wW:Value} {wF:Nat->Value}
theorem least3_fn (ok:t.Ok N)(ha:C a=some (.cells ⟨[.pointer (some ⟨b,0,none⟩)]⟩ 133 (0,0))) :
  Jog.Fn cx.P 114 [wO,.func (.func 117) #[] #[.pointer (some ⟨a,0,none⟩)]] C ((tabL b n t wB wL wO wW wF).map Lent.ent)
   fun u _ L'=>(∃ o:Int,u=.int .i64 o/\Lp.LeastR t.others (fun i=>¬ n<=t.oth i/\¬ t.worth.g i=0) t.others.length o)/\L'=(tabL b n t wB wL wO wW wF).map Lent.ent:=by
 refine Fn.lendPur kr_ _ (d9 ok) fun C' hle hs=>?_
 have hV:=dt ok hs
 refine (least_fn C' wO t.others 117 [.pointer (some ⟨a,0,none⟩)] (fun i=>!decide (n<=t.oth i) && !decide (t.worth.g i=0)) hV.O kr_ fun i hi D hD =>
  min1_fn D a b n i N t wB wL wO wW _ (hV.mono hD) ok ((hle.trans hD) _ _ ha) hi).mono ?_
 rintro u D L' _ ⟨h1,o,rfl,h2⟩
 exact ⟨h1,o,rfl,LeastR_of h2 fun i _=>by simp⟩
theorem least4_fn (ok:t.Ok N)(ha:C a=some (.cells ⟨[.pointer (some ⟨b,0,none⟩)]⟩ 133 (0,0)))(hq:LineQ 1 t.worth) :
  Jog.Fn cx.P 114 [wO,.func (.func 118) #[] #[.pointer (some ⟨a,0,none⟩)]] C ((tabL b n t wB wL wO wW wF).map Lent.ent)
   fun u _ L'=>(∃ o:Int,u=.int .i64 o/\Lp.LeastR t.others (fun i=>n<=t.oth i/\t.worth.g i<0) t.others.length o)/\L'=(tabL b n t wB wL wO wW wF).map Lent.ent:=by
 refine Fn.lendPur kr_ _ (d9 ok) fun C' hle hs=>?_
 have hV:=dt ok hs
 refine (least_fn C' wO t.others 118 [.pointer (some ⟨a,0,none⟩)] (fun i=>decide (n<=t.oth i) && decide (t.worth.g i<0)) hV.O kr_ fun i hi D hD =>
  min2_fn D a b n i N t wB wL wO wW _ (hV.mono hD) ok ((hle.trans hD) _ _ ha) hi (hq.g0 (by decide) (by decide) i)).mono ?_
 rintro u D L' _ ⟨h1,o,rfl,h2⟩
 exact ⟨h1,o,rfl,LeastR_of h2 fun i _=>by simp⟩
theorem leaveO_fn {s:Nat}(hT:Tabs C)(ok:t.Ok N)(hs:s<t.others.length)(hq:∀ i,i<t.basic.length->LineQ 1 (t.line i)) :
  Jog.Fn cx.P 119 [.pointer (some ⟨b,0,none⟩),.int .i64 s] C ((tabL b n t wB wL wO wW wF).map Lent.ent)
   fun u _ L'=>(∃ o:Int,u=.int .i64 o/\Lp.LeaveR n t s t.basic.length o)/\L'=(tabL b n t wB wL wO wW wF).map Lent.ent :=
 Fn.lendPur kr_ _ (d9 ok) fun C' hle hse=>leave_fn C' (hT.mono hle) b n s N t wB wL wO wW _ (dt ok hse) ok hs fun i hi=>⟨(hq i hi).1,(hq i hi).g (by rw [eM ok hi];exact hs)⟩
end
theorem leaveR_none {F s n:Nat}{t:Lp.Tab}{o:Int}(h:Lp.LeaveR F t s n o)(ho:o<0):∀ i,i<n->F<=t.bas i->0<=(t.line i).g s:=by
 cases h with
 | none h=>exact h
 | some r _ _ _ _=>omega
theorem leaveR_some {F s n:Nat}{t:Lp.Tab}{o:Int}(h:Lp.LeaveR F t s n o)(ho:¬ o<0):∃ r:Nat,o=r/\r<n/\F<=t.bas r/\(t.line r).g s<0 /\
  ∀ i,i<n->F<=t.bas i->(t.line i).g s<0->(t.line r).c / -(t.line r).g s<(t.line i).c / -(t.line i).g s∨(t.line r).c / -(t.line r).g s=(t.line i).c / -(t.line i).g s/\t.bas r<=t.bas i:=by
 cases h with
 | none h=>exact absurd (by decide) ho
 | some r h1 h2 h3 h4=>exact ⟨r,rfl,h1,h2,h3,h4⟩
inductive MinO (p:Lp.Sys) (t:Lp.Tab):Value->Prop where
 | yes:Lp.RelW p.n t->(∀ s,s<t.others.length->p.n<=t.oth s->0<=t.worth.g s)->MinO p t (.tuple #[.int .i64 0,.bool true])
 | no (s:Nat):s<t.others.length->rayK t s*t.worth.g s<0->(∀ i,i<t.basic.length->p.n<=t.bas i->0<=rayK t s*(t.line i).g s)->(p.n<=t.oth s->0<=rayK t s)->MinO p t (.tuple #[.int .i64 s,.bool false])
theorem minimize_fn (C:Mem)(hT:Tabs C)(p:Lp.Sys)(cc:Nat->Rat)(b:Nat)(t0:Lp.Tab)(wB wL wO wW:Value)(wF0:Nat->Value)(hI:Lp.Inv p cc t0)(hR:Lp.Rel p.n t0 p.n)(hF:t0.Feas p.n)(hl:Lp.Lim p cc 1)(hm:p.m<=1000000)(hn:p.n<=1000000) :
  Jog.Fn cx.P 57 [.pointer (some ⟨b,0,none⟩)] C ((tabL b p.n t0 wB wL wO wW wF0).map Lent.ent) fun u _ L'=>∃ t wF,Lp.Inv p cc t/\t.Feas p.n/\MinO p t u/\L'=(tabL b p.n t wB wL wO wW wF).map Lent.ent:=by
 have hmx:maxLen<=9223372036854775807:=by simp [maxLen]
 refine Fn.it kr_ Tryz.func57 32 fun w0=>?_
 refine G.rg fun R hR=>?_
 refine D.aX (fun b1=>?_)
 refine D.q1 2 1 hR ?_;clear hR R
 refine G.freeze 0 rfl (fun C1 hle1 hb1=>?_)
 refine G.aM (L':=[.obj b (.cells ⟨[.int .i64 p.n,wB,wL,wO,strV (qtx t0.worth.c),wW]⟩ 143 (0,0)),.arr wB 3 1 t0.basic.length ((t0.basic).map encN).flatten,.arr wL 140 2 t0.basic.length ((bE t0 wF0).map encL).flatten,.arr wO 3 1 t0.others.length ((t0.others).map encN).flatten,.arr wW 27 1 t0.others.length ((t0.worth.f).map encR).flatten]++(List.range t0.basic.length).map (stE t0 wF0 0 0 0)) (by rw [aI 0 0];rfl) ?_
 refine G.aA [(5,3)] rfl (fun R hR=>?_)
 refine D.ac (bkT hb1 1) ?_
 refine D.ps 2 ?_
 refine D.ah (.head _) ?_
 refine D.ae ?_
 refine D.call (least3_fn hI.tab.ok (Mem.get hb1 mup)) rfl (.inr (by decide)) rfl rfl rfl rfl rfl rfl (show List.Perm _ (((tabL b p.n t0 wB wL wO wW wF0).map Lent.ent)++[]) from List.Perm.of_eq (by rw [List.append_nil,aI 0 0])) fl_ (fun v10 C10 L10 hle10 hq10=>?_)
 refine D.q2 1 1 2 hR ?_;clear hR R
 obtain ⟨⟨o0,rfl,ho0⟩,rfl⟩:=hq10
 refine G.aM (L':=[.obj b (.cells ⟨[.int .i64 p.n,wB,wL,wO,strV (qtx t0.worth.c),wW]⟩ 143 (0,0)),.arr wB 3 1 t0.basic.length ((t0.basic).map encN).flatten,.arr wL 140 2 t0.basic.length ((bE t0 wF0).map encL).flatten,.arr wO 3 1 t0.others.length ((t0.others).map encN).flatten,.arr wW 27 1 t0.others.length ((t0.worth.f).map encR).flatten]++(List.range t0.basic.length).map (stE t0 wF0 0 0 0)) (by rw [List.append_nil,aI 0 0]) ?_
 refine G.z3 2 1 2 12 ?_
 refine G.cd (fun h12=>?_) fun h12=>?_
 ·have ho:¬ o0<0:=by
   have:=of_decide_eq_true h12
   omega
  obtain ⟨s,rfl,hs,⟨hsF,hsw⟩,_⟩:=eN ho0 ho
  have hkz:rayK t0 s*t0.worth.g s<0:=by
   unfold rayK
   split <;> grind
  refine G.z2 3 2 3 ?_
  refine G.ay (G.bg rfl rfl rfl ?_)
  refine ⟨t0,wF0,hI,hF,.no s hs hkz (fun i hi hb=>?_) (fun h=>absurd h hsF),by rw [aI 0 0]⟩
  rw [hR s (by rw [<- hI.tab.lo];exact hs) hs om_ i hi hb,Rat.mul_zero]
  exact Rat.le_refl
 ·have ho:o0<0:=by
   have:=of_decide_eq_false h12
   omega
  have hno:=eO ho0 ho
  have hW0:Lp.RelW p.n t0:=fun s hs hlt=>by
   have:=hno s hs
   have h2:¬ p.n<=t0.oth s:=by omega
   grind
  refine G.loop (fun fr C' L' μ=>∃ (t:Lp.Tab)(wF:Nat->Value)(mu:Nat),(Lp.Inv p cc t/\Lp.Rel p.n t p.n/\t.Feas p.n/\Lp.RelW p.n t/\∀ K,Lp.Reach (Lp.MinP p.n) t K->K<=mu)/\fr=[(1,[],.pointer (some ⟨b1,0,none⟩))]/\L'=[.obj b (.cells ⟨[.int .i64 p.n,wB,wL,wO,strV (qtx t.worth.c),wW]⟩ 143 (0,0)),.arr wB 3 1 t.basic.length ((t.basic).map encN).flatten,.arr wL 140 2 t.basic.length ((bE t wF).map encL).flatten,.arr wO 3 1 t.others.length ((t.others).map encN).flatten,.arr wW 27 1 t.others.length ((t.worth.f).map encR).flatten]++(List.range t.basic.length).map (stE t wF 0 0 0)/\μ=mu) (h_1 1) ⟨t0,wF0,2 ^ (p.n+p.m),⟨hI,hR,hF,hW0,fun K hK=>Lp.min_len hI.tab.ok hK⟩,rfl,rfl,rfl⟩ (fun fr C0' L0' m hle0 hI=>?_)
  obtain ⟨t,wF,mu,⟨hI,hR,hF,hW,hK⟩,rfl,rfl,rfl⟩:=hI
  have ok:=hI.tab.ok
  have hbl:t.basic.length<=1000000:=by rw [hI.tab.lb];exact hm
  have hol:t.others.length<=1000000:=by rw [hI.tab.lo];exact hn
  have hq:∀ i,i<t.basic.length->LineQ 1 (t.line i):=fun i hi=>lineQ_of hI hl hi
  have hqw:=worthQ_of hI hl
  refine G.aA [(5,3)] rfl (fun R hR=>?_)
  refine D.ac (bkT hb1 1) ?_
  refine D.ps 2 ?_
  refine D.ah (.head _) ?_
  refine D.ae ?_
  refine D.call (least4_fn ok (Mem.get hb1 mup) hqw) rfl (.inr (by decide)) rfl rfl rfl rfl rfl rfl (show List.Perm _ (((tabL b p.n t wB wL wO wW wF).map Lent.ent)++[]) from List.Perm.of_eq (by rw [List.append_nil,aI 0 0])) fl_ (fun v19 C19 L19 hle19 hq19=>?_)
  refine D.q2 1 1 2 hR ?_;clear hR R
  obtain ⟨⟨o1,rfl,ho1⟩,rfl⟩:=hq19
  refine G.aM (L':=[.obj b (.cells ⟨[.int .i64 p.n,wB,wL,wO,strV (qtx t.worth.c),wW]⟩ 143 (0,0)),.arr wB 3 1 t.basic.length ((t.basic).map encN).flatten,.arr wL 140 2 t.basic.length ((bE t wF).map encL).flatten,.arr wO 3 1 t.others.length ((t.others).map encN).flatten,.arr wW 27 1 t.others.length ((t.worth.f).map encR).flatten]++(List.range t.basic.length).map (stE t wF 0 0 0)) (by rw [List.append_nil,aI 0 0]) ?_
  refine G.z3 2 1 2 21 ?_
  refine G.cd (fun h21=>?_) fun h21=>?_
  ·have ho:o1<0:=of_decide_eq_true h21
   have hno:=eO ho1 ho
   refine G.z2 2 2 3 ?_
   refine G.ay (G.bg rfl rfl rfl ?_)
   exact ⟨t,wF,hI,hF,.yes hW (fun s hs hb=>by have:=hno s hs;grind),by rw [aI 0 0]⟩
  ·have ho:¬ o1<0:=of_decide_eq_false h21
   obtain ⟨s,rfl,hs,⟨hsF,hsw⟩,hsm⟩:=eN ho1 ho
   refine G.aA [(2,3)] rfl (fun R hR=>?_)
   refine D.ac (bkT hb1 1) ?_
   refine D.ae ?_
   refine D.call (leaveO_fn (hT.mono mup) ok hs hq) rfl (.inr (by decide)) rfl rfl rfl rfl rfl rfl (show List.Perm _ (((tabL b p.n t wB wL wO wW wF).map Lent.ent)++[]) from List.Perm.of_eq (by rw [List.append_nil,aI 0 0])) fl_ (fun v24 C24 L24 hle24 hq24=>?_)
   refine D.q3 1 1 2 4 hR ?_;clear hR R
   obtain ⟨⟨o2,rfl,ho2⟩,rfl⟩:=hq24
   refine G.aM (L':=[.obj b (.cells ⟨[.int .i64 p.n,wB,wL,wO,strV (qtx t.worth.c),wW]⟩ 143 (0,0)),.arr wB 3 1 t.basic.length ((t.basic).map encN).flatten,.arr wL 140 2 t.basic.length ((bE t wF).map encL).flatten,.arr wO 3 1 t.others.length ((t.others).map encN).flatten,.arr wW 27 1 t.others.length ((t.worth.f).map encR).flatten]++(List.range t.basic.length).map (stE t wF 0 0 0)) (by rw [List.append_nil,aI 0 0]) ?_
   refine G.z4 2 1 2 4 26 ?_
   refine G.cd (fun h26=>?_) fun h26=>?_
   ·have ho3:o2<0:=of_decide_eq_true h26
    have hno:=leaveR_none ho2 ho3
    have hk1:rayK t s=1:=by
     unfold rayK
     rw [if_neg (by grind)]
    refine G.z2 3 2 3 ?_
    refine G.ay (G.bg rfl rfl rfl ?_)
    refine ⟨t,wF,hI,hF,.no s hs (by rw [hk1];grind) (fun i hi hb=>?_) (fun _=>by rw [hk1];decide),by rw [aI 0 0]⟩
    rw [hk1]
    have:=hno i hi hb
    grind
   ·have ho3:¬ o2<0:=of_decide_eq_false h26
    obtain ⟨r,rfl,hr,hrF,hrg,hrm⟩:=leaveR_some ho2 ho3
    have hP:Lp.MinP p.n t r s:=⟨hr,hs,hrF,hsF,hsw,fun j hj hb hg=>hsm j hj ⟨hb,hg⟩,hrg,hrm,hF⟩
    have hne:(t.line r).g s≠0:=by grind
    obtain ⟨hmu,hK2⟩:=Lp.Reach.fall hP hK
    refine G.aA [(3,3)] rfl (fun R hR=>?_)
    refine D.ac (bkT hb1 1) ?_
    refine D.ps 2 ?_
    refine D.call (pivot_fn _ (hT.mono mup) b p.n r s (p.n+p.m) t wB wL wO wW wF ok hbl hol hr hs hne hq hqw) rfl (.inr (by decide)) rfl rfl rfl rfl rfl rfl (show List.Perm _ (((tabL b p.n t wB wL wO wW wF).map Lent.ent)++[]) from List.Perm.of_eq (by rw [List.append_nil,aI 0 0])) fl_ (fun v31 C31 L31 hle31 hq31=>?_)
    refine D.e1 1 hR ?_;clear hR R
    obtain ⟨-,wF2,rfl⟩:=hq31
    refine G.aM (L':=[.obj b (.cells ⟨[.int .i64 p.n,wB,wL,wO,strV (qtx (t.pivot r s).worth.c),wW]⟩ 143 (0,0)),.arr wB 3 1 (t.pivot r s).basic.length (((t.pivot r s).basic).map encN).flatten,.arr wL 140 2 (t.pivot r s).basic.length ((bE (t.pivot r s) wF2).map encL).flatten,.arr wO 3 1 (t.pivot r s).others.length (((t.pivot r s).others).map encN).flatten,.arr wW 27 1 (t.pivot r s).others.length (((t.pivot r s).worth.f).map encR).flatten]++(List.range (t.pivot r s).basic.length).map (stE (t.pivot r s) wF2 0 0 0)) (by rw [List.append_nil,aI 0 0]) ?_
    refine G.ap (m':=m-1) om_ mup (h_1 1) ⟨t.pivot r s,wF2,m-1,⟨hI.pivot hr hs hne,Lp.rel_pivot ok hR hr hs hrF,Lp.min_feas ok hP,Lp.relw_pivot ok (fun s' hs' ho' i hi hb=>hR s' (by rw [<- hI.tab.lo];exact hs') hs' ho' i hi hb) hW hr hs hrF,hK2⟩,rfl,rfl,rfl⟩
end Go.Proofs.YtifolnapeolhcaaGreatDoor
namespace Go.Jog
open Go

theorem G.rowAny {F:Fx}{k:List KI}{fr:Fr}{C:Mem}{L:List Ent}{e:Exit}(j:Nat){v:Value}{t s m:Nat}{xs:List Value}(hj:L[j]?=some (.arr v t s m xs))
  (h:∀ A c,v=.slice A m c->(0<m->A=some ⟨(A.getD ⟨0,0,none⟩).block,0,none⟩)->m<=c->c<=maxLen->G F k e fr C L):G F k e fr C L:=fun h0 a w ha hw=>by
 have hw':=St.perm hw (aa hj)
 have hown:w.ownsRow 0 t s v m xs:=hw'.sep.e _ (List.mem_cons_self ..)
 rcases hown.2 with ⟨h1,h2⟩ | ⟨g,cap,cur,h1,_,_,h3,h4,_⟩
 ·subst h2;exact h _ _ h1 (fun h=>absurd h om_) om_ (Nat.zero_le _) h0 a w ha hw
 ·exact h _ _ h1 fl_ h3 h4 h0 a w ha hw
theorem G.d4 {F:Fx}{k:List KI}{fr:Fr}{e:Exit}:∀ (ls:List Lent){C:Mem}{L2:List Ent},(∀ x∈ls,x.wf)->(∀ C',C.le C'->(∀ x∈ls,x.seen C')->G F k e fr C' L2)->G F k e fr C (ls.map Lent.ent++L2)
 | [],C,_,_,h=>h C (Mem.le.refl C) fun x hx=>by cases hx
 | .obj b cs t::ls,C,L2,hw,h=>by
  refine G.freeze 0 rfl fun C1 h1 hb=>?_
  refine G.d4 ls (fun x hx=>hw x (List.mem_cons_of_mem _ hx)) fun C2 h2 hs=>h C2 (h1.trans h2) fun x hx=>?_
  rcases List.mem_cons.1 hx with rfl | hx
  ·exact h2 _ _ hb
  ·exact hs x hx
 | .arr v m s t rows::ls,C,L2,hw,h=>by
  have hw0:=hw _ List.mem_cons_self
  refine G.freezeArr 0 rows rfl rfl hw0.2 hw0.1 fun C1 h1 hb=>?_
  refine G.d4 ls (fun x hx=>hw x (List.mem_cons_of_mem _ hx)) fun C2 h2 hs=>h C2 (h1.trans h2) fun x hx=>?_
  rcases List.mem_cons.1 hx with rfl | hx
  ·exact Sl.mono hb h2
  ·exact hs x hx
section
variable {cx:Cx} {n:Nat} {ds:List (Option Nat)} {R:Rg n ds} {its:List It} {fr:Fr} {C:Mem} {L:List Ent} {i k d:Nat} {o:Oper} {g:GL} {v:Value}
theorem D.indexSG (g0 off:Nat){t e len cap size:Nat}{A:Option Addr}{x y:Operand}{ki:IntKind}{m:Int}{ti te:TI}(hk:Nat.ble k 1=true)(hd:o.dst=some d)(hop:o.op=.indexAddr t x y)
  (hg:gOf ds fr o.guard=some g) (hx:ev fr g x=some (.slice A len cap)) (hy:ev fr g y=some (.int ki m)) (ht:cx.T.get t=some ti) (hte:ti.k=.slice e) (he:cx.T.get e=some te) (hsz:te.size=size)
  (h0:GT ds fr g->A=some ⟨g0,0,none⟩/\0<=m/\m<len/\off=m.toNat*size) (hp:aF n ds ((d,g,.pointer (some ⟨g0,off,none⟩))::fr) d=true) (hwf:wfG ds fr g=true)
  (h:D cx R its ((d,g,.pointer (some ⟨g0,off,none⟩))::fr) C L):D cx R ((i,k,o)::its) fr C L:=by
 have hu:cx.P.underlying t=some (.slice e):=by
  obtain ⟨kk,s1,b1,z1,g1⟩:=ti
  simp only at hte
  subst hte
  exact bC cx.hT ht
 refine D.run _ hk hd hg (fun hGT a hs w=>?_) hp hwf h
 obtain ⟨rfl,hm0,hml,rfl⟩:=h0 hGT
 have e1:execOp a.eval o=(do Pure.pure (.value (<- Instr.indexAt t (a.eval x) (a.eval y))):Sem Next):=by unfold execOp;rw [hop]
 rw [e1,hs _ _ hx,hs _ _ hy]
 have h2:=cT cx.hT he w
 rw [hsz] at h2
 simp [Instr.indexAt,asIntOf,run_underlying hu,h2,hm0,hml,Addr.add_lit]
theorem D.loadArrG {t g0 off e size len m cap:Nat}{A:Option Addr}{x:Operand}{xs:List Value}{ti:TI}(hm:Ent.arr (.slice A m cap) e size len xs∈L)(hk:k=1)(hd:o.dst=some d)(hop:o.op=.load t x)(hg:gOf ds fr o.guard=some g)(hx:ev fr g x=some (.pointer (some ⟨g0,off,none⟩)))
  (ht:cx.T.get t=some ti) (hv:GT ds fr g->A=some ⟨g0,0,none⟩/\cV ti ((xs.drop off).take ti.size)=some v) (hp:aF n ds ((d,g,v)::fr) d=true) (hwf:wfG ds fr g=true)
  (h:D cx R its ((d,g,v)::fr) C L):D cx R ((i,k,o)::its) fr C L :=
 D.det (by subst hk;rfl) hd hg hp hwf (fun hGT a hs κ' hκ w hw=>by
  obtain ⟨hA,hv2⟩:=hv hGT
  subst hA
  have hown:w.ownsRow 0 e size (.slice (some ⟨g0,0,none⟩) m cap) len xs:=hw.sep.e _ ((hκ hk).2 _ hm)
  obtain ⟨_,_,_,cur,hb,_,htake⟩:=bI hown
  have hcell:∀ j u,((xs.drop off).take ti.size)[j]?=some u->w.cell? ((⟨g0,off,none⟩:Addr).add j)=some u:=fun j u hj=>by
   rw [Addr.add_lit,cell_of_row w g0 (off+j) _ e (0,0) hb]
   rw [List.getElem?_take] at hj
   split at hj
   ·rw [List.getElem?_drop,<- htake,List.getElem?_take] at hj
    split at hj
    ·simpa using hj
    ·cases hj
   ·cases hj
  have hex:(execOp a.eval o).run cx.P w=.ok (.value v) w:=by
   have e1:execOp a.eval o=(do Pure.pure (.value (<- Instr.loadAt t (a.eval x))):Sem Next):=by unfold execOp;rw [hop]
   rw [e1,hs _ _ hx]
   simp only [Instr.loadAt,Instr.sureAddr,Sem.run_bind,Sem.run_pure,Result.andThen_ok]
   rw [de cx.hT ht hcell hv2]
   rfl
  unfold Oper.quietAt
  rw [hex]
  exact ⟨rfl,rfl⟩) h
theorem D.givesQ {f:Operand}{args:Array Operand}{ts:Array TypeId}{fid:FuncId}{fi ca:Array Value}{vs args':List Value}{x:Ent}(hxm:x∈L)
  (c:GT ds fr g->Fn cx.P fid args' C [x] fun u _ L'=>u=v/\L'=[x]) (hk:k=1) (hd:o.dst=some d) (hg:gOf ds fr o.guard=some g) (hop:o.op=.call ⟨.value f,args,ts⟩) (hf:ev fr g f=some (.func (.func fid) fi ca))
  (hargs:listO (ev fr g) args.toList=some vs) (he:fi.toList++vs++ca.toList=args') (hp:aF n ds ((d,g,v)::fr) d=true) (hwf:wfG ds fr g=true)
  (h:D cx R its ((d,g,v)::fr) C L):D cx R ((i,k,o)::its) fr C L :=
 D.det (by subst hk;rfl) hd hg hp hwf (fun hGT a hs κ' hκ w hw=>by
  unfold Oper.quietAt
  rw [run_call hop (hs _ _ hf) (cS (fun x y=>hs x y) hargs) he (c hGT).1 w]
  exact ⟨rfl,(c hGT).quiet1 (hκ hk).1 ((hκ hk).2 _ hxm) hw⟩) h
end
end Go.Jog
namespace Go.Proofs.YtifolnapeolhcaaGreatDoor
open Go Go.Jog
set_option maxRecDepth 100000

theorem clI_fn (C:Mem)(v:Value)(l:List Nat)(hv:Sl C 1 v (l.map encN))(hl:l.length<=1000000):Jog.Fn cx.P 108 [v] C [] fun u _C' L'=>∃ A n c,u=.slice A n c/\L'=[.arr (.slice A n c) 3 1 l.length (l.map encN).flatten]:=by
 obtain ⟨A0,c0,rfl,hc1,hc2,hc3,hc4⟩:=id hv
 have hmx:maxLen<=9223372036854775807:=by simp [maxLen]
 simp only [List.length_map] at hv hc1 ⊢
 refine Fn.it kr_ Tryz.func108 8 fun w0=>?_
 refine G.z1 1 0 ?_
 refine G.rp 1 fun R hR=>?_
 refine D.nilEq rfl rfl rfl rfl rfl rfl rfl rfl rfl ?_
 refine D.e2 0 4 hR ?_
 refine G.cd (fun h4=>?_) fun h4=>?_
 ·have hA:A0=none:=by
   cases A0 with
   | none=>rfl
   | some a=>cases h4
  have hnil:l=[]:=by
   cases l with
   | nil=>rfl
   | cons q r =>
    obtain ⟨a,ha,_⟩:=hc4 0 (encN q) rfl
    rw [hA] at ha
    cases ha
  refine G.z1 1 2 ?_
  refine G.nilArr 3 1 ?_
  refine G.ay (G.dC rfl rfl ?_)
  exact ⟨none,0,0,rfl,by rw [hnil];rfl⟩
 ·refine G.rg fun R hR=>?_
  refine D.bw [] rfl rfl rfl rfl rfl rfl rfl rfl rfl rfl rfl rfl fl_ (fun b5=>?_)
  refine D.ae ?_
  refine D.ai (j:=0) rfl rfl rfl rfl rfl rfl rfl rfl rfl rfl rfl (hv.mono mup) (by simp [encN,oneB]) (by simp only [List.length_map,List.length_nil,maxLen];omega) (by simp only [List.length_map,List.length_nil];omega) fl_ (fun A7 n7 c7=>?_)
  refine D.q1 1 2 hR ?_
  refine G.aM (L':=[.arr (.slice A7 n7 c7) 3 1 l.length (l.map encN).flatten]) (by simp) ?_
  refine G.ay (G.dC rfl rfl ?_)
  exact ⟨A7,n7,c7,rfl,rfl⟩
theorem rel1_fn (C:Mem)(a2 s:Nat)(q:Rat)(w:Value)(l:List Rat)(hw:Sl C 1 w (l.map encR))(ha2:C a2=some (.cells ⟨[.int .i64 s]⟩ 3 (0,0)))(hs:s<l.length) :
  Gives cx.P 110 [.agg ⟨[strV (qtx q),w]⟩,.pointer (some ⟨a2,0,none⟩)] C (.bool (!decide (l.getD s 0=0))):=by
 obtain ⟨A1,c1,rfl,h11,h12,_⟩:=id hw
 have hmx:maxLen<=9223372036854775807:=by simp [maxLen]
 refine Fn.it kr_ Tryz.func110 10 fun w0=>?_
 refine G.rg fun R hR=>?_
 refine D.aX (fun b2=>?_)
 refine D.q2 1 1 2 hR ?_
 refine G.freeze 0 rfl (fun C2 hle2 hb2=>?_)
 refine G.rp 1 fun R hR=>?_
 refine D.ac (bkT hb2 1) ?_
 refine D.ac (bkT ha2 1) ?_
 refine D.ak (hw.mono mup) rfl rfl rfl rfl rfl rfl rfl rfl rfl rfl om_ (ct hs) fl_ (fun p7 hp7=>?_)
 refine D.ac hp7 ?_
 refine D.q1 2 3 hR ?_
 refine G.rf ?_
 refine ⟨?_,rfl⟩
 show Value.bool _=Value.bool _
 congr 1
 show (!((⟨(qtx (l.getD s 0)).toArray⟩:ByteArray).data.toList == (⟨#[48]⟩:ByteArray).data.toList))=_
 rw [dU]
theorem rel2_fn (C:Mem)(a2 s:Nat)(q:Rat)(w:Value)(l:List Rat)(hw:Sl C 1 w (l.map encR))(ha2:C a2=some (.cells ⟨[.int .i64 s]⟩ 3 (0,0)))(hs:s<l.length) :
  Gives cx.P 112 [.agg ⟨[strV (qtx q),w]⟩,.pointer (some ⟨a2,0,none⟩)] C (.bool (!decide (l.getD s 0=0))):=by
 obtain ⟨A1,c1,rfl,h11,h12,_⟩:=id hw
 have hmx:maxLen<=9223372036854775807:=by simp [maxLen]
 refine Fn.it kr_ Tryz.func112 10 fun w0=>?_
 refine G.rg fun R hR=>?_
 refine D.aX (fun b2=>?_)
 refine D.q2 1 1 2 hR ?_
 refine G.freeze 0 rfl (fun C2 hle2 hb2=>?_)
 refine G.rp 1 fun R hR=>?_
 refine D.ac (bkT hb2 1) ?_
 refine D.ac (bkT ha2 1) ?_
 refine D.ak (hw.mono mup) rfl rfl rfl rfl rfl rfl rfl rfl rfl rfl om_ (ct hs) fl_ (fun p7 hp7=>?_)
 refine D.ac hp7 ?_
 refine D.q1 2 3 hR ?_
 refine G.rf ?_
 refine ⟨?_,rfl⟩
 show Value.bool _=Value.bool _
 congr 1
 show (!((⟨(qtx (l.getD s 0)).toArray⟩:ByteArray).data.toList == (⟨#[48]⟩:ByteArray).data.toList))=_
 rw [dU]
inductive FirstR (q:Nat->Prop) (n:Nat):Int->Prop where
 | none:(∀ i,i<n->¬ q i)->FirstR q n (-1)
 | some (r:Nat):r<n->q r->(∀ i,i<r->¬ q i)->FirstR q n r
theorem lidx_fn (C:Mem)(v:Value)(ls:List (Rat × Value))(g:Nat)(ca:List Value)(q:Nat->Prop)[DecidablePred q](hv:Sl C 2 v (ls.map encL))(_hen:Jog.Enters cx.P g=true)
  (hp:∀ i x,ls[i]?=some x->∀ D:Mem,C.le D->Gives cx.P g (.agg ⟨encL x⟩::ca) D (.bool (decide (q i)))) :
  Pur cx.P 109 [v,.func (.func g) #[] ⟨ca⟩] C fun u _=>∃ o:Int,u=.int .i64 o/\FirstR q ls.length o:=by
 obtain ⟨A0,c0,rfl,hc1,hc2,_⟩:=id hv
 have hmx:maxLen<=9223372036854775807:=by simp [maxLen]
 simp only [List.length_map] at hv hc1 ⊢
 refine Fn.it kr_ Tryz.func109 19 fun w0=>?_
 refine G.z2 1 0 1 ?_
 refine G.z4 3 0 1 7 8 ?_
 refine G.loop (fun fr C' L' μ=>∃ (i:Nat),(i<=ls.length/\∀ j,j<i->¬ q j)/\fr=[(0,[],.slice A0 ls.length c0),(1,[],.func (.func g) #[] ⟨ca⟩),(7,[],.int .i64 ls.length),(8,[],.int .i64 i)]/\L'=[]/\μ=ls.length-i) (h_4 0 1 7 8) ⟨0,⟨Nat.zero_le _,fun j hj=>absurd hj (Nat.not_lt_zero _)⟩,rfl,rfl,rfl⟩ (fun fr C0' L0' m hle0 hI=>?_)
 obtain ⟨i,⟨hi,hno⟩,rfl,rfl,rfl⟩:=hI
 refine G.z5 1 0 1 7 8 9 ?_
 refine G.cd (fun h9=>?_) fun h9=>?_
 ·have hil:i<ls.length:=by simpa using h9
  obtain ⟨x,hx⟩:∃ x,ls[i]?=some x:=⟨ls[i],List.getElem?_eq_getElem hil⟩
  refine G.z5 2 0 1 5 7 8 ?_
  refine G.rp 3 fun R hR=>?_
  refine D.ak (hv.mono mup) rfl rfl rfl rfl rfl rfl rfl rfl rfl rfl om_ (show (ls.map encL)[i]?=some [strV (qtx x.1),x.2] from cQ hx) fl_ (fun p14 hp14=>?_)
  refine D.ac hp14 ?_
  refine D.aj (hp i x hx _ mup) ?_
  refine D.e6 0 1 5 7 8 16 hR ?_
  refine G.cd (fun h16=>?_) fun h16=>?_
  ·have hyes:q i:=of_decide_eq_true h16
   refine G.z1 2 4 ?_
   refine G.rf ?_
   exact ⟨rfl,(i:Int),rfl,.some i hil hyes hno⟩
  ·have hn:¬ q i:=of_decide_eq_false h16
   refine G.rg fun R hR=>?_
   refine D.aq _ ?_
   refine D.q4 1 0 1 7 8 hR ?_
   refine G.ap (m':=ls.length-(i+1)) om_ mup (h_4 0 1 7 8) ⟨i+1,⟨by omega,fun j hj=>by
    rcases Nat.lt_or_eq_of_le (Nat.le_of_lt_succ hj) with h1 | h1
    ·exact hno j h1
    ·rw [h1];exact hn⟩,rfl,rfl,rfl⟩
 ·have hil:i=ls.length:=by
   have:¬ i<ls.length:=by simpa using h9
   omega
  refine G.z1 1 4 ?_
  refine G.rf ?_
  exact ⟨rfl, -1,rfl,.none (by rw [<- hil];exact hno)⟩

theorem slackF_fn (C:Mem)(b n v:Nat)(cs:List Value)(hb:C b=some (.cells ⟨.int .i64 n::cs⟩ 143 (0,0))) :
  Gives cx.P 111 [.pointer (some ⟨b,0,none⟩),.int .i64 v] C (.bool (decide (n<=v))):=by
 refine Fn.it kr_ Tryz.func111 11 fun w0=>?_
 refine G.z2 1 0 1 ?_
 refine G.rp 4 fun R hR=>?_
 refine D.ac (bkT hb 1) ?_
 refine D.q1 2 4 hR ?_
 refine G.rf ?_
 refine ⟨?_,rfl⟩
 congr 1
 rw [decide_eq_decide]
 omega
theorem slackO_fn (C:Mem)(b n v:Nat)(cs:List Value):Jog.Fn cx.P 111 [.pointer (some ⟨b,0,none⟩),.int .i64 v] C [.obj b (.cells ⟨.int .i64 n::cs⟩ 143 (0,0))]
   fun u _ L'=>u=.bool (decide (n<=v))/\L'=[.obj b (.cells ⟨.int .i64 n::cs⟩ 143 (0,0))]:=by
 have h:=Fn.lendPur (P:=cx.P) (f:=111) (args:=[.pointer (some ⟨b,0,none⟩),.int .i64 v]) (C:=C) (q:=fun u=>u=.bool (decide (n<=v))) kr_ [.obj b (.int .i64 n::cs) 143] (fun x hx=>by
  rcases List.mem_cons.1 hx with rfl | hx
  ·trivial
  ·cases hx) fun C' hle hs=>(slackF_fn C' b n v cs (hs _ (List.mem_cons_self ..))).mono fun u C2 L2 _ ⟨h1,h2⟩=>⟨h2,h1⟩
 exact h
theorem tabL_rows {C:Mem}{b n:Nat}{t:Lp.Tab}{wB wL wO wW:Value}{wF:Nat->Value}(h:∀ x∈tabL b n t wB wL wO wW wF,x.seen C):Sl C 1 wO (t.others.map encN)/\Sl C 2 wL ((bE t wF).map encL)/\∀ i,i<t.basic.length->Sl C 1 (wF i) ((t.line i).f.map encR) :=
 ⟨h _ (List.mem_cons_of_mem _ (List.mem_cons_of_mem _ (List.mem_cons_of_mem _ (List.mem_cons_self ..)))),h _ (List.mem_cons_of_mem _ (List.mem_cons_of_mem _ (List.mem_cons_self ..))),fun i hi =>
  h (rowL t wF i) (List.mem_cons_of_mem _ (List.mem_cons_of_mem _ (List.mem_cons_of_mem _ (List.mem_cons_of_mem _ (List.mem_cons_of_mem _ (List.mem_map.2 ⟨i,List.mem_range.2 hi,rfl⟩))))))⟩
section
variable {C:Mem} {a2 b n N s:Nat} {t:Lp.Tab} {wB wO wW:Value} {wF:Nat->Value}
theorem clO_fn {wL:Value}(ok:t.Ok N)(hl:t.others.length<=1000000):Jog.Fn cx.P 108 [wO] C ((tabL b n t wB wL wO wW wF).map Lent.ent)
   fun u _ L'=>∃ A n2 c,u=.slice A n2 c/\L'=.arr (.slice A n2 c) 3 1 t.others.length (t.others.map encN).flatten::(tabL b n t wB wL wO wW wF).map Lent.ent:=by
 have h:=Fn.lendAll (P:=cx.P) (f:=108) (args:=[wO]) (L:=[]) (C:=C) (post:=fun u L'=>∃ A n2 c,u=.slice A n2 c/\L'=[.arr (.slice A n2 c) 3 1 t.others.length (t.others.map encN).flatten]) kr_ (tabL b n t wB wL wO wW wF) (d9 ok) fun C' hle hs=>clI_fn C' wO t.others (tabL_rows hs).1 hl
 rw [List.append_nil] at h
 refine ⟨h.1,fun w hw=>(h.2 w hw).mono ?_⟩
 rintro e w' ⟨v,C',L',he,hst,L2,rfl,A,n2,c,rfl,rfl⟩
 exact ⟨_,C',_,he,St.perm hst (List.perm_append_singleton _ _),A,n2,c,rfl,rfl⟩
theorem idx1_fn {wL:Value}(ok:t.Ok N)(ha2:C a2=some (.cells ⟨[.int .i64 s]⟩ 3 (0,0)))(hs:s<t.others.length) :
  Jog.Fn cx.P 109 [wL,.func (.func 110) #[] #[.pointer (some ⟨a2,0,none⟩)]] C ((tabL b n t wB wL wO wW wF).map Lent.ent)
   fun u _ L'=>(∃ o:Int,u=.int .i64 o/\FirstR (fun i=>¬ (t.line i).g s=0) t.basic.length o)/\L'=(tabL b n t wB wL wO wW wF).map Lent.ent:=by
 refine Fn.lendPur kr_ _ (d9 ok) fun C' hle hse=>?_
 obtain ⟨_,hL,hF⟩:=tabL_rows hse
 refine (lidx_fn C' wL (bE t wF) 110 [.pointer (some ⟨a2,0,none⟩)] (fun i=>¬ (t.line i).g s=0) hL kr_ fun i x hx D hD=>?_).mono ?_
 ·have hi:i<t.basic.length:=by rw [<- dT (wF:=wF)];exact (List.getElem?_eq_some_iff.1 hx).1
  rw [rowsV_at hi] at hx
  cases hx
  rw [decide_not]
  exact rel1_fn D a2 s (t.line i).c (wF i) (t.line i).f ((hF i hi).mono hD) ((hle.trans hD) _ _ ha2) (by rw [eM ok hi];exact hs)
 ·rintro u D L' _ ⟨h1,o,rfl,h2⟩
  rw [dT] at h2
  exact ⟨h1,o,rfl,h2⟩
theorem idx2_fn {A:Option Addr}{c r M:Nat}(hM:t.basic.length=M)(ok:t.Ok N)(ha2:C a2=some (.cells ⟨[.int .i64 s]⟩ 3 (0,0)))(hs:s<t.others.length)(hr:r<t.basic.length)(hc:M<=c) :
  Jog.Fn cx.P 109 [.slice (if c=r+1 then A else A.map (·.add ((r+1)*2))) (M-(r+1)) (c-(r+1)),.func (.func 112) #[] #[.pointer (some ⟨a2,0,none⟩)]] C ((tabL b n t wB (.slice A M c) wO wW wF).map Lent.ent)
   fun u _ L'=>(∃ o:Int,u=.int .i64 o/\FirstR (fun i=>¬ (t.line (r+1+i)).g s=0) (t.basic.length-(r+1)) o)/\L'=(tabL b n t wB (.slice A M c) wO wW wF).map Lent.ent:=by
 subst hM
 refine Fn.lendPur kr_ _ (d9 ok) fun C' hle hse=>?_
 obtain ⟨_,hL,hF⟩:=tabL_rows hse
 have hL2:=Sl.sub (l:=r+1) (h:=t.basic.length) (m:=c) hL om_ (by rw [List.length_map,dT];exact Nat.le_refl _) hc (Nat.le_refl _)
 have e:((bE t wF).map encL).take t.basic.length=(bE t wF).map encL:=List.take_of_length_le (by rw [List.length_map,dT];exact Nat.le_refl _)
 rw [e,<- List.map_drop] at hL2
 have hlen:((bE t wF).drop (r+1)).length=t.basic.length-(r+1):=by rw [List.length_drop,dT]
 refine (lidx_fn C' _ ((bE t wF).drop (r+1)) 112 [.pointer (some ⟨a2,0,none⟩)] (fun i=>¬ (t.line (r+1+i)).g s=0) hL2 kr_ fun i x hx D hD=>?_).mono ?_
 ·have hi:r+1+i<t.basic.length:=by have:=(List.getElem?_eq_some_iff.1 hx).1;omega
  rw [List.getElem?_drop,rowsV_at hi] at hx
  cases hx
  rw [decide_not]
  exact rel2_fn D a2 s (t.line (r+1+i)).c (wF (r+1+i)) (t.line (r+1+i)).f ((hF _ hi).mono hD) ((hle.trans hD) _ _ ha2) (by rw [eM ok hi];exact hs)
 ·rintro u D L' _ ⟨h1,o,rfl,h2⟩
  rw [hlen] at h2
  exact ⟨h1,o,rfl,h2⟩
end
def Srch (p:Lp.Sys)(t:Lp.Tab)(s:Nat)(o:Int):Prop:=(o=-1/\∀ i,i<t.basic.length->p.n<=t.bas i->(t.line i).g s=0)∨∃ r:Nat,o=r/\r<t.basic.length/\¬ (t.line r).g s=0/\∀ i,i<r->p.n<=t.bas i->(t.line i).g s=0
theorem firstR_none {q:Nat->Prop}{n:Nat}{o:Int}(h:FirstR q n o)(ho:o<0):∀ i,i<n->¬ q i:=by
 cases h with
 | none h=>exact h
 | some r _ _ _=>omega
theorem firstR_some {q:Nat->Prop}{n:Nat}{o:Int}(h:FirstR q n o)(ho:¬ o<0):∃ r:Nat,o=r/\r<n/\q r/\∀ i,i<r->¬ q i:=by
 cases h with
 | none h=>exact absurd (by decide) ho
 | some r h1 h2 h3=>exact ⟨r,rfl,h1,h2,h3⟩
theorem srch_first {p:Lp.Sys}{t:Lp.Tab}{s:Nat}{o:Int}(h:FirstR (fun i=>¬ (t.line i).g s=0) t.basic.length o):Srch p t s o:=by
 cases h with
 | none h=>exact .inl ⟨rfl,fun i hi _=>Decidable.not_not.1 (h i hi)⟩
 | some r h1 h2 h3=>exact .inr ⟨r,rfl,h1,h2,fun i hi _=>Decidable.not_not.1 (h3 i hi)⟩
theorem release_fn (C:Mem)(hT:Tabs C)(p:Lp.Sys)(cc:Nat->Rat)(b:Nat)(t0:Lp.Tab)(wB wL wO wW:Value)(wF0:Nat->Value)(hI:Lp.Inv p cc t0)(ho:t0.others=List.range p.n)(hl:Lp.Lim p cc 1)(hm:p.m<=1000000)(hn:p.n<=1000000) :
  Jog.Fn cx.P 54 [.pointer (some ⟨b,0,none⟩)] C ((tabL b p.n t0 wB wL wO wW wF0).map Lent.ent) fun u _ L'=>u=.tuple #[]/\∃ t wF,Lp.Inv p cc t/\Lp.Rel p.n t p.n/\L'=(tabL b p.n t wB wL wO wW wF).map Lent.ent:=by
 have hmx:maxLen<=9223372036854775807:=by simp [maxLen]
 have hol0:t0.others.length=p.n:=hI.tab.lo
 refine Fn.it kr_ Tryz.func54 65 fun w0=>?_
 refine G.aM (L':=[.obj b (.cells ⟨[.int .i64 p.n,wB,wL,wO,strV (qtx t0.worth.c),wW]⟩ 143 (0,0)),.arr wB 3 1 t0.basic.length ((t0.basic).map encN).flatten,.arr wL 140 2 t0.basic.length ((bE t0 wF0).map encL).flatten,.arr wO 3 1 t0.others.length ((t0.others).map encN).flatten,.arr wW 27 1 t0.others.length ((t0.worth.f).map encR).flatten]++(List.range t0.basic.length).map (stE t0 wF0 0 0 0)) (by rw [aI 0 0]) ?_
 refine G.rowAny 1 rfl (fun AB cB hw hAB hcB _=>?_)
 rw [hI.tab.lb] at hw hAB hcB
 subst hw
 refine G.rowAny 2 rfl (fun AL cL hw _ hcL _=>?_)
 rw [hI.tab.lb] at hw hcL
 subst hw
 refine G.aM (L':=[.obj b (.cells ⟨[.int .i64 p.n,(.slice AB p.m cB),(.slice AL p.m cL),wO,strV (qtx t0.worth.c),wW]⟩ 143 (0,0)),.arr (.slice AB p.m cB) 3 1 t0.basic.length ((t0.basic).map encN).flatten,.arr (.slice AL p.m cL) 140 2 t0.basic.length ((bE t0 wF0).map encL).flatten,.arr wO 3 1 t0.others.length ((t0.others).map encN).flatten,.arr wW 27 1 t0.others.length ((t0.worth.f).map encR).flatten]++(List.range t0.basic.length).map (stE t0 wF0 0 0 0)) rfl ?_
 refine G.aA [(4,3)] rfl (fun R hR=>?_)
 refine D.ps 3 ?_
 refine D.ah (.head _) ?_
 refine D.call (clO_fn hI.tab.ok om_) rfl (.inr (by decide)) rfl rfl rfl rfl rfl rfl (show List.Perm _ (((tabL b p.n t0 (.slice AB p.m cB) (.slice AL p.m cL) wO wW wF0).map Lent.ent)++[]) from List.Perm.of_eq (by rw [List.append_nil,aI 0 0] <;> rfl)) fl_ (fun v10 C10 L10 hle10 hq10=>?_)
 obtain ⟨Ac,n2,c2,rfl,rfl⟩:=hq10
 refine D.q4 2 0 10 11 12 hR ?_;clear hR R
 refine G.freezeArr 0 (t0.others.map encN) rfl rfl encN_all (by simp) (fun C10 hle10 hcl=>?_)
 have hn2:n2=p.n:=by
  obtain ⟨A9,c9,h90,_⟩:=id hcl
  injection h90 with e1 e2 e3
  rw [e2,List.length_map,hol0]
 subst hn2
 refine G.aM (L':=[.obj b (.cells ⟨[.int .i64 p.n,(.slice AB p.m cB),(.slice AL p.m cL),wO,strV (qtx t0.worth.c),wW]⟩ 143 (0,0)),.arr (.slice AB p.m cB) 3 1 t0.basic.length ((t0.basic).map encN).flatten,.arr (.slice AL p.m cL) 140 2 t0.basic.length ((bE t0 wF0).map encL).flatten,.arr wO 3 1 t0.others.length ((t0.others).map encN).flatten,.arr wW 27 1 t0.others.length ((t0.worth.f).map encR).flatten]++(List.range t0.basic.length).map (stE t0 wF0 0 0 0)) (by rw [aI 0 0,List.append_nil];rfl) ?_
 refine G.loop (fun fr C' L' μ=>∃ (k:Nat)(t:Lp.Tab)(wF:Nat->Value),(k<=p.n/\Lp.Inv p cc t/\Lp.Rel p.n t k)/\fr=[(0,[],.pointer (some ⟨b,0,none⟩)),(10,[],.slice Ac p.n c2),(11,[],.int .i64 p.n),(12,[],.int .i64 k)]/\L'=[.obj b (.cells ⟨[.int .i64 p.n,(.slice AB p.m cB),(.slice AL p.m cL),wO,strV (qtx t.worth.c),wW]⟩ 143 (0,0)),.arr (.slice AB p.m cB) 3 1 t.basic.length ((t.basic).map encN).flatten,.arr (.slice AL p.m cL) 140 2 t.basic.length ((bE t wF).map encL).flatten,.arr wO 3 1 t.others.length ((t.others).map encN).flatten,.arr wW 27 1 t.others.length ((t.worth.f).map encR).flatten]++(List.range t.basic.length).map (stE t wF 0 0 0)/\μ=p.n-k) (h_4 0 10 11 12) ⟨0,t0,wF0,⟨Nat.zero_le _,hI,fun s hs=>absurd hs (Nat.not_lt_zero _)⟩,rfl,rfl,rfl⟩ (fun fr C0' L0' m hle0 hI=>?_)
 obtain ⟨k,t,wF,⟨hk,hI,hR⟩,rfl,rfl,rfl⟩:=hI
 refine G.z5 1 0 10 11 12 13 ?_
 refine G.cd (fun h13=>?_) fun h13=>?_
 ·have hkl:k<p.n:=by
   have:=of_decide_eq_true h13
   omega
  have ok:=hI.tab.ok
  have hlb:=hI.tab.lb
  have hbl:t.basic.length<=1000000:=by rw [hI.tab.lb];exact hm
  have hol:t.others.length<=1000000:=by rw [hI.tab.lo];exact hn
  have hq:∀ i,i<t.basic.length->LineQ 1 (t.line i):=fun i hi=>lineQ_of hI hl hi
  have hkt:k<t.others.length:=by rw [hI.tab.lo];exact hkl
  refine G.rp 1 fun R hR=>?_
  refine D.ak (hcl.mono mup) rfl rfl rfl rfl rfl rfl rfl rfl rfl rfl om_ (show (t0.others.map encN)[k]?=some (encN k) from nrow_at (by rw [ho,List.getElem?_range hkl])) fl_ (fun p15 hp15=>?_)
  refine D.ac hp15 ?_
  refine D.aC (fun b2=>?_)
  refine D.ag (j:=0) ?_
  refine D.q6 1 0 2 3 10 11 12 hR ?_;clear hR R
  refine G.freeze 0 rfl (fun C2 hle2 hb2=>?_)
  refine G.aA [(5,3)] rfl (fun R hR=>?_)
  refine D.ps 3 ?_
  refine D.ah (.head _) ?_
  refine D.ae ?_
  refine D.call (idx1_fn ok (Mem.get hb2 mup) hkt) rfl (.inr (by decide)) rfl rfl rfl rfl rfl rfl (show List.Perm _ (((tabL b p.n t (.slice AB p.m cB) (.slice AL p.m cL) wO wW wF).map Lent.ent)++[]) from List.Perm.of_eq (by rw [List.append_nil,aI 0 0] <;> rfl)) fl_ (fun v22 C22 L22 hle22 hq22=>?_)
  refine D.q7 1 0 2 3 4 10 11 12 hR ?_;clear hR R
  obtain ⟨⟨o0,rfl,ho0⟩,rfl⟩:=hq22
  refine G.aM (L':=[.obj b (.cells ⟨[.int .i64 p.n,(.slice AB p.m cB),(.slice AL p.m cL),wO,strV (qtx t.worth.c),wW]⟩ 143 (0,0)),.arr (.slice AB p.m cB) 3 1 t.basic.length ((t.basic).map encN).flatten,.arr (.slice AL p.m cL) 140 2 t.basic.length ((bE t wF).map encL).flatten,.arr wO 3 1 t.others.length ((t.others).map encN).flatten,.arr wW 27 1 t.others.length ((t.worth.f).map encR).flatten]++(List.range t.basic.length).map (stE t wF 0 0 0)) (by rw [List.append_nil,aI 0 0]) ?_
  refine G.loop (fun fr C' L' μ=>∃ (o:Int),(Srch p t k o)/\fr=[(0,[],.pointer (some ⟨b,0,none⟩)),(2,[],.pointer (some ⟨b2,0,none⟩)),(3,[],.int .i64 k),(4,[],.int .i64 o),(10,[],.slice Ac p.n c2),(11,[],.int .i64 p.n),(12,[],.int .i64 k)]/\L'=[.obj b (.cells ⟨[.int .i64 p.n,(.slice AB p.m cB),(.slice AL p.m cL),wO,strV (qtx t.worth.c),wW]⟩ 143 (0,0)),.arr (.slice AB p.m cB) 3 1 t.basic.length ((t.basic).map encN).flatten,.arr (.slice AL p.m cL) 140 2 t.basic.length ((bE t wF).map encL).flatten,.arr wO 3 1 t.others.length ((t.others).map encN).flatten,.arr wW 27 1 t.others.length ((t.worth.f).map encR).flatten]++(List.range t.basic.length).map (stE t wF 0 0 0)/\μ=t.basic.length-o.toNat) (h_7 0 2 3 4 10 11 12) ⟨o0,srch_first ho0,rfl,rfl,rfl⟩ (fun fr C1' L1' m hle1 hI=>?_)
  obtain ⟨o,hS,rfl,rfl,rfl⟩:=hI
  refine G.rp 7 fun R hR=>?_
  refine D.ah (.head _) ?_
  refine D.ae ?_
  refine D.indexSG (AB.getD ⟨0,0,none⟩).block (o.toNat*1) rfl rfl rfl rfl rfl rfl rfl rfl rfl rfl (fun hg=>by
   have h:decide (o ≥ 0)=true:=hg.1
   have h2:=of_decide_eq_true h
   obtain ⟨r,hor,hrm,_⟩:=hS.resolve_left om_
   exact ⟨hAB om_,by omega,by omega,rfl⟩) rfl rfl ?_
  refine D.loadArrG (v:=.int .i64 (t.bas o.toNat)) (.tail _ (.head _)) rfl rfl rfl rfl rfl rfl (fun hg=>by
   have h:decide (o ≥ 0)=true:=hg.1
   have h2:=of_decide_eq_true h
   obtain ⟨r,hor,hrm,_⟩:=hS.resolve_left om_
   refine ⟨hAB om_, ?_⟩
   rw [bU dH (show t.basic[o.toNat]?=some (t.bas o.toNat) from nget_at om_)];rfl) rfl rfl ?_
  refine D.givesQ (.head _) (fun _=>slackO_fn _ b p.n (t.bas o.toNat) _) rfl rfl rfl rfl rfl rfl rfl rfl rfl ?_
  refine D.ae ?_
  refine D.au ?_
  refine D.e8 0 2 3 4 10 11 12 36 hR ?_;clear hR R
  refine G.cd (fun h36=>?_) fun h36=>?_
  ·have h36':o ≥ 0/\¬ p.n<=t.bas o.toNat:=by simpa using h36
   obtain ⟨h36a,h36b⟩:=h36'
   obtain ⟨r,hor,hrm,hrg,hrz⟩:=hS.resolve_left om_
   subst hor
   rw [Int.toNat_natCast] at h36b
   refine G.aA [(8,3)] rfl (fun R hR=>?_)
   refine D.ps 3 ?_
   refine D.ah (.head _) ?_
   refine D.ae ?_
   refine D.aq _ ?_
   refine D.dq (r+1) p.m cL rfl rfl rfl rfl rfl rfl rfl rfl rfl rfl rfl rfl (fun _=>⟨.inr ⟨_,rfl⟩,.inl ⟨rfl,rfl⟩,.inl ⟨rfl,rfl⟩,by omega,hcL,Nat.le_refl _⟩) rfl rfl ?_
   refine D.ae ?_
   refine D.call (idx2_fn hlb ok (Mem.get hb2 mup) hkt hrm hcL) rfl (.inr (by decide)) rfl rfl rfl rfl rfl rfl (show List.Perm _ (((tabL b p.n t (.slice AB p.m cB) (.slice AL p.m cL) wO wW wF).map Lent.ent)++[]) from List.Perm.of_eq (by rw [List.append_nil,aI 0 0] <;> rfl)) fl_ (fun v45 C45 L45 hle45 hq45=>?_)
   refine D.q8 1 0 2 3 4 5 10 11 12 hR ?_;clear hR R
   obtain ⟨⟨o2,rfl,ho2⟩,rfl⟩:=hq45
   refine G.aM (L':=[.obj b (.cells ⟨[.int .i64 p.n,(.slice AB p.m cB),(.slice AL p.m cL),wO,strV (qtx t.worth.c),wW]⟩ 143 (0,0)),.arr (.slice AB p.m cB) 3 1 t.basic.length ((t.basic).map encN).flatten,.arr (.slice AL p.m cL) 140 2 t.basic.length ((bE t wF).map encL).flatten,.arr wO 3 1 t.others.length ((t.others).map encN).flatten,.arr wW 27 1 t.others.length ((t.worth.f).map encR).flatten]++(List.range t.basic.length).map (stE t wF 0 0 0)) (by rw [List.append_nil,aI 0 0]) ?_
   refine G.z9 2 0 2 3 4 5 10 11 12 47 ?_
   refine G.cd (fun h47=>?_) fun h47=>?_
   ·have ho3:o2<0:=of_decide_eq_true h47
    have hz:∀ i,i<t.basic.length->p.n<=t.bas i->(t.line i).g k=0:=fun i hi hb=>by
     rcases Nat.lt_trichotomy i r with h1 | h1 | h1
     ·exact hrz i h1 hb
     ·rw [h1] at hb;exact absurd hb h36b
     ·have:=firstR_none ho2 ho3 (i-(r+1)) om_
      rw [show r+1+(i-(r+1))=i by omega] at this
      exact Decidable.not_not.1 this
    refine G.z7 1 0 2 3 4 10 11 12 ?_
    refine G.rp 5 fun R hR=>?_
    refine D.givesQ (.head _) (fun _=>slackO_fn _ b p.n k _) rfl rfl rfl rfl rfl rfl rfl rfl rfl ?_
    refine D.ae ?_
    refine D.au ?_
    refine D.e7 0 2 4 10 11 12 59 hR ?_;clear hR R
    refine G.cd (fun h59=>?_) fun h59=>?_
    ·exact absurd h59 (by simp)
    ·refine G.rg fun R hR=>?_
     refine D.aq _ ?_
     refine D.q4 1 0 10 11 12 hR ?_;clear hR R
     refine G.ap (m':=p.n-(k+1)) om_ mup (h_4 0 10 11 12) ⟨k+1,t,wF,⟨by omega,hI,Lp.rel_none hR hz⟩,rfl,rfl,rfl⟩
   ·have ho3:¬ o2<0:=of_decide_eq_false h47
    obtain ⟨r2,rfl,hr2,hr2g,hr2z⟩:=firstR_some ho2 ho3
    have hS2:Srch p t k ((r+(1+r2):Nat):Int):=.inr ⟨r+(1+r2),rfl,by omega,by rw [show r+(1+r2)=r+1+r2 by omega];exact hr2g,fun i hi hb=>by
     rcases Nat.lt_trichotomy i r with h1 | h1 | h1
     ·exact hrz i h1 hb
     ·rw [h1] at hb;exact absurd hb h36b
     ·have:=hr2z (i-(r+1)) om_
      rw [show r+1+(i-(r+1))=i by omega] at this
      exact Decidable.not_not.1 this⟩
    refine G.rp 2 fun R hR=>?_
    refine D.aq _ ?_
    refine D.aq _ ?_
    refine D.q7 1 0 2 3 4 10 11 12 hR ?_;clear hR R
    refine G.ap (m':=t.basic.length-((r+(1+r2):Nat):Int).toNat) om_ mup (h_7 0 2 3 4 10 11 12) ⟨((r+(1+r2):Nat):Int),hS2,rfl,rfl,rfl⟩
  ·have h36':¬ (o ≥ 0/\¬ p.n<=t.bas o.toNat):=by simpa using h36
   refine G.rp 5 fun R hR=>?_
   refine D.givesQ (.head _) (fun _=>slackO_fn _ b p.n k _) rfl rfl rfl rfl rfl rfl rfl rfl rfl ?_
   refine D.ae ?_
   refine D.au ?_
   refine D.e7 0 2 4 10 11 12 59 hR ?_;clear hR R
   refine G.cd (fun h59b=>?_) fun h59b=>?_
   ·have h59':0<=o:=by
     have h59':(decide (0<=o) && !decide (p.n<=k))=true:=h59b
     simp only [Bool.and_eq_true,decide_eq_true_eq] at h59'
     exact h59'.1
    obtain ⟨r,hor,hrm,hrg,hrz⟩:=hS.resolve_left om_
    subst hor
    rw [Int.toNat_natCast] at h36'
    have hrF:p.n<=t.bas r:=by
     apply Decidable.byContradiction
     intro h
     exact h36' ⟨by omega,h⟩
    refine G.aA [(3,3)] rfl (fun R hR=>?_)
    refine D.ps 2 ?_
    refine D.ac (bkT hb2 1) ?_
    refine D.call (pivot_fn _ (hT.mono mup) b p.n r k (p.n+p.m) t (.slice AB p.m cB) (.slice AL p.m cL) wO wW wF ok hbl hol hrm hkt hrg hq (worthQ_of hI hl)) rfl (.inr (by decide)) rfl rfl rfl rfl rfl rfl (show List.Perm _ (((tabL b p.n t (.slice AB p.m cB) (.slice AL p.m cL) wO wW wF).map Lent.ent)++[]) from List.Perm.of_eq (by rw [List.append_nil,aI 0 0] <;> rfl)) fl_ (fun v63 C63 L63 hle63 hq63=>?_)
    refine D.e4 0 10 11 12 hR ?_;clear hR R
    refine G.rg fun R hR=>?_
    refine D.aq _ ?_
    refine D.q4 1 0 10 11 12 hR ?_;clear hR R
    obtain ⟨-,wF2,rfl⟩:=hq63
    refine G.aM (L':=[.obj b (.cells ⟨[.int .i64 p.n,(.slice AB p.m cB),(.slice AL p.m cL),wO,strV (qtx (t.pivot r k).worth.c),wW]⟩ 143 (0,0)),.arr (.slice AB p.m cB) 3 1 (t.pivot r k).basic.length (((t.pivot r k).basic).map encN).flatten,.arr (.slice AL p.m cL) 140 2 (t.pivot r k).basic.length ((bE (t.pivot r k) wF2).map encL).flatten,.arr wO 3 1 (t.pivot r k).others.length (((t.pivot r k).others).map encN).flatten,.arr wW 27 1 (t.pivot r k).others.length (((t.pivot r k).worth.f).map encR).flatten]++(List.range (t.pivot r k).basic.length).map (stE (t.pivot r k) wF2 0 0 0)) (by rw [List.append_nil,aI 0 0]) ?_
    refine G.ap (m':=p.n-(k+1)) om_ mup (h_4 0 10 11 12) ⟨k+1,t.pivot r k,wF2,⟨by omega,hI.pivot hrm hkt hrg,Lp.rel_next ok hR hrm hkt hrF⟩,rfl,rfl,rfl⟩
   ·have h59':¬ 0<=o:=by
     have h59':(decide (0<=o) && !decide (p.n<=k))=false:=h59b
     have hkn:¬ p.n<=k:=by omega
     simpa [hkn] using h59'
    have hz:∀ i,i<t.basic.length->p.n<=t.bas i->(t.line i).g k=0:=by
     rcases hS with ⟨_,h2⟩ | ⟨r,h1,_⟩
     ·exact h2
     ·omega
    refine G.rg fun R hR=>?_
    refine D.aq _ ?_
    refine D.q4 1 0 10 11 12 hR ?_;clear hR R
    refine G.ap (m':=p.n-(k+1)) om_ mup (h_4 0 10 11 12) ⟨k+1,t,wF,⟨by omega,hI,Lp.rel_none hR hz⟩,rfl,rfl,rfl⟩
 ·have hkn:k=p.n:=by
   have:=of_decide_eq_false h13
   omega
  refine G.end0 rfl ?_
  exact ⟨rfl,t,wF,hI,by rw [hkn] at hR;exact hR,by rw [aI 0 0]⟩

theorem clR_fn (C:Mem)(v:Value)(l:List Rat)(hv:Sl C 1 v (l.map encR))(hl:l.length<=1000000):Jog.Fn cx.P 107 [v] C [] fun u _C' L'=>∃ A n c,u=.slice A n c/\L'=[.arr (.slice A n c) 27 1 l.length (l.map encR).flatten]:=by
 obtain ⟨A0,c0,rfl,hc1,hc2,hc3,hc4⟩:=id hv
 have hmx:maxLen<=9223372036854775807:=by simp [maxLen]
 simp only [List.length_map] at hv hc1 ⊢
 refine Fn.it kr_ Tryz.func107 8 fun w0=>?_
 refine G.z1 1 0 ?_
 refine G.rp 1 fun R hR=>?_
 refine D.nilEq rfl rfl rfl rfl rfl rfl rfl rfl rfl ?_
 refine D.e2 0 4 hR ?_
 refine G.cd (fun h4=>?_) fun h4=>?_
 ·have hA:A0=none:=by
   cases A0 with
   | none=>rfl
   | some a=>cases h4
  have hnil:l=[]:=by
   cases l with
   | nil=>rfl
   | cons q r =>
    obtain ⟨a,ha,_⟩:=hc4 0 (encR q) rfl
    rw [hA] at ha
    cases ha
  refine G.z1 1 2 ?_
  refine G.nilArr 27 1 ?_
  refine G.ay (G.dC rfl rfl ?_)
  exact ⟨none,0,0,rfl,by rw [hnil];rfl⟩
 ·refine G.rg fun R hR=>?_
  refine D.bw [] rfl rfl rfl rfl rfl rfl rfl rfl rfl rfl rfl rfl fl_ (fun b5=>?_)
  refine D.ae ?_
  refine D.ai (j:=0) rfl rfl rfl rfl rfl rfl rfl rfl rfl rfl rfl (hv.mono mup) (by simp [encR,oneB,strV]) (by simp only [List.length_map,List.length_nil,maxLen];omega) (by simp only [List.length_map,List.length_nil];omega) fl_ (fun A7 n7 c7=>?_)
  refine D.q1 1 2 hR ?_
  refine G.aM (L':=[.arr (.slice A7 n7 c7) 27 1 l.length (l.map encR).flatten]) (by simp) ?_
  refine G.ay (G.dC rfl rfl ?_)
  exact ⟨A7,n7,c7,rfl,rfl⟩
def cm (n:Nat)(rs:List (List Rat × Rat)):Lp.Sys:=⟨n,rs.length,fun r j=>(rs.getD r ([],0)).1.getD j 0,fun r=>(rs.getD r ([],0)).2⟩
abbrev sO (A:Option Addr)(n c:Nat):Value:=.slice A n c
abbrev sW (A:Option Addr)(n c:Nat):Value:=.slice A n c
abbrev sF (A:Option Addr)(n c:Nat):Value:=.slice A n c
def lbF (n i:Nat):List Nat:=(List.range i).map fun q=>n+q
def lvF (rs:List (List Rat × Rat))(wF:Nat->Value)(i:Nat):List (Rat × Value):=(List.range i).map fun q=>((rs.getD q ([],0)).2,wF q)
def opE (n:Nat)(rs:List (List Rat × Rat))(wF:Nat->Value)(q:Nat):Ent:=.arr (wF q) 27 1 n (((List.range n).map fun j=>-(rs.getD q ([],0)).1.getD j 0).map encR).flatten
def updV (wF:Nat->Value)(i:Nat)(w:Value):Nat->Value:=fun q=>if q=i then w else wF q
theorem updV_at {wF:Nat->Value}{i:Nat}{w:Value}:updV wF i w i=w:=if_pos rfl
theorem updV_ne {wF:Nat->Value}{i q:Nat}{w:Value}(h:q≠i):updV wF i w q=wF q:=if_neg h
theorem lbF_next {n i:Nat}:lbF n (i+1)=lbF n i++[n+i]:=by unfold lbF;rw [List.range_succ,List.map_append];rfl
theorem lvF_next {rs:List (List Rat × Rat)}{wF:Nat->Value}{i:Nat}{r:List Rat × Rat}{w:Value}(h:rs.getD i ([],0)=r):lvF rs (updV wF i w) (i+1)=lvF rs wF i++[(r.2,w)]:=by
 unfold lvF
 rw [List.range_succ,List.map_append,List.map_singleton,h,updV_at]
 congr 1
 refine List.map_congr_left fun q hq=>?_
 rw [updV_ne (by have:=List.mem_range.1 hq;omega)]
theorem opE_next {n:Nat}{rs:List (List Rat × Rat)}{wF:Nat->Value}{i:Nat}{r:List Rat × Rat}{w:Value}(h:rs.getD i ([],0)=r):(List.range (i+1)).map (opE n rs (updV wF i w))=(List.range i).map (opE n rs wF)++[.arr w 27 1 n (((List.range n).map fun j=>-r.1.getD j 0).map encR).flatten]:=by
 rw [List.range_succ,List.map_append,List.map_singleton]
 congr 1
 ·refine List.map_congr_left fun q hq=>?_
  unfold opE
  rw [updV_ne (by have:=List.mem_range.1 hq;omega)]
 ·unfold opE
  rw [h,updV_at]
theorem range_getD {l:List Rat}{n:Nat}(h:l.length=n):(List.range n).map (fun j=>l.getD j 0)=l:=by
 refine List.ext_getElem? fun j=>?_
 rw [List.getElem?_map]
 by_cases hj:j<n
 ·rw [List.getElem?_range hj,List.getElem?_eq_getElem om_]
  show some (l.getD j 0)=_
  rw [List.getD_eq_getElem?_getD,List.getElem?_eq_getElem om_];rfl
 ·rw [List.getElem?_eq_none (show (List.range n).length<=j by simp;omega),List.getElem?_eq_none om_];rfl
theorem open_ents {b n:Nat}{rs:List (List Rat × Rat)}{ob:List Rat}{wB wL wO wW:Value}{wF:Nat->Value}(hol:ob.length=n) :
  (tabL b n (Lp.openT (cm n rs) fun j=>ob.getD j 0) wB wL wO wW wF).map Lent.ent=[.obj b (.cells ⟨[.int .i64 n,wB,wL,wO,strV [48],wW]⟩ 143 (0,0)),.arr wB 3 1 rs.length ((lbF n rs.length).map encN).flatten,.arr wL 140 2 rs.length ((lvF rs wF rs.length).map encL).flatten,.arr wO 3 1 n ((List.range n).map encN).flatten,.arr wW 27 1 n (ob.map encR).flatten]++(List.range rs.length).map (opE n rs wF):=by
 have hb:(Lp.openT (cm n rs) fun j=>ob.getD j 0).basic.length=rs.length:=Lp.openT_lb
 have hlo:(Lp.openT (cm n rs) fun j=>ob.getD j 0).others.length=n:=Lp.openT_lo
 have h1:bE (Lp.openT (cm n rs) fun j=>ob.getD j 0) wF=lvF rs wF rs.length:=by
  unfold bE lvF
  rw [hb]
  refine List.map_congr_left fun q hq=>?_
  rw [Lp.openT_line (p:=cm n rs) (List.mem_range.1 hq)];rfl
 have h2:(List.range rs.length).map (Lent.ent ∘ rowL (Lp.openT (cm n rs) fun j=>ob.getD j 0) wF)=(List.range rs.length).map (opE n rs wF):=by
  refine List.map_congr_left fun q hq=>?_
  show Ent.arr _ _ 1 _ _=_
  rw [Lp.openT_line (p:=cm n rs) (List.mem_range.1 hq),hlo];rfl
 have h3:(Lp.openT (cm n rs) fun j=>ob.getD j 0).worth.f=ob:=range_getD hol
 have h4:(Lp.openT (cm n rs) fun j=>ob.getD j 0).worth.c=0:=rfl
 unfold tabL
 rw [h1,h3,h4,hb,hlo,qtx0]
 simp only [List.map_cons,List.map_map,h2]
 rfl
def opX0 (n:Nat)(rs:List (List Rat × Rat))(ob:List Rat)(b17:Nat)(Aw:Option Addr)(nw cw:Nat)(A1:Option Addr)(n1 c1:Nat)(i:Nat)(wF:Nat->Value)(r:List Rat × Rat)(A4:Option Addr)(n4 c4:Nat)(A71:Option Addr)(n71 c71:Nat)(A78:Option Addr)(n78 c78:Nat):List Ent:=[.arr (sA A71 n71 c71) 3 1 (i+1) (((lbF n i).map encN).flatten++[[.int .i64 ((n:Int)+(i:Int))]].flatten),.arr (sB A78 n78 c78) 140 2 (i+1) (((lvF rs wF i).map encL).flatten++[[strV (qtx r.2),.slice A4 n4 c4]].flatten),.obj b17 (.cells ⟨[.int .i64 n,.slice A71 n71 c71,.slice A78 n78 c78,.slice A1 n1 c1,strV [48],.slice Aw nw cw]⟩ 143 (0,0)),.arr (sO A1 n1 c1) 3 1 n (((List.range n)).map encN).flatten,.arr (sW Aw nw cw) 27 1 n (ob.map encR).flatten,.arr (sF A4 n4 c4) 27 1 n (((List.range n).map fun q=>-r.1.getD q 0).map encR).flatten]++(List.range i).map (opE n rs wF)
def opX1 (n:Nat)(rs:List (List Rat × Rat))(ob:List Rat)(b17:Nat)(Aw:Option Addr)(nw cw:Nat)(A1:Option Addr)(n1 c1:Nat)(i:Nat)(wF:Nat->Value)(A4:Option Addr)(n4 c4:Nat)(A71:Option Addr)(n71 c71:Nat)(A78:Option Addr)(n78 c78:Nat):List Ent:=[.arr (sA A71 n71 c71) 3 1 (i+1) ((lbF n (i+1)).map encN).flatten,.arr (sB A78 n78 c78) 140 2 (i+1) ((lvF rs (updV wF i (.slice A4 n4 c4)) (i+1)).map encL).flatten,.obj b17 (.cells ⟨[.int .i64 n,.slice A71 n71 c71,.slice A78 n78 c78,.slice A1 n1 c1,strV [48],.slice Aw nw cw]⟩ 143 (0,0)),.arr (sO A1 n1 c1) 3 1 n (((List.range n)).map encN).flatten,.arr (sW Aw nw cw) 27 1 n (ob.map encR).flatten]++(List.range (i+1)).map (opE n rs (updV wF i (.slice A4 n4 c4)))
theorem aV {n:Nat}{rs:List (List Rat × Rat)}{ob:List Rat}{b17:Nat}{Aw:Option Addr}{nw cw:Nat}{A1:Option Addr}{n1 c1:Nat}{i:Nat}{wF:Nat->Value}{r:List Rat × Rat}{A4:Option Addr}{n4 c4:Nat}{A71:Option Addr}{n71 c71:Nat}{A78:Option Addr}{n78 c78:Nat}(hr:rs.getD i ([],0)=r):(opX0 n rs ob b17 Aw nw cw A1 n1 c1 i wF r A4 n4 c4 A71 n71 c71 A78 n78 c78).Perm (opX1 n rs ob b17 Aw nw cw A1 n1 c1 i wF A4 n4 c4 A71 n71 c71 A78 n78 c78):=by
 unfold opX0 opX1
 rw [lbF_next,lvF_next hr,opE_next hr]
 simp only [List.map_append,List.flatten_append]
 exact List.Perm.append_left [_,_,_,_,_] (List.perm_append_singleton _ _).symm
theorem popen_fn (C:Mem)(_hT:Tabs C)(n:Nat)(rv ov:Value)(rs:List (List Rat × Rat))(ob:List Rat)(hr:RowsT C rv (rs.map bd))(ho:Sl C 1 ov (ob.map encR))(hq:RowsQ n rs)(hn:n<=1000)(hol:ob.length=n) :
  Jog.Fn cx.P 53 [.agg ⟨[.int .i64 n,rv,ov]⟩] C [] fun u _C' L'=>∃ b wB wL wO wW wF,u=.pointer (some ⟨b,0,none⟩)/\L'=(tabL b n (Lp.openT (cm n rs) fun j=>ob.getD j 0) wB wL wO wW wF).map Lent.ent:=by
 obtain ⟨vs,hvl,hvr,hvs⟩:=hr
 obtain ⟨Ar,cr,rfl,hc1,hc2,_⟩:=id hvs
 have hm:=hq.m
 have hmx:maxLen<=9223372036854775807:=by simp [maxLen]
 rw [eA hvl] at hvs hc1 ⊢
 simp only [List.length_map] at hvs hc1 hvl ⊢
 refine Fn.it kr_ Tryz.func53 85 fun w0=>?_
 refine G.rg fun R hR=>?_
 refine D.aX (fun b1=>?_)
 refine D.q1 1 1 hR ?_;clear hR R
 refine G.freeze 0 rfl (fun C1 hle1 hb1=>?_)
 refine G.aH [0,1,2,3,4,5,6,7,8] [(4,3),(1,0)] rfl kr_ (fun R hB hR=>?_)
 refine D.ae ?_
 refine D.fm (fun _=>((PtrTo.blockT hb1 _ 1).mono hB)) rfl rfl rfl rfl rfl rfl rfl rfl rfl ?_
 refine D.ae ?_
 refine D.ac (bkT hb1 1) ?_
 refine D.call (clR_fn _ ov ob (ho.mono mup) om_) rfl (.inr (by decide)) rfl rfl rfl rfl rfl rfl (List.Perm.refl _) fl_ (fun v14 C14 L14 hle14 hq14=>?_)
 obtain ⟨Aw,nw,cw,rfl,rfl⟩:=hq14
 refine D.build [strV [48],.slice Aw nw cw] rfl rfl rfl rfl rfl rfl rfl rfl ?_
 refine D.build [.int .i64 n,.slice none 0 0,.slice none 0 0,.slice none 0 0,strV [48],.slice Aw nw cw] rfl rfl rfl rfl rfl rfl rfl rfl ?_
 refine D.aX (fun b17=>?_)
 refine D.ae ?_
 refine D.e2 1 3 hR ?_;clear hR hB R
 refine G.rp 1 fun R hR=>?_
 refine D.ac (bkT hb1 1) ?_
 refine D.q4 1 1 3 19 20 hR ?_;clear hR R
 refine G.nilArr 3 1 ?_
 refine G.aM (L':=[.arr (sO none 0 0) 3 1 0 (((List.range 0)).map encN).flatten,.obj b17 (.cells ⟨[.int .i64 n,.slice none 0 0,.slice none 0 0,.slice none 0 0,strV [48],.slice Aw nw cw]⟩ 143 (0,0)),.arr (sW Aw nw cw) 27 1 n (ob.map encR).flatten]) (by rw [hol];rfl) ?_
 refine G.loop (fun fr C' L' μ=>∃ (i:Nat)(A1:Option Addr)(n1 c1:Nat),(i<=n)/\fr=[(1,[],.pointer (some ⟨b1,0,none⟩)),(3,[],.pointer (some ⟨b17,0,none⟩)),(19,[],.int .i64 n),(20,[],.int .i64 i)]/\L'=[.arr (sO A1 n1 c1) 3 1 i (((List.range i)).map encN).flatten,.obj b17 (.cells ⟨[.int .i64 n,.slice none 0 0,.slice none 0 0,.slice A1 n1 c1,strV [48],.slice Aw nw cw]⟩ 143 (0,0)),.arr (sW Aw nw cw) 27 1 n (ob.map encR).flatten]/\μ=n-i) (h_4 1 3 19 20) ⟨0,none,0,0,Nat.zero_le _,rfl,rfl,rfl⟩ (fun fr C0' L0' m hle0 hI=>?_)
 obtain ⟨i,A1,n1,c1,hi,rfl,rfl,rfl⟩:=hI
 refine G.z5 1 1 3 19 20 21 ?_
 refine G.cd (fun h21=>?_) fun h21=>?_
 ·have hil:i<n:=by
   have:=of_decide_eq_true h21
   omega
  refine G.z5 2 1 3 4 19 20 ?_
  refine G.rp 4 fun R hR=>?_
  refine D.ah (.tail _ (.head _)) ?_
  refine D.ae ?_
  refine D.af [[.int .i64 i]] (fun p29 C29 hle29 hs29=>?_)
  refine D.ai (j:=0) rfl rfl rfl rfl rfl rfl rfl rfl rfl rfl rfl hs29 rfl (by simp only [List.length_singleton,maxLen];omega) (by show (i+1)*8<=_;omega) fl_ (fun A30 n30 c30=>?_)
  refine D.ps 2 ?_
  refine D.ag (j:=1) ?_
  refine D.e4 1 3 19 20 hR ?_;clear hR R
  refine G.rg fun R hR=>?_
  refine D.aq _ ?_
  refine D.q4 1 1 3 19 20 hR ?_;clear hR R
  refine G.perm (L':=[.arr (sO A30 n30 c30) 3 1 (i+1) (((List.range (i+1))).map encN).flatten,.obj b17 (.cells ⟨[.int .i64 n,.slice none 0 0,.slice none 0 0,.slice A30 n30 c30,strV [48],.slice Aw nw cw]⟩ 143 (0,0)),.arr (sW Aw nw cw) 27 1 n (ob.map encR).flatten]) (by rw [List.range_succ,List.map_append,List.flatten_append];exact List.Perm.swap _ _ _) ?_
  refine G.ap (m':=n-(i+1)) om_ mup (h_4 1 3 19 20) ⟨i+1,A30,n30,c30,om_,rfl,rfl,rfl⟩
 ·have hin:i=n:=by
   have:=of_decide_eq_false h21
   omega
  rw [hin]
  refine G.rp 1 fun R hR=>?_
  refine D.ac (bkT hb1 1) ?_
  refine D.q5 2 1 3 35 36 37 hR ?_;clear hR R
  refine G.nilArr 140 2 ?_
  refine G.nilArr 3 1 ?_
  refine G.perm (L':=[.arr (sA none 0 0) 3 1 0 ((lbF n 0).map encN).flatten,.arr (sB none 0 0) 140 2 0 ((lvF rs (fun _=>.slice none 0 0) 0).map encL).flatten,.obj b17 (.cells ⟨[.int .i64 n,.slice none 0 0,.slice none 0 0,.slice A1 n1 c1,strV [48],.slice Aw nw cw]⟩ 143 (0,0)),.arr (sO A1 n1 c1) 3 1 n (((List.range n)).map encN).flatten,.arr (sW Aw nw cw) 27 1 n (ob.map encR).flatten]++(List.range 0).map (opE n rs (fun _=>.slice none 0 0))) (by
   show List.Perm ([_,_,_,_,_]++[]) _
   (exact pkL [0,0,1,0,0] rfl)) ?_
  refine G.loop (fun fr C' L' μ=>∃ (i:Nat)(A2:Option Addr)(n2 c2:Nat)(A3:Option Addr)(n3 c3:Nat)(wF:Nat->Value),(i<=rs.length)/\fr=[(1,[],.pointer (some ⟨b1,0,none⟩)),(3,[],.pointer (some ⟨b17,0,none⟩)),(35,[],.slice Ar rs.length cr),(36,[],.int .i64 rs.length),(37,[],.int .i64 i)]/\L'=[.arr (sA A2 n2 c2) 3 1 i ((lbF n i).map encN).flatten,.arr (sB A3 n3 c3) 140 2 i ((lvF rs wF i).map encL).flatten,.obj b17 (.cells ⟨[.int .i64 n,.slice A2 n2 c2,.slice A3 n3 c3,.slice A1 n1 c1,strV [48],.slice Aw nw cw]⟩ 143 (0,0)),.arr (sO A1 n1 c1) 3 1 n (((List.range n)).map encN).flatten,.arr (sW Aw nw cw) 27 1 n (ob.map encR).flatten]++(List.range i).map (opE n rs wF)/\μ=rs.length-i) (h_5 1 3 35 36 37) ⟨0,none,0,0,none,0,0,fun _=>.slice none 0 0,Nat.zero_le _,rfl,rfl,rfl⟩ (fun fr C1' L1' m hle1 hI=>?_)
  obtain ⟨i,A2,n2,c2,A3,n3,c3,wF,hi,rfl,rfl,rfl⟩:=hI
  refine G.z6 1 1 3 35 36 37 38 ?_
  refine G.cd (fun h38=>?_) fun h38=>?_
  ·have hil:i<rs.length:=by
    have:=of_decide_eq_true h38
    omega
   obtain ⟨r,hri⟩:∃ r,rs[i]?=some r:=⟨rs[i],List.getElem?_eq_getElem hil⟩
   have hgr:rs.getD i ([],0)=r:=by rw [List.getD_eq_getElem?_getD,hri];rfl
   have hrl:r.1.length=n:=hq.l r (List.mem_of_getElem? hri)
   obtain ⟨hrq,hrb⟩:=hq.q r (List.mem_of_getElem? hri)
   obtain ⟨w,hw⟩:∃ w,vs[i]?=some w:=⟨vs[i]'om_,List.getElem?_eq_getElem om_⟩
   have hrt:(rs.map bd)[i]?=some (bd r):=by rw [List.getElem?_map,hri];rfl
   have hx:=hvr i w (bd r) hw hrt
   have hx':Sl C 1 w (r.1.map encR):=by rw [bS];exact hx
   obtain ⟨Ax,cx2,rfl,hxc1,hxc2,_⟩:=id hx'
   simp only [List.length_map] at hx' hxc1 hw
   refine G.rp 1 fun R hR=>?_
   refine D.ak (hvs.mono mup) rfl rfl rfl rfl rfl rfl rfl rfl rfl rfl om_ (zipT_at hw hrt) fl_ (fun p40 hp40=>?_)
   refine D.ac hp40 ?_
   refine D.aC (fun b6=>?_)
   refine D.ae ?_
   refine D.ag (j:=0) ?_
   refine D.e7 1 3 5 6 35 36 37 hR ?_;clear hR R
   refine G.freeze 0 rfl (fun C6 hle6 hb6=>?_)
   refine G.rp 1 fun R hR=>?_
   refine D.ac (bkT hb6 1) ?_
   refine D.build [strV (qtx r.2),.slice none 0 0] rfl rfl rfl rfl rfl rfl rfl rfl ?_
   refine D.aC (fun b7=>?_)
   refine D.ag (j:=0) ?_
   refine D.e8 1 3 5 6 7 35 36 37 hR ?_;clear hR R
   refine G.rp 1 fun R hR=>?_
   refine D.ac (bkT hb6 1) ?_
   refine D.q10 2 1 3 5 7 35 36 37 46 47 48 hR ?_;clear hR R
   refine G.nilArr 27 1 ?_
   refine G.aM (L':=[.arr (sF none 0 0) 27 1 0 (((List.range 0).map fun q=>-r.1.getD q 0).map encR).flatten,.obj b7 (.cells ⟨[strV (qtx r.2),.slice none 0 0]⟩ 140 (0,0)),.arr (sA A2 n2 c2) 3 1 i ((lbF n i).map encN).flatten,.arr (sB A3 n3 c3) 140 2 i ((lvF rs wF i).map encL).flatten,.obj b17 (.cells ⟨[.int .i64 n,.slice A2 n2 c2,.slice A3 n3 c3,.slice A1 n1 c1,strV [48],.slice Aw nw cw]⟩ 143 (0,0)),.arr (sO A1 n1 c1) 3 1 n (((List.range n)).map encN).flatten,.arr (sW Aw nw cw) 27 1 n (ob.map encR).flatten]++(List.range i).map (opE n rs wF)) rfl ?_
   refine G.loop (fun fr C' L' μ=>∃ (j:Nat)(A4:Option Addr)(n4 c4:Nat),(j<=n)/\fr=[(1,[],.pointer (some ⟨b1,0,none⟩)),(3,[],.pointer (some ⟨b17,0,none⟩)),(5,[],.int .i64 i),(7,[],.pointer (some ⟨b7,0,none⟩)),(35,[],.slice Ar rs.length cr),(36,[],.int .i64 rs.length),(37,[],.int .i64 i),(46,[],.slice Ax r.1.length cx2),(47,[],.int .i64 r.1.length),(48,[],.int .i64 j)]/\L'=[.arr (sF A4 n4 c4) 27 1 j (((List.range j).map fun q=>-r.1.getD q 0).map encR).flatten,.obj b7 (.cells ⟨[strV (qtx r.2),.slice A4 n4 c4]⟩ 140 (0,0)),.arr (sA A2 n2 c2) 3 1 i ((lbF n i).map encN).flatten,.arr (sB A3 n3 c3) 140 2 i ((lvF rs wF i).map encL).flatten,.obj b17 (.cells ⟨[.int .i64 n,.slice A2 n2 c2,.slice A3 n3 c3,.slice A1 n1 c1,strV [48],.slice Aw nw cw]⟩ 143 (0,0)),.arr (sO A1 n1 c1) 3 1 n (((List.range n)).map encN).flatten,.arr (sW Aw nw cw) 27 1 n (ob.map encR).flatten]++(List.range i).map (opE n rs wF)/\μ=n-j) (h_10 1 3 5 7 35 36 37 46 47 48) ⟨0,none,0,0,Nat.zero_le _,rfl,rfl,rfl⟩ (fun fr C2' L2' m hle2 hI=>?_)
   obtain ⟨j,A4,n4,c4,hj,rfl,rfl,rfl⟩:=hI
   refine G.z11 1 1 3 5 7 35 36 37 46 47 48 49 ?_
   refine G.cd (fun h49=>?_) fun h49=>?_
   ·have hjl:j<n:=by
     have:=of_decide_eq_true h49
     omega
    have hqj:QB 23 (r.1.getD j 0):=getD_q hrq
    refine G.rg fun R hR=>?_
    refine D.ak (hx'.mono mup) rfl rfl rfl rfl rfl rfl rfl rfl rfl rfl om_ (ct om_) fl_ (fun p50 hp50=>?_)
    refine D.ac hp50 ?_
    refine D.q11 1 1 3 5 7 9 35 36 37 46 47 48 hR ?_;clear hR R
    refine G.aH [0,1,2,3,4,5,6,7] [(3,1)] rfl kr_ (fun R hB hR=>?_)
    refine D.ae ?_
    refine D.ah (.tail _ (.head _)) ?_
    refine D.ae ?_
    refine D.a6 (fun _=>(rneg_fn _ (r.1.getD j 0) (Nat.le_trans (aZ hqj (by decide)) (by decide)))) rfl rfl rfl rfl rfl rfl rfl rfl rfl ?_
    refine D.af [[strV (qtx (-(r.1.getD j 0)))]] (fun p56 C56 hle56 hs56=>?_)
    refine D.ai (j:=0) rfl rfl rfl rfl rfl rfl rfl rfl rfl rfl rfl hs56 rfl (by simp only [List.length_singleton,maxLen];omega) (by show (j+1)*16<=_;omega) fl_ (fun A57 n57 c57=>?_)
    refine D.ae ?_
    refine D.ag (j:=1) ?_
    refine D.e10 1 3 5 7 35 36 37 46 47 48 hR ?_;clear hR hB R
    refine G.rg fun R hR=>?_
    refine D.aq _ ?_
    refine D.q10 1 1 3 5 7 35 36 37 46 47 48 hR ?_;clear hR R
    refine G.perm (L':=[.arr (sF A57 n57 c57) 27 1 (j+1) (((List.range (j+1)).map fun q=>-r.1.getD q 0).map encR).flatten,.obj b7 (.cells ⟨[strV (qtx r.2),.slice A57 n57 c57]⟩ 140 (0,0)),.arr (sA A2 n2 c2) 3 1 i ((lbF n i).map encN).flatten,.arr (sB A3 n3 c3) 140 2 i ((lvF rs wF i).map encL).flatten,.obj b17 (.cells ⟨[.int .i64 n,.slice A2 n2 c2,.slice A3 n3 c3,.slice A1 n1 c1,strV [48],.slice Aw nw cw]⟩ 143 (0,0)),.arr (sO A1 n1 c1) 3 1 n (((List.range n)).map encN).flatten,.arr (sW Aw nw cw) 27 1 n (ob.map encR).flatten]++(List.range i).map (opE n rs wF)) (by rw [List.range_succ,List.map_append,List.map_append,List.flatten_append];exact List.Perm.swap _ _ _) ?_
    refine G.ap (m':=n-(j+1)) om_ mup (h_10 1 3 5 7 35 36 37 46 47 48) ⟨j+1,A57,n57,c57,om_,rfl,rfl,rfl⟩
   ·have hjn:j=n:=by
     have:=of_decide_eq_false h49
     omega
    rw [hjn]
    refine G.freeze 1 rfl (fun C7 hle7 hb7=>?_)
    refine G.aM (L':=[.arr (sF A4 n4 c4) 27 1 n (((List.range n).map fun q=>-r.1.getD q 0).map encR).flatten,.arr (sA A2 n2 c2) 3 1 i ((lbF n i).map encN).flatten,.arr (sB A3 n3 c3) 140 2 i ((lvF rs wF i).map encL).flatten,.obj b17 (.cells ⟨[.int .i64 n,.slice A2 n2 c2,.slice A3 n3 c3,.slice A1 n1 c1,strV [48],.slice Aw nw cw]⟩ 143 (0,0)),.arr (sO A1 n1 c1) 3 1 n (((List.range n)).map encN).flatten,.arr (sW Aw nw cw) 27 1 n (ob.map encR).flatten]++(List.range i).map (opE n rs wF)) rfl ?_
    refine G.bW (fun fr C' L' μ=>∃ (A7:Option Addr)(n7 c7:Nat)(A8:Option Addr)(n8 c8:Nat),(True)/\fr=[(1,[],.pointer (some ⟨b1,0,none⟩)),(3,[],.pointer (some ⟨b17,0,none⟩)),(35,[],.slice Ar rs.length cr),(36,[],.int .i64 rs.length),(37,[],.int .i64 i)]/\L'=[.arr (sA A7 n7 c7) 3 1 (i+1) ((lbF n (i+1)).map encN).flatten,.arr (sB A8 n8 c8) 140 2 (i+1) ((lvF rs (updV wF i (.slice A4 n4 c4)) (i+1)).map encL).flatten,.obj b17 (.cells ⟨[.int .i64 n,.slice A7 n7 c7,.slice A8 n8 c8,.slice A1 n1 c1,strV [48],.slice Aw nw cw]⟩ 143 (0,0)),.arr (sO A1 n1 c1) 3 1 n (((List.range n)).map encN).flatten,.arr (sW Aw nw cw) 27 1 n (ob.map encR).flatten]++(List.range (i+1)).map (opE n rs (updV wF i (.slice A4 n4 c4)))) ?_ (fun fr Cr16 Lr16 μ hler16 hI=>?_)
    ·refine G.fj (.cut [0,1,2,3,4,5,6,7,8,9,12,13,14] (.alt 10 (.cut [] (.alt 11 (.fin [15,16,17,18,19,20,21,22,23,24]) (.alt 15 (.cut [] (.alt 11 (.fin [16,17,18,19,20,21,22,23,24]) (.alt 16 (.cut [] (.alt 11 (.fin [17,18,19,20,21,22,23,24]) (.alt 17 (.fin [11,18,19,20,21,22,23,24]) .stop))) .stop))) (.alt 16 (.cut [] (.alt 11 (.fin [15,17,18,19,20,21,22,23,24]) (.alt 15 (.cut [] (.alt 11 (.fin [17,18,19,20,21,22,23,24]) (.alt 17 (.fin [11,18,19,20,21,22,23,24]) .stop))) (.alt 17 (.cut [] (.alt 11 (.fin [15,18,19,20,21,22,23,24]) (.alt 15 (.fin [11,18,19,20,21,22,23,24]) .stop))) .stop)))) .stop)))) (.alt 15 (.cut [] (.alt 10 (.cut [] (.alt 11 (.fin [16,17,18,19,20,21,22,23,24]) (.alt 16 (.cut [] (.alt 11 (.fin [17,18,19,20,21,22,23,24]) (.alt 17 (.fin [11,18,19,20,21,22,23,24]) .stop))) .stop))) (.alt 16 (.cut [] (.alt 10 (.cut [] (.alt 11 (.fin [17,18,19,20,21,22,23,24]) (.alt 17 (.fin [11,18,19,20,21,22,23,24]) .stop))) (.alt 17 (.fin [10,11,18,19,20,21,22,23,24]) .stop))) .stop))) (.alt 16 (.cut [] (.alt 10 (.cut [] (.alt 11 (.fin [15,17,18,19,20,21,22,23,24]) (.alt 15 (.cut [] (.alt 11 (.fin [17,18,19,20,21,22,23,24]) (.alt 17 (.fin [11,18,19,20,21,22,23,24]) .stop))) (.alt 17 (.cut [] (.alt 11 (.fin [15,18,19,20,21,22,23,24]) (.alt 15 (.fin [11,18,19,20,21,22,23,24]) .stop))) .stop)))) (.alt 15 (.cut [] (.alt 10 (.cut [] (.alt 11 (.fin [17,18,19,20,21,22,23,24]) (.alt 17 (.fin [11,18,19,20,21,22,23,24]) .stop))) (.alt 17 (.fin [10,11,18,19,20,21,22,23,24]) .stop))) (.alt 17 (.cut [] (.alt 10 (.cut [] (.alt 11 (.fin [15,18,19,20,21,22,23,24]) (.alt 15 (.fin [11,18,19,20,21,22,23,24]) .stop))) (.alt 15 (.fin [10,11,18,19,20,21,22,23,24]) .stop))) .stop)))) .stop)))) [] rfl rfl kr_ (fun R hB hR hH=>?_)
     refine D.ps 5 ?_
     refine D.ah (.tail _ (.tail _ (.tail _ (.head _)))) ?_
     refine D.ae ?_
     refine D.ac (bkT hb1 1) ?_
     refine D.ae ?_
     refine D.aq _ ?_
     refine D.ps 3 ?_
     refine D.ba hH rfl ⟨?_, ?_, ?_,trivial⟩
     ·refine D.af [[.int .i64 ((n:Int)+(i:Int))]] (fun p70 C70 hle70 hs70=>?_)
      refine D.ba hH rfl ⟨?_, ?_, ?_,trivial⟩
      ·refine D.ai (j:=1) rfl rfl rfl rfl rfl rfl rfl rfl rfl rfl rfl (hs70.mono mup) rfl (by simp only [List.length_singleton,maxLen];omega) (by show (i+1)*8<=_;omega) fl_ (fun A71 n71 c71=>?_)
       refine D.ah (.tail _ (.tail _ (.tail _ (.head _)))) ?_
       refine D.ac (bkT hb7 2) ?_
       refine D.af [[strV (qtx r.2),.slice A4 n4 c4]] (fun p77 C77 hle77 hs77=>?_)
       refine D.ai (j:=2) rfl rfl rfl rfl rfl rfl rfl rfl rfl rfl rfl (hs77.mono mup) rfl (by simp only [List.length_singleton,maxLen];omega) (by show (i+1)*40<=_;omega) fl_ (fun A78 n78 c78=>?_)
       refine D.ps 2 ?_
       refine D.ag (j:=3) ?_
       refine D.ps 2 ?_
       refine D.ag (j:=0) ?_
       refine D.e5 1 3 35 36 37 hR ?_;clear hR hB hH R
       refine G.perm (L':=opX0 n rs ob b17 Aw nw cw A1 n1 c1 i wF r A4 n4 c4 A71 n71 c71 A78 n78 c78) (pkL [2,1,0,1,1,0] rfl) ?_
       refine G.perm _ (aV hgr) ?_
       exact G.ar 0 mup (h_5 1 3 35 36 37) ⟨A71,n71,c71,A78,n78,c78,trivial,rfl,rfl⟩
      ·refine D.ah (.tail _ (.tail _ (.tail _ (.head _)))) ?_
       refine D.ba hH rfl ⟨?_, ?_,trivial⟩
       ·refine D.ai (j:=1) rfl rfl rfl rfl rfl rfl rfl rfl rfl rfl rfl (hs70.mono mup) rfl (by simp only [List.length_singleton,maxLen];omega) (by show (i+1)*8<=_;omega) fl_ (fun A71 n71 c71=>?_)
        refine D.ac (bkT hb7 2) ?_
        refine D.af [[strV (qtx r.2),.slice A4 n4 c4]] (fun p77 C77 hle77 hs77=>?_)
        refine D.ai (j:=2) rfl rfl rfl rfl rfl rfl rfl rfl rfl rfl rfl (hs77.mono mup) rfl (by simp only [List.length_singleton,maxLen];omega) (by show (i+1)*40<=_;omega) fl_ (fun A78 n78 c78=>?_)
        refine D.ps 2 ?_
        refine D.ag (j:=3) ?_
        refine D.ps 2 ?_
        refine D.ag (j:=0) ?_
        refine D.e5 1 3 35 36 37 hR ?_;clear hR hB hH R
        refine G.perm (L':=opX0 n rs ob b17 Aw nw cw A1 n1 c1 i wF r A4 n4 c4 A71 n71 c71 A78 n78 c78) (pkL [2,1,0,1,1,0] rfl) ?_
        refine G.perm _ (aV hgr) ?_
        exact G.ar 0 mup (h_5 1 3 35 36 37) ⟨A71,n71,c71,A78,n78,c78,trivial,rfl,rfl⟩
       ·refine D.ac (bkT hb7 2) ?_
        refine D.ba hH rfl ⟨?_, ?_,trivial⟩
        ·refine D.ai (j:=1) rfl rfl rfl rfl rfl rfl rfl rfl rfl rfl rfl (hs70.mono mup) rfl (by simp only [List.length_singleton,maxLen];omega) (by show (i+1)*8<=_;omega) fl_ (fun A71 n71 c71=>?_)
         refine D.af [[strV (qtx r.2),.slice A4 n4 c4]] (fun p77 C77 hle77 hs77=>?_)
         refine D.ai (j:=2) rfl rfl rfl rfl rfl rfl rfl rfl rfl rfl rfl (hs77.mono mup) rfl (by simp only [List.length_singleton,maxLen];omega) (by show (i+1)*40<=_;omega) fl_ (fun A78 n78 c78=>?_)
         refine D.ps 2 ?_
         refine D.ag (j:=3) ?_
         refine D.ps 2 ?_
         refine D.ag (j:=0) ?_
         refine D.e5 1 3 35 36 37 hR ?_;clear hR hB hH R
         refine G.perm (L':=opX0 n rs ob b17 Aw nw cw A1 n1 c1 i wF r A4 n4 c4 A71 n71 c71 A78 n78 c78) (pkL [2,1,0,1,1,0] rfl) ?_
         refine G.perm _ (aV hgr) ?_
         exact G.ar 0 mup (h_5 1 3 35 36 37) ⟨A71,n71,c71,A78,n78,c78,trivial,rfl,rfl⟩
        ·refine D.af [[strV (qtx r.2),.slice A4 n4 c4]] (fun p77 C77 hle77 hs77=>?_)
         refine D.ai (j:=1) rfl rfl rfl rfl rfl rfl rfl rfl rfl rfl rfl (hs70.mono mup) rfl (by simp only [List.length_singleton,maxLen];omega) (by show (i+1)*8<=_;omega) fl_ (fun A71 n71 c71=>?_)
         refine D.ai (j:=2) rfl rfl rfl rfl rfl rfl rfl rfl rfl rfl rfl (hs77.mono mup) rfl (by simp only [List.length_singleton,maxLen];omega) (by show (i+1)*40<=_;omega) fl_ (fun A78 n78 c78=>?_)
         refine D.ps 2 ?_
         refine D.ag (j:=3) ?_
         refine D.ps 2 ?_
         refine D.ag (j:=0) ?_
         refine D.e5 1 3 35 36 37 hR ?_;clear hR hB hH R
         refine G.perm (L':=opX0 n rs ob b17 Aw nw cw A1 n1 c1 i wF r A4 n4 c4 A71 n71 c71 A78 n78 c78) (pkL [2,1,0,1,1,0] rfl) ?_
         refine G.perm _ (aV hgr) ?_
         exact G.ar 0 mup (h_5 1 3 35 36 37) ⟨A71,n71,c71,A78,n78,c78,trivial,rfl,rfl⟩
      ·refine D.ac (bkT hb7 2) ?_
       refine D.ba hH rfl ⟨?_, ?_, ?_,trivial⟩
       ·refine D.ai (j:=1) rfl rfl rfl rfl rfl rfl rfl rfl rfl rfl rfl (hs70.mono mup) rfl (by simp only [List.length_singleton,maxLen];omega) (by show (i+1)*8<=_;omega) fl_ (fun A71 n71 c71=>?_)
        refine D.ah (.tail _ (.tail _ (.tail _ (.head _)))) ?_
        refine D.af [[strV (qtx r.2),.slice A4 n4 c4]] (fun p77 C77 hle77 hs77=>?_)
        refine D.ai (j:=2) rfl rfl rfl rfl rfl rfl rfl rfl rfl rfl rfl (hs77.mono mup) rfl (by simp only [List.length_singleton,maxLen];omega) (by show (i+1)*40<=_;omega) fl_ (fun A78 n78 c78=>?_)
        refine D.ps 2 ?_
        refine D.ag (j:=3) ?_
        refine D.ps 2 ?_
        refine D.ag (j:=0) ?_
        refine D.e5 1 3 35 36 37 hR ?_;clear hR hB hH R
        refine G.perm (L':=opX0 n rs ob b17 Aw nw cw A1 n1 c1 i wF r A4 n4 c4 A71 n71 c71 A78 n78 c78) (pkL [2,1,0,1,1,0] rfl) ?_
        refine G.perm _ (aV hgr) ?_
        exact G.ar 0 mup (h_5 1 3 35 36 37) ⟨A71,n71,c71,A78,n78,c78,trivial,rfl,rfl⟩
       ·refine D.ah (.tail _ (.tail _ (.tail _ (.head _)))) ?_
        refine D.ba hH rfl ⟨?_, ?_,trivial⟩
        ·refine D.ai (j:=1) rfl rfl rfl rfl rfl rfl rfl rfl rfl rfl rfl (hs70.mono mup) rfl (by simp only [List.length_singleton,maxLen];omega) (by show (i+1)*8<=_;omega) fl_ (fun A71 n71 c71=>?_)
         refine D.af [[strV (qtx r.2),.slice A4 n4 c4]] (fun p77 C77 hle77 hs77=>?_)
         refine D.ai (j:=2) rfl rfl rfl rfl rfl rfl rfl rfl rfl rfl rfl (hs77.mono mup) rfl (by simp only [List.length_singleton,maxLen];omega) (by show (i+1)*40<=_;omega) fl_ (fun A78 n78 c78=>?_)
         refine D.ps 2 ?_
         refine D.ag (j:=3) ?_
         refine D.ps 2 ?_
         refine D.ag (j:=0) ?_
         refine D.e5 1 3 35 36 37 hR ?_;clear hR hB hH R
         refine G.perm (L':=opX0 n rs ob b17 Aw nw cw A1 n1 c1 i wF r A4 n4 c4 A71 n71 c71 A78 n78 c78) (pkL [2,1,0,1,1,0] rfl) ?_
         refine G.perm _ (aV hgr) ?_
         exact G.ar 0 mup (h_5 1 3 35 36 37) ⟨A71,n71,c71,A78,n78,c78,trivial,rfl,rfl⟩
        ·refine D.af [[strV (qtx r.2),.slice A4 n4 c4]] (fun p77 C77 hle77 hs77=>?_)
         refine D.ai (j:=1) rfl rfl rfl rfl rfl rfl rfl rfl rfl rfl rfl (hs70.mono mup) rfl (by simp only [List.length_singleton,maxLen];omega) (by show (i+1)*8<=_;omega) fl_ (fun A71 n71 c71=>?_)
         refine D.ai (j:=2) rfl rfl rfl rfl rfl rfl rfl rfl rfl rfl rfl (hs77.mono mup) rfl (by simp only [List.length_singleton,maxLen];omega) (by show (i+1)*40<=_;omega) fl_ (fun A78 n78 c78=>?_)
         refine D.ps 2 ?_
         refine D.ag (j:=3) ?_
         refine D.ps 2 ?_
         refine D.ag (j:=0) ?_
         refine D.e5 1 3 35 36 37 hR ?_;clear hR hB hH R
         refine G.perm (L':=opX0 n rs ob b17 Aw nw cw A1 n1 c1 i wF r A4 n4 c4 A71 n71 c71 A78 n78 c78) (pkL [2,1,0,1,1,0] rfl) ?_
         refine G.perm _ (aV hgr) ?_
         exact G.ar 0 mup (h_5 1 3 35 36 37) ⟨A71,n71,c71,A78,n78,c78,trivial,rfl,rfl⟩
       ·refine D.af [[strV (qtx r.2),.slice A4 n4 c4]] (fun p77 C77 hle77 hs77=>?_)
        refine D.ba hH rfl ⟨?_, ?_,trivial⟩
        ·refine D.ai (j:=1) rfl rfl rfl rfl rfl rfl rfl rfl rfl rfl rfl (hs70.mono mup) rfl (by simp only [List.length_singleton,maxLen];omega) (by show (i+1)*8<=_;omega) fl_ (fun A71 n71 c71=>?_)
         refine D.ah (.tail _ (.tail _ (.tail _ (.head _)))) ?_
         refine D.ai (j:=2) rfl rfl rfl rfl rfl rfl rfl rfl rfl rfl rfl (hs77.mono mup) rfl (by simp only [List.length_singleton,maxLen];omega) (by show (i+1)*40<=_;omega) fl_ (fun A78 n78 c78=>?_)
         refine D.ps 2 ?_
         refine D.ag (j:=3) ?_
         refine D.ps 2 ?_
         refine D.ag (j:=0) ?_
         refine D.e5 1 3 35 36 37 hR ?_;clear hR hB hH R
         refine G.perm (L':=opX0 n rs ob b17 Aw nw cw A1 n1 c1 i wF r A4 n4 c4 A71 n71 c71 A78 n78 c78) (pkL [2,1,0,1,1,0] rfl) ?_
         refine G.perm _ (aV hgr) ?_
         exact G.ar 0 mup (h_5 1 3 35 36 37) ⟨A71,n71,c71,A78,n78,c78,trivial,rfl,rfl⟩
        ·refine D.ah (.tail _ (.tail _ (.tail _ (.head _)))) ?_
         refine D.ai (j:=1) rfl rfl rfl rfl rfl rfl rfl rfl rfl rfl rfl (hs70.mono mup) rfl (by simp only [List.length_singleton,maxLen];omega) (by show (i+1)*8<=_;omega) fl_ (fun A71 n71 c71=>?_)
         refine D.ai (j:=2) rfl rfl rfl rfl rfl rfl rfl rfl rfl rfl rfl (hs77.mono mup) rfl (by simp only [List.length_singleton,maxLen];omega) (by show (i+1)*40<=_;omega) fl_ (fun A78 n78 c78=>?_)
         refine D.ps 2 ?_
         refine D.ag (j:=3) ?_
         refine D.ps 2 ?_
         refine D.ag (j:=0) ?_
         refine D.e5 1 3 35 36 37 hR ?_;clear hR hB hH R
         refine G.perm (L':=opX0 n rs ob b17 Aw nw cw A1 n1 c1 i wF r A4 n4 c4 A71 n71 c71 A78 n78 c78) (pkL [2,1,0,1,1,0] rfl) ?_
         refine G.perm _ (aV hgr) ?_
         exact G.ar 0 mup (h_5 1 3 35 36 37) ⟨A71,n71,c71,A78,n78,c78,trivial,rfl,rfl⟩
     ·refine D.ah (.tail _ (.tail _ (.tail _ (.head _)))) ?_
      refine D.ba hH rfl ⟨?_, ?_,trivial⟩
      ·refine D.af [[.int .i64 ((n:Int)+(i:Int))]] (fun p70 C70 hle70 hs70=>?_)
       refine D.ba hH rfl ⟨?_, ?_,trivial⟩
       ·refine D.ai (j:=1) rfl rfl rfl rfl rfl rfl rfl rfl rfl rfl rfl (hs70.mono mup) rfl (by simp only [List.length_singleton,maxLen];omega) (by show (i+1)*8<=_;omega) fl_ (fun A71 n71 c71=>?_)
        refine D.ac (bkT hb7 2) ?_
        refine D.af [[strV (qtx r.2),.slice A4 n4 c4]] (fun p77 C77 hle77 hs77=>?_)
        refine D.ai (j:=2) rfl rfl rfl rfl rfl rfl rfl rfl rfl rfl rfl (hs77.mono mup) rfl (by simp only [List.length_singleton,maxLen];omega) (by show (i+1)*40<=_;omega) fl_ (fun A78 n78 c78=>?_)
        refine D.ps 2 ?_
        refine D.ag (j:=3) ?_
        refine D.ps 2 ?_
        refine D.ag (j:=0) ?_
        refine D.e5 1 3 35 36 37 hR ?_;clear hR hB hH R
        refine G.perm (L':=opX0 n rs ob b17 Aw nw cw A1 n1 c1 i wF r A4 n4 c4 A71 n71 c71 A78 n78 c78) (pkL [2,1,0,1,1,0] rfl) ?_
        refine G.perm _ (aV hgr) ?_
        exact G.ar 0 mup (h_5 1 3 35 36 37) ⟨A71,n71,c71,A78,n78,c78,trivial,rfl,rfl⟩
       ·refine D.ac (bkT hb7 2) ?_
        refine D.ba hH rfl ⟨?_, ?_,trivial⟩
        ·refine D.ai (j:=1) rfl rfl rfl rfl rfl rfl rfl rfl rfl rfl rfl (hs70.mono mup) rfl (by simp only [List.length_singleton,maxLen];omega) (by show (i+1)*8<=_;omega) fl_ (fun A71 n71 c71=>?_)
         refine D.af [[strV (qtx r.2),.slice A4 n4 c4]] (fun p77 C77 hle77 hs77=>?_)
         refine D.ai (j:=2) rfl rfl rfl rfl rfl rfl rfl rfl rfl rfl rfl (hs77.mono mup) rfl (by simp only [List.length_singleton,maxLen];omega) (by show (i+1)*40<=_;omega) fl_ (fun A78 n78 c78=>?_)
         refine D.ps 2 ?_
         refine D.ag (j:=3) ?_
         refine D.ps 2 ?_
         refine D.ag (j:=0) ?_
         refine D.e5 1 3 35 36 37 hR ?_;clear hR hB hH R
         refine G.perm (L':=opX0 n rs ob b17 Aw nw cw A1 n1 c1 i wF r A4 n4 c4 A71 n71 c71 A78 n78 c78) (pkL [2,1,0,1,1,0] rfl) ?_
         refine G.perm _ (aV hgr) ?_
         exact G.ar 0 mup (h_5 1 3 35 36 37) ⟨A71,n71,c71,A78,n78,c78,trivial,rfl,rfl⟩
        ·refine D.af [[strV (qtx r.2),.slice A4 n4 c4]] (fun p77 C77 hle77 hs77=>?_)
         refine D.ai (j:=1) rfl rfl rfl rfl rfl rfl rfl rfl rfl rfl rfl (hs70.mono mup) rfl (by simp only [List.length_singleton,maxLen];omega) (by show (i+1)*8<=_;omega) fl_ (fun A71 n71 c71=>?_)
         refine D.ai (j:=2) rfl rfl rfl rfl rfl rfl rfl rfl rfl rfl rfl (hs77.mono mup) rfl (by simp only [List.length_singleton,maxLen];omega) (by show (i+1)*40<=_;omega) fl_ (fun A78 n78 c78=>?_)
         refine D.ps 2 ?_
         refine D.ag (j:=3) ?_
         refine D.ps 2 ?_
         refine D.ag (j:=0) ?_
         refine D.e5 1 3 35 36 37 hR ?_;clear hR hB hH R
         refine G.perm (L':=opX0 n rs ob b17 Aw nw cw A1 n1 c1 i wF r A4 n4 c4 A71 n71 c71 A78 n78 c78) (pkL [2,1,0,1,1,0] rfl) ?_
         refine G.perm _ (aV hgr) ?_
         exact G.ar 0 mup (h_5 1 3 35 36 37) ⟨A71,n71,c71,A78,n78,c78,trivial,rfl,rfl⟩
      ·refine D.ac (bkT hb7 2) ?_
       refine D.ba hH rfl ⟨?_, ?_,trivial⟩
       ·refine D.af [[.int .i64 ((n:Int)+(i:Int))]] (fun p70 C70 hle70 hs70=>?_)
        refine D.ba hH rfl ⟨?_, ?_,trivial⟩
        ·refine D.ai (j:=1) rfl rfl rfl rfl rfl rfl rfl rfl rfl rfl rfl (hs70.mono mup) rfl (by simp only [List.length_singleton,maxLen];omega) (by show (i+1)*8<=_;omega) fl_ (fun A71 n71 c71=>?_)
         refine D.af [[strV (qtx r.2),.slice A4 n4 c4]] (fun p77 C77 hle77 hs77=>?_)
         refine D.ai (j:=2) rfl rfl rfl rfl rfl rfl rfl rfl rfl rfl rfl (hs77.mono mup) rfl (by simp only [List.length_singleton,maxLen];omega) (by show (i+1)*40<=_;omega) fl_ (fun A78 n78 c78=>?_)
         refine D.ps 2 ?_
         refine D.ag (j:=3) ?_
         refine D.ps 2 ?_
         refine D.ag (j:=0) ?_
         refine D.e5 1 3 35 36 37 hR ?_;clear hR hB hH R
         refine G.perm (L':=opX0 n rs ob b17 Aw nw cw A1 n1 c1 i wF r A4 n4 c4 A71 n71 c71 A78 n78 c78) (pkL [2,1,0,1,1,0] rfl) ?_
         refine G.perm _ (aV hgr) ?_
         exact G.ar 0 mup (h_5 1 3 35 36 37) ⟨A71,n71,c71,A78,n78,c78,trivial,rfl,rfl⟩
        ·refine D.af [[strV (qtx r.2),.slice A4 n4 c4]] (fun p77 C77 hle77 hs77=>?_)
         refine D.ai (j:=1) rfl rfl rfl rfl rfl rfl rfl rfl rfl rfl rfl (hs70.mono mup) rfl (by simp only [List.length_singleton,maxLen];omega) (by show (i+1)*8<=_;omega) fl_ (fun A71 n71 c71=>?_)
         refine D.ai (j:=2) rfl rfl rfl rfl rfl rfl rfl rfl rfl rfl rfl (hs77.mono mup) rfl (by simp only [List.length_singleton,maxLen];omega) (by show (i+1)*40<=_;omega) fl_ (fun A78 n78 c78=>?_)
         refine D.ps 2 ?_
         refine D.ag (j:=3) ?_
         refine D.ps 2 ?_
         refine D.ag (j:=0) ?_
         refine D.e5 1 3 35 36 37 hR ?_;clear hR hB hH R
         refine G.perm (L':=opX0 n rs ob b17 Aw nw cw A1 n1 c1 i wF r A4 n4 c4 A71 n71 c71 A78 n78 c78) (pkL [2,1,0,1,1,0] rfl) ?_
         refine G.perm _ (aV hgr) ?_
         exact G.ar 0 mup (h_5 1 3 35 36 37) ⟨A71,n71,c71,A78,n78,c78,trivial,rfl,rfl⟩
       ·refine D.af [[strV (qtx r.2),.slice A4 n4 c4]] (fun p77 C77 hle77 hs77=>?_)
        refine D.af [[.int .i64 ((n:Int)+(i:Int))]] (fun p70 C70 hle70 hs70=>?_)
        refine D.ai (j:=1) rfl rfl rfl rfl rfl rfl rfl rfl rfl rfl rfl (hs70.mono mup) rfl (by simp only [List.length_singleton,maxLen];omega) (by show (i+1)*8<=_;omega) fl_ (fun A71 n71 c71=>?_)
        refine D.ai (j:=2) rfl rfl rfl rfl rfl rfl rfl rfl rfl rfl rfl (hs77.mono mup) rfl (by simp only [List.length_singleton,maxLen];omega) (by show (i+1)*40<=_;omega) fl_ (fun A78 n78 c78=>?_)
        refine D.ps 2 ?_
        refine D.ag (j:=3) ?_
        refine D.ps 2 ?_
        refine D.ag (j:=0) ?_
        refine D.e5 1 3 35 36 37 hR ?_;clear hR hB hH R
        refine G.perm (L':=opX0 n rs ob b17 Aw nw cw A1 n1 c1 i wF r A4 n4 c4 A71 n71 c71 A78 n78 c78) (pkL [2,1,0,1,1,0] rfl) ?_
        refine G.perm _ (aV hgr) ?_
        exact G.ar 0 mup (h_5 1 3 35 36 37) ⟨A71,n71,c71,A78,n78,c78,trivial,rfl,rfl⟩
     ·refine D.ac (bkT hb7 2) ?_
      refine D.ba hH rfl ⟨?_, ?_, ?_,trivial⟩
      ·refine D.af [[.int .i64 ((n:Int)+(i:Int))]] (fun p70 C70 hle70 hs70=>?_)
       refine D.ba hH rfl ⟨?_, ?_, ?_,trivial⟩
       ·refine D.ai (j:=1) rfl rfl rfl rfl rfl rfl rfl rfl rfl rfl rfl (hs70.mono mup) rfl (by simp only [List.length_singleton,maxLen];omega) (by show (i+1)*8<=_;omega) fl_ (fun A71 n71 c71=>?_)
        refine D.ah (.tail _ (.tail _ (.tail _ (.head _)))) ?_
        refine D.af [[strV (qtx r.2),.slice A4 n4 c4]] (fun p77 C77 hle77 hs77=>?_)
        refine D.ai (j:=2) rfl rfl rfl rfl rfl rfl rfl rfl rfl rfl rfl (hs77.mono mup) rfl (by simp only [List.length_singleton,maxLen];omega) (by show (i+1)*40<=_;omega) fl_ (fun A78 n78 c78=>?_)
        refine D.ps 2 ?_
        refine D.ag (j:=3) ?_
        refine D.ps 2 ?_
        refine D.ag (j:=0) ?_
        refine D.e5 1 3 35 36 37 hR ?_;clear hR hB hH R
        refine G.perm (L':=opX0 n rs ob b17 Aw nw cw A1 n1 c1 i wF r A4 n4 c4 A71 n71 c71 A78 n78 c78) (pkL [2,1,0,1,1,0] rfl) ?_
        refine G.perm _ (aV hgr) ?_
        exact G.ar 0 mup (h_5 1 3 35 36 37) ⟨A71,n71,c71,A78,n78,c78,trivial,rfl,rfl⟩
       ·refine D.ah (.tail _ (.tail _ (.tail _ (.head _)))) ?_
        refine D.ba hH rfl ⟨?_, ?_,trivial⟩
        ·refine D.ai (j:=1) rfl rfl rfl rfl rfl rfl rfl rfl rfl rfl rfl (hs70.mono mup) rfl (by simp only [List.length_singleton,maxLen];omega) (by show (i+1)*8<=_;omega) fl_ (fun A71 n71 c71=>?_)
         refine D.af [[strV (qtx r.2),.slice A4 n4 c4]] (fun p77 C77 hle77 hs77=>?_)
         refine D.ai (j:=2) rfl rfl rfl rfl rfl rfl rfl rfl rfl rfl rfl (hs77.mono mup) rfl (by simp only [List.length_singleton,maxLen];omega) (by show (i+1)*40<=_;omega) fl_ (fun A78 n78 c78=>?_)
         refine D.ps 2 ?_
         refine D.ag (j:=3) ?_
         refine D.ps 2 ?_
         refine D.ag (j:=0) ?_
         refine D.e5 1 3 35 36 37 hR ?_;clear hR hB hH R
         refine G.perm (L':=opX0 n rs ob b17 Aw nw cw A1 n1 c1 i wF r A4 n4 c4 A71 n71 c71 A78 n78 c78) (pkL [2,1,0,1,1,0] rfl) ?_
         refine G.perm _ (aV hgr) ?_
         exact G.ar 0 mup (h_5 1 3 35 36 37) ⟨A71,n71,c71,A78,n78,c78,trivial,rfl,rfl⟩
        ·refine D.af [[strV (qtx r.2),.slice A4 n4 c4]] (fun p77 C77 hle77 hs77=>?_)
         refine D.ai (j:=1) rfl rfl rfl rfl rfl rfl rfl rfl rfl rfl rfl (hs70.mono mup) rfl (by simp only [List.length_singleton,maxLen];omega) (by show (i+1)*8<=_;omega) fl_ (fun A71 n71 c71=>?_)
         refine D.ai (j:=2) rfl rfl rfl rfl rfl rfl rfl rfl rfl rfl rfl (hs77.mono mup) rfl (by simp only [List.length_singleton,maxLen];omega) (by show (i+1)*40<=_;omega) fl_ (fun A78 n78 c78=>?_)
         refine D.ps 2 ?_
         refine D.ag (j:=3) ?_
         refine D.ps 2 ?_
         refine D.ag (j:=0) ?_
         refine D.e5 1 3 35 36 37 hR ?_;clear hR hB hH R
         refine G.perm (L':=opX0 n rs ob b17 Aw nw cw A1 n1 c1 i wF r A4 n4 c4 A71 n71 c71 A78 n78 c78) (pkL [2,1,0,1,1,0] rfl) ?_
         refine G.perm _ (aV hgr) ?_
         exact G.ar 0 mup (h_5 1 3 35 36 37) ⟨A71,n71,c71,A78,n78,c78,trivial,rfl,rfl⟩
       ·refine D.af [[strV (qtx r.2),.slice A4 n4 c4]] (fun p77 C77 hle77 hs77=>?_)
        refine D.ba hH rfl ⟨?_, ?_,trivial⟩
        ·refine D.ai (j:=1) rfl rfl rfl rfl rfl rfl rfl rfl rfl rfl rfl (hs70.mono mup) rfl (by simp only [List.length_singleton,maxLen];omega) (by show (i+1)*8<=_;omega) fl_ (fun A71 n71 c71=>?_)
         refine D.ah (.tail _ (.tail _ (.tail _ (.head _)))) ?_
         refine D.ai (j:=2) rfl rfl rfl rfl rfl rfl rfl rfl rfl rfl rfl (hs77.mono mup) rfl (by simp only [List.length_singleton,maxLen];omega) (by show (i+1)*40<=_;omega) fl_ (fun A78 n78 c78=>?_)
         refine D.ps 2 ?_
         refine D.ag (j:=3) ?_
         refine D.ps 2 ?_
         refine D.ag (j:=0) ?_
         refine D.e5 1 3 35 36 37 hR ?_;clear hR hB hH R
         refine G.perm (L':=opX0 n rs ob b17 Aw nw cw A1 n1 c1 i wF r A4 n4 c4 A71 n71 c71 A78 n78 c78) (pkL [2,1,0,1,1,0] rfl) ?_
         refine G.perm _ (aV hgr) ?_
         exact G.ar 0 mup (h_5 1 3 35 36 37) ⟨A71,n71,c71,A78,n78,c78,trivial,rfl,rfl⟩
        ·refine D.ah (.tail _ (.tail _ (.tail _ (.head _)))) ?_
         refine D.ai (j:=1) rfl rfl rfl rfl rfl rfl rfl rfl rfl rfl rfl (hs70.mono mup) rfl (by simp only [List.length_singleton,maxLen];omega) (by show (i+1)*8<=_;omega) fl_ (fun A71 n71 c71=>?_)
         refine D.ai (j:=2) rfl rfl rfl rfl rfl rfl rfl rfl rfl rfl rfl (hs77.mono mup) rfl (by simp only [List.length_singleton,maxLen];omega) (by show (i+1)*40<=_;omega) fl_ (fun A78 n78 c78=>?_)
         refine D.ps 2 ?_
         refine D.ag (j:=3) ?_
         refine D.ps 2 ?_
         refine D.ag (j:=0) ?_
         refine D.e5 1 3 35 36 37 hR ?_;clear hR hB hH R
         refine G.perm (L':=opX0 n rs ob b17 Aw nw cw A1 n1 c1 i wF r A4 n4 c4 A71 n71 c71 A78 n78 c78) (pkL [2,1,0,1,1,0] rfl) ?_
         refine G.perm _ (aV hgr) ?_
         exact G.ar 0 mup (h_5 1 3 35 36 37) ⟨A71,n71,c71,A78,n78,c78,trivial,rfl,rfl⟩
      ·refine D.ah (.tail _ (.tail _ (.tail _ (.head _)))) ?_
       refine D.ba hH rfl ⟨?_, ?_,trivial⟩
       ·refine D.af [[.int .i64 ((n:Int)+(i:Int))]] (fun p70 C70 hle70 hs70=>?_)
        refine D.ba hH rfl ⟨?_, ?_,trivial⟩
        ·refine D.ai (j:=1) rfl rfl rfl rfl rfl rfl rfl rfl rfl rfl rfl (hs70.mono mup) rfl (by simp only [List.length_singleton,maxLen];omega) (by show (i+1)*8<=_;omega) fl_ (fun A71 n71 c71=>?_)
         refine D.af [[strV (qtx r.2),.slice A4 n4 c4]] (fun p77 C77 hle77 hs77=>?_)
         refine D.ai (j:=2) rfl rfl rfl rfl rfl rfl rfl rfl rfl rfl rfl (hs77.mono mup) rfl (by simp only [List.length_singleton,maxLen];omega) (by show (i+1)*40<=_;omega) fl_ (fun A78 n78 c78=>?_)
         refine D.ps 2 ?_
         refine D.ag (j:=3) ?_
         refine D.ps 2 ?_
         refine D.ag (j:=0) ?_
         refine D.e5 1 3 35 36 37 hR ?_;clear hR hB hH R
         refine G.perm (L':=opX0 n rs ob b17 Aw nw cw A1 n1 c1 i wF r A4 n4 c4 A71 n71 c71 A78 n78 c78) (pkL [2,1,0,1,1,0] rfl) ?_
         refine G.perm _ (aV hgr) ?_
         exact G.ar 0 mup (h_5 1 3 35 36 37) ⟨A71,n71,c71,A78,n78,c78,trivial,rfl,rfl⟩
        ·refine D.af [[strV (qtx r.2),.slice A4 n4 c4]] (fun p77 C77 hle77 hs77=>?_)
         refine D.ai (j:=1) rfl rfl rfl rfl rfl rfl rfl rfl rfl rfl rfl (hs70.mono mup) rfl (by simp only [List.length_singleton,maxLen];omega) (by show (i+1)*8<=_;omega) fl_ (fun A71 n71 c71=>?_)
         refine D.ai (j:=2) rfl rfl rfl rfl rfl rfl rfl rfl rfl rfl rfl (hs77.mono mup) rfl (by simp only [List.length_singleton,maxLen];omega) (by show (i+1)*40<=_;omega) fl_ (fun A78 n78 c78=>?_)
         refine D.ps 2 ?_
         refine D.ag (j:=3) ?_
         refine D.ps 2 ?_
         refine D.ag (j:=0) ?_
         refine D.e5 1 3 35 36 37 hR ?_;clear hR hB hH R
         refine G.perm (L':=opX0 n rs ob b17 Aw nw cw A1 n1 c1 i wF r A4 n4 c4 A71 n71 c71 A78 n78 c78) (pkL [2,1,0,1,1,0] rfl) ?_
         refine G.perm _ (aV hgr) ?_
         exact G.ar 0 mup (h_5 1 3 35 36 37) ⟨A71,n71,c71,A78,n78,c78,trivial,rfl,rfl⟩
       ·refine D.af [[strV (qtx r.2),.slice A4 n4 c4]] (fun p77 C77 hle77 hs77=>?_)
        refine D.af [[.int .i64 ((n:Int)+(i:Int))]] (fun p70 C70 hle70 hs70=>?_)
        refine D.ai (j:=1) rfl rfl rfl rfl rfl rfl rfl rfl rfl rfl rfl (hs70.mono mup) rfl (by simp only [List.length_singleton,maxLen];omega) (by show (i+1)*8<=_;omega) fl_ (fun A71 n71 c71=>?_)
        refine D.ai (j:=2) rfl rfl rfl rfl rfl rfl rfl rfl rfl rfl rfl (hs77.mono mup) rfl (by simp only [List.length_singleton,maxLen];omega) (by show (i+1)*40<=_;omega) fl_ (fun A78 n78 c78=>?_)
        refine D.ps 2 ?_
        refine D.ag (j:=3) ?_
        refine D.ps 2 ?_
        refine D.ag (j:=0) ?_
        refine D.e5 1 3 35 36 37 hR ?_;clear hR hB hH R
        refine G.perm (L':=opX0 n rs ob b17 Aw nw cw A1 n1 c1 i wF r A4 n4 c4 A71 n71 c71 A78 n78 c78) (pkL [2,1,0,1,1,0] rfl) ?_
        refine G.perm _ (aV hgr) ?_
        exact G.ar 0 mup (h_5 1 3 35 36 37) ⟨A71,n71,c71,A78,n78,c78,trivial,rfl,rfl⟩
      ·refine D.af [[strV (qtx r.2),.slice A4 n4 c4]] (fun p77 C77 hle77 hs77=>?_)
       refine D.ba hH rfl ⟨?_, ?_,trivial⟩
       ·refine D.af [[.int .i64 ((n:Int)+(i:Int))]] (fun p70 C70 hle70 hs70=>?_)
        refine D.ba hH rfl ⟨?_, ?_,trivial⟩
        ·refine D.ai (j:=1) rfl rfl rfl rfl rfl rfl rfl rfl rfl rfl rfl (hs70.mono mup) rfl (by simp only [List.length_singleton,maxLen];omega) (by show (i+1)*8<=_;omega) fl_ (fun A71 n71 c71=>?_)
         refine D.ah (.tail _ (.tail _ (.tail _ (.head _)))) ?_
         refine D.ai (j:=2) rfl rfl rfl rfl rfl rfl rfl rfl rfl rfl rfl (hs77.mono mup) rfl (by simp only [List.length_singleton,maxLen];omega) (by show (i+1)*40<=_;omega) fl_ (fun A78 n78 c78=>?_)
         refine D.ps 2 ?_
         refine D.ag (j:=3) ?_
         refine D.ps 2 ?_
         refine D.ag (j:=0) ?_
         refine D.e5 1 3 35 36 37 hR ?_;clear hR hB hH R
         refine G.perm (L':=opX0 n rs ob b17 Aw nw cw A1 n1 c1 i wF r A4 n4 c4 A71 n71 c71 A78 n78 c78) (pkL [2,1,0,1,1,0] rfl) ?_
         refine G.perm _ (aV hgr) ?_
         exact G.ar 0 mup (h_5 1 3 35 36 37) ⟨A71,n71,c71,A78,n78,c78,trivial,rfl,rfl⟩
        ·refine D.ah (.tail _ (.tail _ (.tail _ (.head _)))) ?_
         refine D.ai (j:=1) rfl rfl rfl rfl rfl rfl rfl rfl rfl rfl rfl (hs70.mono mup) rfl (by simp only [List.length_singleton,maxLen];omega) (by show (i+1)*8<=_;omega) fl_ (fun A71 n71 c71=>?_)
         refine D.ai (j:=2) rfl rfl rfl rfl rfl rfl rfl rfl rfl rfl rfl (hs77.mono mup) rfl (by simp only [List.length_singleton,maxLen];omega) (by show (i+1)*40<=_;omega) fl_ (fun A78 n78 c78=>?_)
         refine D.ps 2 ?_
         refine D.ag (j:=3) ?_
         refine D.ps 2 ?_
         refine D.ag (j:=0) ?_
         refine D.e5 1 3 35 36 37 hR ?_;clear hR hB hH R
         refine G.perm (L':=opX0 n rs ob b17 Aw nw cw A1 n1 c1 i wF r A4 n4 c4 A71 n71 c71 A78 n78 c78) (pkL [2,1,0,1,1,0] rfl) ?_
         refine G.perm _ (aV hgr) ?_
         exact G.ar 0 mup (h_5 1 3 35 36 37) ⟨A71,n71,c71,A78,n78,c78,trivial,rfl,rfl⟩
       ·refine D.ah (.tail _ (.tail _ (.tail _ (.head _)))) ?_
        refine D.af [[.int .i64 ((n:Int)+(i:Int))]] (fun p70 C70 hle70 hs70=>?_)
        refine D.ai (j:=1) rfl rfl rfl rfl rfl rfl rfl rfl rfl rfl rfl (hs70.mono mup) rfl (by simp only [List.length_singleton,maxLen];omega) (by show (i+1)*8<=_;omega) fl_ (fun A71 n71 c71=>?_)
        refine D.ai (j:=2) rfl rfl rfl rfl rfl rfl rfl rfl rfl rfl rfl (hs77.mono mup) rfl (by simp only [List.length_singleton,maxLen];omega) (by show (i+1)*40<=_;omega) fl_ (fun A78 n78 c78=>?_)
        refine D.ps 2 ?_
        refine D.ag (j:=3) ?_
        refine D.ps 2 ?_
        refine D.ag (j:=0) ?_
        refine D.e5 1 3 35 36 37 hR ?_;clear hR hB hH R
        refine G.perm (L':=opX0 n rs ob b17 Aw nw cw A1 n1 c1 i wF r A4 n4 c4 A71 n71 c71 A78 n78 c78) (pkL [2,1,0,1,1,0] rfl) ?_
        refine G.perm _ (aV hgr) ?_
        exact G.ar 0 mup (h_5 1 3 35 36 37) ⟨A71,n71,c71,A78,n78,c78,trivial,rfl,rfl⟩
    obtain ⟨A7,n7,c7,A8,n8,c8,_,rfl,rfl⟩:=hI
    refine G.rg fun R hR=>?_
    refine D.aq _ ?_
    refine D.q5 1 1 3 35 36 37 hR ?_;clear hR R
    refine G.ap (m':=rs.length-(i+1)) om_ mup (h_5 1 3 35 36 37) ⟨i+1,A7,n7,c7,A8,n8,c8,(updV wF i (.slice A4 n4 c4)),om_,rfl,rfl,rfl⟩
  ·have hin:i=rs.length:=by
    have:=of_decide_eq_false h38
    omega
   refine G.z1 2 2 ?_
   rw [hin]
   refine G.perm (L':=(tabL b17 n (Lp.openT (cm n rs) fun j=>ob.getD j 0) (.slice A2 n2 c2) (.slice A3 n3 c3) (.slice A1 n1 c1) (.slice Aw nw cw) wF).map Lent.ent) (by rw [open_ents hol];(exact pkL [2,0,0,0] rfl)) ?_
   refine G.ay (G.dC rfl rfl ?_)
   exact ⟨b17,.slice A2 n2 c2,.slice A3 n3 c3,.slice A1 n1 c1,.slice Aw nw cw,wF,rfl,rfl⟩
end Go.Proofs.YtifolnapeolhcaaGreatDoor
