/- Laws that the proofs of this seat share, part 8. -/
import Derived.Test.YtifolnapeolhcaaGreatDoorG7
import Derived.Test.YtifolnapeolhcaaGreatDoorShelf
set_option maxHeartbeats 4000000
namespace Go.Proofs.YtifolnapeolhcaaGreatDoor
open Go Go.Jog
set_option maxRecDepth 100000

theorem qtx0:qtx 0=[48]:=by decide +kernel
theorem enc0:encR 0=[Value.string ⟨#[48]⟩]:=by
 show [strV (qtx 0)]=_
 rw [qtx0];rfl
def zF (fs:List Rat)(s q:Nat):Rat:=if q=s then 0 else fs.getD q 0
def putF (fs bf:List Rat)(s:Nat)(k:Rat)(j:Nat):List Rat:=(List.range fs.length).map fun q=>zF fs s q+(if q<j then k*bf.getD q 0 else 0)
theorem eH {fs bf:List Rat}{s:Nat}{k:Rat}{j:Nat}:(putF fs bf s k j).length=fs.length:=by simp [putF]
theorem putF_zero {fs bf:List Rat}{s:Nat}{k:Rat}:fs.set s 0=putF fs bf s k 0:=by
 refine List.ext_getElem? fun q=>?_
 unfold putF
 rw [List.getElem?_set,List.getElem?_map]
 by_cases hq:q<fs.length
 ·rw [List.getElem?_range hq]
  simp only [Option.map_some,Nat.not_lt_zero,if_false]
  unfold zF
  split
  ·next e=>rw [if_pos om_,if_pos e.symm];rw [Rat.add_zero]
  ·next e=>rw [if_neg (fun e2=>e e2.symm),List.getD_eq_getElem?_getD,List.getElem?_eq_getElem hq];simp only [Option.getD_some];congr 1;grind
 ·rw [List.getElem?_eq_none om_,List.getElem?_eq_none (by simp;omega)]
  split
  ·split
   ·omega
   ·rfl
  ·rfl
theorem putF_at {fs bf:List Rat}{s:Nat}{k:Rat}{j q:Nat}(h:q<fs.length):(putF fs bf s k j)[q]?=some (zF fs s q+(if q<j then k*bf.getD q 0 else 0)):=by
 unfold putF
 rw [List.getElem?_map,List.getElem?_range h];rfl
theorem putF_set {fs bf:List Rat}{s:Nat}{k:Rat}{j:Nat}(h:j<fs.length):(putF fs bf s k j).set j (zF fs s j+k*bf.getD j 0)=putF fs bf s k (j+1):=by
 refine List.ext_getElem? fun q=>?_
 rw [List.getElem?_set,eH]
 by_cases hq:q<fs.length
 ·rw [putF_at hq,putF_at hq]
  by_cases e:j=q
  ·subst e
   rw [if_pos rfl,if_pos hq,if_pos om_]
  ·rw [if_neg e]
   by_cases h1:q<j
   ·rw [if_pos h1,if_pos om_]
   ·rw [if_neg h1,if_neg om_]
 ·rw [List.getElem?_eq_none (by rw [eH];omega),List.getElem?_eq_none (by rw [eH];omega)]
  split
  ·exact absurd om_ hq
  ·rfl
theorem putF_next {fs bf:List Rat}{s:Nat}{k:Rat}{j:Nat}(h0:bf.getD j 0=0):putF fs bf s k j=putF fs bf s k (j+1):=by
 refine List.map_congr_left fun q _=>?_
 by_cases e:q=j
 ·subst e
  rw [if_neg om_,if_pos om_,h0];grind
 ·by_cases h1:q<j
  ·rw [if_pos h1,if_pos om_]
  ·rw [if_neg h1,if_neg om_]
theorem putF_none {fs bf:List Rat}{s j:Nat}:putF fs bf s 0 j=putF fs bf s 0 0:=by
 refine List.map_congr_left fun q _=>?_
 split <;> split <;> grind
theorem putF_putL {fs bf:List Rat}{s:Nat}{c bc:Rat}(_hs:s<fs.length):Lp.putL ⟨c,fs⟩ s ⟨bc,bf⟩=⟨c+fs.getD s 0*bc,putF fs bf s (fs.getD s 0) fs.length⟩:=by
 unfold Lp.putL
 congr 1
 refine List.map_congr_left fun q hq=>?_
 rw [if_pos (List.mem_range.1 hq)];rfl
theorem zF_qb {fs:List Rat}{s q:Nat}(hf:∀ x∈fs,QB 10 x)(hq:q<fs.length):QB 10 (zF fs s q):=by
 unfold zF
 split
 ·exact ⟨by decide,by decide⟩
 ·rw [List.getD_eq_getElem?_getD,List.getElem?_eq_getElem hq];exact hf _ (List.getElem_mem _)
def encL (p:Rat × Value):List Value:=[strV (qtx p.1),p.2]
theorem encL_len:∀ p,(encL p).length=2:=fun _=>rfl
theorem line_get {ls:List (Rat × Value)}{i:Nat}{p:Rat × Value}(h:ls[i]?=some p):(ls.map encL).flatten.drop (i*2)=strV (qtx p.1)::p.2::(ls.map encL).flatten.drop (i*2+2):=by
 obtain ⟨h1,h2⟩:=List.getElem?_eq_some_iff.1 h
 have e:=(bB encL_len ls i).2
 have e2:=(bB encL_len ls (i+1)).2
 rw [Nat.add_mul] at e2
 rw [e,e2,List.drop_eq_getElem_cons h1,h2];rfl
theorem set_same {ls:List (Rat × Value)}{i:Nat}{p:Rat × Value}(h:ls[i]?=some p):ls.set i p=ls:=by
 refine List.ext_getElem? fun j=>?_
 rw [List.getElem?_set]
 split
 ·next e=>subst e;rw [if_pos (List.getElem?_eq_some_iff.1 h).1,h]
 ·rfl
theorem line_read0 {ls:List (Rat × Value)}{i:Nat}{p:Rat × Value}(h:ls[i]?=some p):((ls.map encL).flatten.drop (i*2)).take 1=[strV (qtx p.1)]:=by rw [line_get h];rfl
theorem line_read1 {ls:List (Rat × Value)}{i:Nat}{p:Rat × Value}(h:ls[i]?=some p):((ls.map encL).flatten.drop (i*2+1)).take 1=[p.2]:=by rw [<- List.drop_drop,line_get h];rfl
theorem line_write0 {ls:List (Rat × Value)}{i:Nat}{p:Rat × Value}(h:ls[i]?=some p)(c:Rat):aw (ls.map encL).flatten [strV (qtx c)] (i*2)=((ls.set i (c,p.2)).map encL).flatten:=by
 rw [<- aL encL_len (c,p.2) (List.getElem?_eq_some_iff.1 h).1]
 unfold aw
 have:(ls.map encL).flatten.drop (i*2+1)=p.2::(ls.map encL).flatten.drop (i*2+2):=by rw [<- List.drop_drop,line_get h];rfl
 show _++[_]++List.drop (i*2+1) _=_++[_,_]++List.drop (i*2+2) _
 rw [this];simp
theorem putW_fn (C:Mem)(hT:Tabs C)(bt bF cF n s:Nat)(v0 v1 v2 v3 sB:Value)(fs bf:List Rat)(c bc:Rat)(hfl:fs.length=n)(hbl:bf.length=n)(hs:s<n)(hB:Sl C 1 sB (bf.map encR))(qc:QB 10 c)(qf:∀ x∈fs,QB 10 x)(qbc:QB 10 bc)(qb:∀ x∈bf,QB 10 x) :
  Jog.Fn cx.P 162 [.pointer (some ⟨bt,4,none⟩),.int .i64 s,.agg ⟨[strV (qtx bc),sB]⟩] C [.obj bt (.cells ⟨[v0,v1,v2,v3,strV (qtx c),.slice (some ⟨bF,0,none⟩) n cF]⟩ 143 (0,0)),.arr (.slice (some ⟨bF,0,none⟩) n cF) 27 1 n (fs.map encR).flatten]
   fun u _ L'=>u=.tuple #[]/\L'=[.obj bt (.cells ⟨[v0,v1,v2,v3,strV (qtx (c+fs.getD s 0*bc)),.slice (some ⟨bF,0,none⟩) n cF]⟩ 143 (0,0)),.arr (.slice (some ⟨bF,0,none⟩) n cF) 27 1 n ((putF fs bf s (fs.getD s 0) n).map encR).flatten]:=by
 obtain ⟨AB,cB,rfl,hcA,hcB,_⟩:=id hB
 simp only [List.length_map] at hcA hB ⊢
 have hsf:s<fs.length:=by omega
 have hmx:maxLen<=9223372036854775807:=by simp [maxLen]
 obtain ⟨k,hk⟩:∃ k,fs.getD s 0=k:=⟨_,rfl⟩
 have hget:fs[s]?=some k:=by rw [<- hk,List.getD_eq_getElem?_getD,List.getElem?_eq_getElem hsf];rfl
 have qk:QB 10 k:=qf k (List.mem_of_getElem? hget)
 rw [hk]
 refine Fn.it kr_ Tryz.func162 64 fun w0=>?_
 refine G.aM (L':=[.obj bt (.cells ⟨[v0,v1,v2,v3,strV (qtx c),.slice (some ⟨bF,0,none⟩) n cF]⟩ 143 (0,0)),.arr (.slice (some ⟨bF,0,none⟩) n cF) 27 1 n (fs.map encR).flatten]) rfl ?_
 refine G.rg fun R hR=>?_
 refine D.aX (fun b5=>?_)
 refine D.e3 0 1 5 hR ?_;clear hR R
 refine G.freeze 0 rfl (fun C5 hle5 hb5=>?_)
 refine G.rp 3 fun R hR=>?_
 refine D.ah (.head _) ?_
 refine D.ae ?_
 refine D.aD (s*1) rfl rfl rfl rfl rfl rfl rfl rfl rfl rfl (fun _=>⟨by omega,by omega,rfl⟩) rfl rfl ?_
 refine D.aT (.tail _ (.head _)) rfl rfl rfl rfl rfl rfl (fun _=>(by rw [bU aU hget];rfl)) rfl rfl ?_
 refine D.q4 1 0 1 5 6 hR ?_;clear hR R
 refine G.rp 3 fun R hR=>?_
 refine D.ah (.head _) ?_
 refine D.ae ?_
 refine D.aD (s*1) rfl rfl rfl rfl rfl rfl rfl rfl rfl rfl (fun _=>⟨by omega,by omega,rfl⟩) rfl rfl ?_
 refine D.aE (j:=1) rfl rfl rfl rfl rfl rfl rfl rfl rfl rfl rfl (by show s*1+1<=_;rw [aW aU];omega) ?_
 refine D.e3 0 5 6 hR ?_;clear hR R
 refine G.perm (L':=[.obj bt (.cells ⟨[v0,v1,v2,v3,strV (qtx c),.slice (some ⟨bF,0,none⟩) n cF]⟩ 143 (0,0)),.arr (.slice (some ⟨bF,0,none⟩) n cF) 27 1 n ((putF fs bf s k 0).map encR).flatten]) (by rw [<- putF_zero,<- aL aU 0 hsf,enc0];exact List.Perm.swap _ _ _) ?_
 refine G.z4 2 0 5 6 23 ?_
 refine G.cd (fun h23=>?_) fun h23=>?_
 ·have h23':qtx k=[48]:=by simpa using h23
  have hk0:k=0:=qtx_eq (h23'.trans (by decide +kernel:([48]:List UInt8)=qtx 0))
  subst hk0
  have hc0:c+0*bc=c:=by grind
  refine G.aM (L':=[.obj bt (.cells ⟨[v0,v1,v2,v3,strV (qtx (c+0*bc)),.slice (some ⟨bF,0,none⟩) n cF]⟩ 143 (0,0)),.arr (.slice (some ⟨bF,0,none⟩) n cF) 27 1 n ((putF fs bf s 0 n).map encR).flatten]) (by rw [hc0,putF_none (j:=n)]) ?_
  refine G.ay (G.fin0 rfl  ?_)
  exact ⟨rfl,rfl⟩
 ·refine G.aH [0,1,2,3,4,5,6,7,8,9,10,11,12] [(8,1),(9,1)] rfl kr_ (fun R hB hR=>?_)
  refine D.ps 4 ?_
  refine D.ah (.head _) ?_
  refine D.ps 2 ?_
  refine D.ac (bkT hb5 1) ?_
  refine D.a6 (fun _=>(eG _ (hT.mono mup) k bc 10 (by decide) (by decide) qk qbc)) rfl rfl rfl rfl rfl rfl rfl rfl rfl ?_
  refine D.a6 (fun _=>(radd_fn _ (hT.mono mup) c (k*bc) 20 (by decide) (by decide) (qc.le (by decide)) ((dV qk qbc).le (by decide)))) rfl rfl rfl rfl rfl rfl rfl rfl rfl ?_
  refine D.ps 2 ?_
  refine D.ag (j:=0) ?_
  refine D.e3 0 5 6 hR ?_;clear hR hB R
  refine G.rp 1 fun R hR=>?_
  refine D.ac (bkT hb5 1) ?_
  refine D.q5 2 0 6 37 38 39 hR ?_;clear hR R
  refine G.loop (fun fr C' L' μ=>∃ (j:Nat),(j<=n)/\fr=[(0,[],.pointer (some ⟨bt,4,none⟩)),(6,[],strV (qtx k)),(37,[],.slice AB bf.length cB),(38,[],.int .i64 bf.length),(39,[],.int .i64 j)]/\L'=[.obj bt (.cells ⟨[v0,v1,v2,v3,strV (qtx (c+k*bc)),.slice (some ⟨bF,0,none⟩) n cF]⟩ 143 (0,0)),.arr (.slice (some ⟨bF,0,none⟩) n cF) 27 1 n ((putF fs bf s k j).map encR).flatten]/\μ=n-j) (h_5 0 6 37 38 39) ⟨0,Nat.zero_le _,rfl,rfl,rfl⟩ (fun fr C0' L0' m hle0 hI=>?_)
  obtain ⟨j,hj,rfl,rfl,rfl⟩:=hI
  refine G.z6 1 0 6 37 38 39 40 ?_
  refine G.cd (fun h40=>?_) fun h40=>?_
  ·have hjl:j<n:=by
    have:=of_decide_eq_true h40
    omega
   obtain ⟨x,hx⟩:∃ x,bf[j]?=some x:=⟨bf[j]'om_,List.getElem?_eq_getElem om_⟩
   have qx:QB 10 x:=qb x (List.mem_of_getElem? hx)
   have hgx:bf.getD j 0=x:=by rw [List.getD_eq_getElem?_getD,hx];rfl
   have hgj:(putF fs bf s k j)[j]?=some (zF fs s j):=by
    rw [putF_at om_,if_neg (Nat.lt_irrefl _)];congr 1;grind
   have qz:=zF_qb (s:=s) qf (show j<fs.length by omega)
   have hnx:=putF_set (bf:=bf) (s:=s) (k:=k) (show j<fs.length by omega)
   rw [hgx] at hnx
   refine G.rp 1 fun R hR=>?_
   refine D.ak (hB.mono mup) rfl rfl rfl rfl rfl rfl rfl rfl rfl rfl om_ (cQ hx) fl_ (fun p42 hp42=>?_)
   refine D.ac hp42 ?_
   refine D.q7 2 0 6 7 8 37 38 39 hR ?_;clear hR R
   refine G.z8 2 0 6 7 8 37 38 39 45 ?_
   refine G.cd (fun h45=>?_) fun h45=>?_
   ·refine G.aH [0,1,2,3,4,5,6,7,8,9,10,11,12,13,14,15,16,17] [(14,1),(15,1)] rfl kr_ (fun R hB hR=>?_)
    refine D.ps 3 ?_
    refine D.ah (.head _) ?_
    refine D.ps 4 ?_
    refine D.ah (.head _) ?_
    refine D.ae ?_
    refine D.aD (j*1) rfl rfl rfl rfl rfl rfl rfl rfl rfl rfl (fun _=>⟨by omega,by omega,rfl⟩) rfl rfl ?_
    refine D.aT (.tail _ (.head _)) rfl rfl rfl rfl rfl rfl (fun _=>(by rw [bU aU hgj];rfl)) rfl rfl ?_
    refine D.ps 2 ?_
    refine D.a6 (fun _=>(eG _ (hT.mono mup) k x 10 (by decide) (by decide) qk qx)) rfl rfl rfl rfl rfl rfl rfl rfl rfl ?_
    refine D.a6 (fun _=>(radd_fn _ (hT.mono mup) (zF fs s j) (k*x) 20 (by decide) (by decide) (qz.le (by decide)) ((dV qk qx).le (by decide)))) rfl rfl rfl rfl rfl rfl rfl rfl rfl ?_
    refine D.aD (j*1) rfl rfl rfl rfl rfl rfl rfl rfl rfl rfl (fun _=>⟨by omega,by omega,rfl⟩) rfl rfl ?_
    refine D.aE (j:=1) rfl rfl rfl rfl rfl rfl rfl rfl rfl rfl rfl (by show j*1+1<=_;rw [aW aU,eH];omega) ?_
    refine D.e5 0 6 37 38 39 hR ?_;clear hR hB R
    refine G.rg fun R hR=>?_
    refine D.aq _ ?_
    refine D.q5 1 0 6 37 38 39 hR ?_;clear hR R
    refine G.perm (L':=[.obj bt (.cells ⟨[v0,v1,v2,v3,strV (qtx (c+k*bc)),.slice (some ⟨bF,0,none⟩) n cF]⟩ 143 (0,0)),.arr (.slice (some ⟨bF,0,none⟩) n cF) 27 1 n ((putF fs bf s k (j+1)).map encR).flatten]) (by rw [<- hnx,<- aL aU _ (by rw [eH];omega)];exact List.Perm.swap _ _ _) ?_
    refine G.ap (m':=n-(j+1)) om_ hle0 (h_5 0 6 37 38 39) ⟨j+1,om_,rfl,rfl,rfl⟩
   ·have hx0:x=0:=by
     have h45':qtx x=[48]:=by simpa using h45
     exact qtx_eq (h45'.trans (by decide +kernel:([48]:List UInt8)=qtx 0))
    rw [putF_next (j:=j) (by rw [hgx];exact hx0)]
    refine G.rg fun R hR=>?_
    refine D.aq _ ?_
    refine D.q5 1 0 6 37 38 39 hR ?_;clear hR R
    refine G.ap (m':=n-(j+1)) om_ hle0 (h_5 0 6 37 38 39) ⟨j+1,om_,rfl,rfl,rfl⟩
  ·have hjl:j=n:=by
    have:=of_decide_eq_false h40
    omega
   rw [hjl]
   refine G.end0 rfl ?_
   exact ⟨rfl,rfl⟩
theorem putL_fn (C:Mem)(hT:Tabs C)(bL m cL i bF cF n s:Nat)(sB:Value)(ls:List (Rat × Value))(fs bf:List Rat)(c bc:Rat)(hml:ls.length=m)(hli:ls[i]?=some (c,.slice (some ⟨bF,0,none⟩) n cF))(hfl:fs.length=n)(hbl:bf.length=n)(hs:s<n)(hB:Sl C 1 sB (bf.map encR))(qc:QB 10 c)(qf:∀ x∈fs,QB 10 x)(qbc:QB 10 bc)(qb:∀ x∈bf,QB 10 x) :
  Jog.Fn cx.P 162 [.pointer (some ⟨bL,i*2,none⟩),.int .i64 s,.agg ⟨[strV (qtx bc),sB]⟩] C [.arr (.slice (some ⟨bL,0,none⟩) m cL) 140 2 m (ls.map encL).flatten,.arr (.slice (some ⟨bF,0,none⟩) n cF) 27 1 n (fs.map encR).flatten]
   fun u _ L'=>u=.tuple #[]/\L'=[.arr (.slice (some ⟨bL,0,none⟩) m cL) 140 2 m ((ls.set i (c+fs.getD s 0*bc,.slice (some ⟨bF,0,none⟩) n cF)).map encL).flatten,.arr (.slice (some ⟨bF,0,none⟩) n cF) 27 1 n ((putF fs bf s (fs.getD s 0) n).map encR).flatten]:=by
 obtain ⟨AB,cB,rfl,hcA,hcB,_⟩:=id hB
 simp only [List.length_map] at hcA hB ⊢
 have hsf:s<fs.length:=by omega
 have hmx:maxLen<=9223372036854775807:=by simp [maxLen]
 obtain ⟨k,hk⟩:∃ k,fs.getD s 0=k:=⟨_,rfl⟩
 have hget:fs[s]?=some k:=by rw [<- hk,List.getD_eq_getElem?_getD,List.getElem?_eq_getElem hsf];rfl
 have qk:QB 10 k:=qf k (List.mem_of_getElem? hget)
 rw [hk]
 refine Fn.it kr_ Tryz.func162 64 fun w0=>?_
 refine G.aM (L':=[.arr (.slice (some ⟨bL,0,none⟩) m cL) 140 2 m (ls.map encL).flatten,.arr (.slice (some ⟨bF,0,none⟩) n cF) 27 1 n (fs.map encR).flatten]) rfl ?_
 refine G.rg fun R hR=>?_
 refine D.aX (fun b5=>?_)
 refine D.e3 0 1 5 hR ?_;clear hR R
 refine G.freeze 0 rfl (fun C5 hle5 hb5=>?_)
 refine G.rp 3 fun R hR=>?_
 refine D.aT (.head _) rfl rfl rfl rfl rfl rfl (fun _=>(by rw [line_read1 hli];rfl)) rfl rfl ?_
 refine D.ae ?_
 refine D.aD (s*1) rfl rfl rfl rfl rfl rfl rfl rfl rfl rfl (fun _=>⟨by omega,by omega,rfl⟩) rfl rfl ?_
 refine D.aT (.tail _ (.head _)) rfl rfl rfl rfl rfl rfl (fun _=>(by rw [bU aU hget];rfl)) rfl rfl ?_
 refine D.q4 1 0 1 5 6 hR ?_;clear hR R
 refine G.rp 3 fun R hR=>?_
 refine D.aT (.head _) rfl rfl rfl rfl rfl rfl (fun _=>(by rw [line_read1 hli];rfl)) rfl rfl ?_
 refine D.ae ?_
 refine D.aD (s*1) rfl rfl rfl rfl rfl rfl rfl rfl rfl rfl (fun _=>⟨by omega,by omega,rfl⟩) rfl rfl ?_
 refine D.aE (j:=1) rfl rfl rfl rfl rfl rfl rfl rfl rfl rfl rfl (by show s*1+1<=_;rw [aW aU];omega) ?_
 refine D.e3 0 5 6 hR ?_;clear hR R
 refine G.perm (L':=[.arr (.slice (some ⟨bL,0,none⟩) m cL) 140 2 m (ls.map encL).flatten,.arr (.slice (some ⟨bF,0,none⟩) n cF) 27 1 n ((putF fs bf s k 0).map encR).flatten]) (by rw [<- putF_zero,<- aL aU 0 hsf,enc0];exact List.Perm.swap _ _ _) ?_
 refine G.z4 2 0 5 6 23 ?_
 refine G.cd (fun h23=>?_) fun h23=>?_
 ·have h23':qtx k=[48]:=by simpa using h23
  have hk0:k=0:=qtx_eq (h23'.trans (by decide +kernel:([48]:List UInt8)=qtx 0))
  subst hk0
  have hc0:c+0*bc=c:=by grind
  refine G.aM (L':=[.arr (.slice (some ⟨bL,0,none⟩) m cL) 140 2 m ((ls.set i (c+0*bc,.slice (some ⟨bF,0,none⟩) n cF)).map encL).flatten,.arr (.slice (some ⟨bF,0,none⟩) n cF) 27 1 n ((putF fs bf s 0 n).map encR).flatten]) (by rw [hc0,putF_none (j:=n),set_same hli]) ?_
  refine G.ay (G.fin0 rfl  ?_)
  exact ⟨rfl,rfl⟩
 ·refine G.aH [0,1,2,3,4,5,6,7,8,9,10,11,12] [(8,1),(9,1)] rfl kr_ (fun R hB hR=>?_)
  refine D.ps 4 ?_
  refine D.aT (.head _) rfl rfl rfl rfl rfl rfl (fun _=>(by rw [line_read0 hli];rfl)) rfl rfl ?_
  refine D.ps 2 ?_
  refine D.ac (bkT hb5 1) ?_
  refine D.a6 (fun _=>(eG _ (hT.mono mup) k bc 10 (by decide) (by decide) qk qbc)) rfl rfl rfl rfl rfl rfl rfl rfl rfl ?_
  refine D.a6 (fun _=>(radd_fn _ (hT.mono mup) c (k*bc) 20 (by decide) (by decide) (qc.le (by decide)) ((dV qk qbc).le (by decide)))) rfl rfl rfl rfl rfl rfl rfl rfl rfl ?_
  refine D.ps 2 ?_
  refine D.aE (j:=0) rfl rfl rfl rfl rfl rfl rfl rfl rfl rfl rfl (by show i*2+1<=_;rw [aW encL_len];have:=(List.getElem?_eq_some_iff.1 hli).1;omega) ?_
  refine D.e3 0 5 6 hR ?_;clear hR hB R
  refine G.aM (L':=[.arr (.slice (some ⟨bL,0,none⟩) m cL) 140 2 m ((ls.set i (c+k*bc,.slice (some ⟨bF,0,none⟩) n cF)).map encL).flatten,.arr (.slice (some ⟨bF,0,none⟩) n cF) 27 1 n ((putF fs bf s k 0).map encR).flatten]) (by rw [<- line_write0 hli];rfl) ?_
  have hli2:(ls.set i (c+k*bc,Value.slice (some ⟨bF,0,none⟩) n cF))[i]?=some (c+k*bc,Value.slice (some ⟨bF,0,none⟩) n cF):=List.getElem?_set_self (List.getElem?_eq_some_iff.1 hli).1
  refine G.rp 1 fun R hR=>?_
  refine D.ac (bkT hb5 1) ?_
  refine D.q5 2 0 6 37 38 39 hR ?_;clear hR R
  refine G.loop (fun fr C' L' μ=>∃ (j:Nat),(j<=n)/\fr=[(0,[],.pointer (some ⟨bL,i*2,none⟩)),(6,[],strV (qtx k)),(37,[],.slice AB bf.length cB),(38,[],.int .i64 bf.length),(39,[],.int .i64 j)]/\L'=[.arr (.slice (some ⟨bL,0,none⟩) m cL) 140 2 m ((ls.set i (c+k*bc,.slice (some ⟨bF,0,none⟩) n cF)).map encL).flatten,.arr (.slice (some ⟨bF,0,none⟩) n cF) 27 1 n ((putF fs bf s k j).map encR).flatten]/\μ=n-j) (h_5 0 6 37 38 39) ⟨0,Nat.zero_le _,rfl,rfl,rfl⟩ (fun fr C0' L0' m hle0 hI=>?_)
  obtain ⟨j,hj,rfl,rfl,rfl⟩:=hI
  refine G.z6 1 0 6 37 38 39 40 ?_
  refine G.cd (fun h40=>?_) fun h40=>?_
  ·have hjl:j<n:=by
    have:=of_decide_eq_true h40
    omega
   obtain ⟨x,hx⟩:∃ x,bf[j]?=some x:=⟨bf[j]'om_,List.getElem?_eq_getElem om_⟩
   have qx:QB 10 x:=qb x (List.mem_of_getElem? hx)
   have hgx:bf.getD j 0=x:=by rw [List.getD_eq_getElem?_getD,hx];rfl
   have hgj:(putF fs bf s k j)[j]?=some (zF fs s j):=by
    rw [putF_at om_,if_neg (Nat.lt_irrefl _)];congr 1;grind
   have qz:=zF_qb (s:=s) qf (show j<fs.length by omega)
   have hnx:=putF_set (bf:=bf) (s:=s) (k:=k) (show j<fs.length by omega)
   rw [hgx] at hnx
   refine G.rp 1 fun R hR=>?_
   refine D.ak (hB.mono mup) rfl rfl rfl rfl rfl rfl rfl rfl rfl rfl om_ (cQ hx) fl_ (fun p42 hp42=>?_)
   refine D.ac hp42 ?_
   refine D.q7 2 0 6 7 8 37 38 39 hR ?_;clear hR R
   refine G.z8 2 0 6 7 8 37 38 39 45 ?_
   refine G.cd (fun h45=>?_) fun h45=>?_
   ·refine G.aH [0,1,2,3,4,5,6,7,8,9,10,11,12,13,14,15,16,17] [(14,1),(15,1)] rfl kr_ (fun R hB hR=>?_)
    refine D.ps 3 ?_
    refine D.aT (.head _) rfl rfl rfl rfl rfl rfl (fun _=>(by rw [line_read1 hli2];rfl)) rfl rfl ?_
    refine D.ps 4 ?_
    refine D.aT (.head _) rfl rfl rfl rfl rfl rfl (fun _=>(by rw [line_read1 hli2];rfl)) rfl rfl ?_
    refine D.ae ?_
    refine D.aD (j*1) rfl rfl rfl rfl rfl rfl rfl rfl rfl rfl (fun _=>⟨by omega,by omega,rfl⟩) rfl rfl ?_
    refine D.aT (.tail _ (.head _)) rfl rfl rfl rfl rfl rfl (fun _=>(by rw [bU aU hgj];rfl)) rfl rfl ?_
    refine D.ps 2 ?_
    refine D.a6 (fun _=>(eG _ (hT.mono mup) k x 10 (by decide) (by decide) qk qx)) rfl rfl rfl rfl rfl rfl rfl rfl rfl ?_
    refine D.a6 (fun _=>(radd_fn _ (hT.mono mup) (zF fs s j) (k*x) 20 (by decide) (by decide) (qz.le (by decide)) ((dV qk qx).le (by decide)))) rfl rfl rfl rfl rfl rfl rfl rfl rfl ?_
    refine D.aD (j*1) rfl rfl rfl rfl rfl rfl rfl rfl rfl rfl (fun _=>⟨by omega,by omega,rfl⟩) rfl rfl ?_
    refine D.aE (j:=1) rfl rfl rfl rfl rfl rfl rfl rfl rfl rfl rfl (by show j*1+1<=_;rw [aW aU,eH];omega) ?_
    refine D.e5 0 6 37 38 39 hR ?_;clear hR hB R
    refine G.rg fun R hR=>?_
    refine D.aq _ ?_
    refine D.q5 1 0 6 37 38 39 hR ?_;clear hR R
    refine G.perm (L':=[.arr (.slice (some ⟨bL,0,none⟩) m cL) 140 2 m ((ls.set i (c+k*bc,.slice (some ⟨bF,0,none⟩) n cF)).map encL).flatten,.arr (.slice (some ⟨bF,0,none⟩) n cF) 27 1 n ((putF fs bf s k (j+1)).map encR).flatten]) (by rw [<- hnx,<- aL aU _ (by rw [eH];omega)];exact List.Perm.swap _ _ _) ?_
    refine G.ap (m':=n-(j+1)) om_ hle0 (h_5 0 6 37 38 39) ⟨j+1,om_,rfl,rfl,rfl⟩
   ·have hx0:x=0:=by
     have h45':qtx x=[48]:=by simpa using h45
     exact qtx_eq (h45'.trans (by decide +kernel:([48]:List UInt8)=qtx 0))
    rw [putF_next (j:=j) (by rw [hgx];exact hx0)]
    refine G.rg fun R hR=>?_
    refine D.aq _ ?_
    refine D.q5 1 0 6 37 38 39 hR ?_;clear hR R
    refine G.ap (m':=n-(j+1)) om_ hle0 (h_5 0 6 37 38 39) ⟨j+1,om_,rfl,rfl,rfl⟩
  ·have hjl:j=n:=by
    have:=of_decide_eq_false h40
    omega
   rw [hjl]
   refine G.end0 rfl ?_
   exact ⟨rfl,rfl⟩

def dotQ (a b:List Rat)(n:Nat):Rat:=Lp.sumN (fun k=>a.getD k 0*b.getD k 0) n
theorem dotQ_qb {a b:List Rat}(ha:∀ x∈a,QB 23 x)(hb:∀ x∈b,QB 23 x):∀ i,QB (48*(i+1)) (dotQ a b i)
 | 0=>(show QB 1 (0:Rat) from ⟨by decide,by decide⟩).le om_
 | i+1=>(pQB_add (dotQ_qb ha hb i) (dV (getD_q (j:=i) ha) (getD_q (j:=i) hb))).le om_
theorem dotQ_next {a b:List Rat}{i:Nat}{x y:Rat}(hx:a[i]?=some x)(hy:b[i]?=some y):dotQ a b (i+1)=dotQ a b i+x*y:=by
 unfold dotQ
 simp only [Lp.sumN]
 rw [List.getD_eq_getElem?_getD,hx,List.getD_eq_getElem?_getD,hy];rfl
theorem dot_fn (C:Mem)(hT:Tabs C)(va vb:Value)(a b:List Rat)(ha:Sl C 1 va (a.map encR))(hb:Sl C 1 vb (b.map encR))(hl:b.length=a.length)(hn:a.length<=150)(qa:∀ x∈a,QB 23 x)(qb:∀ x∈b,QB 23 x) :
  Gives cx.P 37 [va,vb] C (strV (qtx (dotQ a b a.length))):=by
 obtain ⟨A1,c1,rfl,h11,h12,_⟩:=id ha
 obtain ⟨A2,c2,rfl,h21,h22,_⟩:=id hb
 have hmx:maxLen<=9223372036854775807:=by simp [maxLen]
 simp only [List.length_map] at ha hb h11 h21 ⊢
 refine Fn.it kr_ Tryz.func37 37 fun w0=>?_
 refine G.z2 1 0 1 ?_
 refine G.z3 1 0 1 5 ?_
 refine G.z5 3 0 1 5 8 9 ?_
 have e0:Value.string ⟨#[48]⟩=strV (qtx (dotQ a b 0)):=by
  show _=strV (qtx 0)
  rw [qtx0];rfl
 rw [e0]
 refine G.loop (fun fr C' L' μ=>∃ (i:Nat),(i<=a.length)/\fr=[(0,[],.slice A1 a.length c1),(1,[],.slice A2 b.length c2),(5,[],strV (qtx (dotQ a b i))),(8,[],.int .i64 a.length),(9,[],.int .i64 i)]/\L'=[]/\μ=a.length-i) (h_5 0 1 5 8 9) ⟨0,Nat.zero_le _,rfl,rfl,rfl⟩ (fun fr C0' L0' m hle0 hI=>?_)
 obtain ⟨i,hi,rfl,rfl,rfl⟩:=hI
 refine G.z6 1 0 1 5 8 9 10 ?_
 refine G.cd (fun h10=>?_) fun h10=>?_
 ·have hil:i<a.length:=by
   have:=of_decide_eq_true h10
   omega
  obtain ⟨x,hx⟩:∃ x,a[i]?=some x:=⟨a[i]'om_,List.getElem?_eq_getElem om_⟩
  obtain ⟨y,hy⟩:∃ y,b[i]?=some y:=⟨b[i]'om_,List.getElem?_eq_getElem om_⟩
  have qx:QB 23 x:=qa x (List.mem_of_getElem? hx)
  have qy:QB 23 y:=qb y (List.mem_of_getElem? hy)
  have hbq:=dotQ_qb qa qb i
  have hnx:=dotQ_next hx hy
  refine G.z6 2 0 1 5 6 8 9 ?_
  refine G.rp 2 fun R hR=>?_
  refine D.ak (ha.mono mup) rfl rfl rfl rfl rfl rfl rfl rfl rfl rfl om_ (cQ hx) fl_ (fun p14 hp14=>?_)
  refine D.ac hp14 ?_
  refine D.ps 4 ?_
  refine D.index rfl rfl rfl rfl rfl rfl rfl rfl rfl rfl (fun hg=>⟨hb.mono mup,by omega,cQ hy⟩) fl_ rfl (fun p20 hp20=>?_)
  refine D.aK rfl rfl rfl rfl rfl rfl hp20 rfl rfl rfl ?_
  refine D.ae ?_
  refine D.au ?_
  refine D.e7 0 1 5 6 8 9 23 hR ?_
  refine G.cd (fun h23=>?_) fun h23=>?_
  ·refine G.aH [0,1,2,3,4,5,6,7,8,9,10,11] [(9,1),(10,1)] rfl kr_ (fun R hB hR=>?_)
   refine D.ps 3 ?_
   refine D.ak (ha.mono mup) rfl rfl rfl rfl rfl rfl rfl rfl rfl rfl om_ (cQ hx) fl_ (fun p27 hp27=>?_)
   refine D.ac hp27 ?_
   refine D.ps 2 ?_
   refine D.ak (hb.mono mup) rfl rfl rfl rfl rfl rfl rfl rfl rfl rfl om_ (cQ hy) fl_ (fun p31 hp31=>?_)
   refine D.ac hp31 ?_
   refine D.a6 (fun _=>(eG _ (hT.mono mup) x y 23 (by decide) (by decide) qx qy)) rfl rfl rfl rfl rfl rfl rfl rfl rfl ?_
   refine D.a6 (fun _=>(radd_fn _ (hT.mono mup) (dotQ a b i) (x*y) (48*(i+1)) om_ om_ hbq ((dV qx qy).le om_))) rfl rfl rfl rfl rfl rfl rfl rfl rfl ?_
   refine D.q5 1 0 1 5 8 9 hR ?_
   refine G.rg fun R hR=>?_
   refine D.aq _ ?_
   refine D.q5 1 0 1 5 8 9 hR ?_
   rw [<- hnx]
   refine G.ap (m':=a.length-(i+1)) om_ hle0 (h_5 0 1 5 8 9) ⟨i+1,om_,rfl,rfl,rfl⟩
  ·have h0:x*y=0:=by
    simp only [Bool.and_eq_false_iff] at h23
    rcases h23 with h | h
    ·have h':qtx x=qtx (dotQ a b 0):=by simpa using h
     rw [qtx_eq h',show dotQ a b 0=0 from rfl];grind
    ·have h':qtx y=qtx (dotQ a b 0):=by simpa using h
     rw [qtx_eq h',show dotQ a b 0=0 from rfl];grind
   have h1:dotQ a b i=dotQ a b (i+1):=by rw [hnx,h0];grind
   rw [h1]
   refine G.rg fun R hR=>?_
   refine D.aq _ ?_
   refine D.q5 1 0 1 5 8 9 hR ?_
   refine G.ap (m':=a.length-(i+1)) om_ hle0 (h_5 0 1 5 8 9) ⟨i+1,om_,rfl,rfl,rfl⟩
 ·have hil:i=a.length:=by
   have:=of_decide_eq_false h10
   omega
  refine G.z1 2 4 ?_
  refine G.rf ?_
  exact ⟨by rw [hil],rfl⟩

structure RV where
 A:Option Addr
 n:Nat
 c:Nat
 s:Str
def RV.enc (r:RV):List Value:=[.slice r.A r.n r.c,strV r.s]
def RowsIn (C:Mem)(v:Value)(rows:List (List Str × Str)):Prop:=∃ rs:List RV,Sl C 2 v (rs.map RV.enc)/\rs.length=rows.length/\∀ (i:Nat)(r:RV)(row:List Str × Str),rs[i]?=some r->rows[i]?=some row->Sl C 1 (.slice r.A r.n r.c) (row.1.map encS)/\r.s=row.2
theorem RowsIn.mono {C D:Mem}{v:Value}{rows:List (List Str × Str)}(h:RowsIn C v rows)(hl:C.le D):RowsIn D v rows:=by
 obtain ⟨rs,h1,h2,h3⟩:=h
 exact ⟨rs,h1.mono hl,h2,fun i r row hr hw=>⟨(h3 i r row hr hw).1.mono hl,(h3 i r row hr hw).2⟩⟩
structure SV where
 A:Option Addr
 n:Nat
 c:Nat
def SV.enc (x:SV):List Value:=[.slice x.A x.n x.c]
def FrLL (C:Mem)(xs:List SV)(fs:List (List Rat)):Prop:=xs.length=fs.length/\∀ (i:Nat)(x:SV)(f:List Rat),xs[i]?=some x->fs[i]?=some f->FrL C (.slice x.A x.n x.c) f
theorem FrLL.mono {C D:Mem}{xs:List SV}{fs:List (List Rat)}(h:FrLL C xs fs)(hl:C.le D):FrLL D xs fs:=⟨h.1,fun i x f h1 h2=>(h.2 i x f h1 h2).mono hl⟩
theorem FrLL.nil (C:Mem):FrLL C [] []:=⟨rfl,fun i x q h=>by simp at h⟩
theorem FrLL.snoc {C:Mem}{xs:List SV}{fs:List (List Rat)}{x:SV}{f:List Rat}(h:FrLL C xs fs)(hx:FrL C (.slice x.A x.n x.c) f):FrLL C (xs++[x]) (fs++[f]):=by
 have hl:xs.length=fs.length:=h.1
 refine ⟨by simp [hl],fun i y p h1 h2=>?_⟩
 rcases Nat.lt_or_ge i xs.length with hi | hi
 ·rw [List.getElem?_append_left hi] at h1
  rw [List.getElem?_append_left om_] at h2
  exact h.2 i y p h1 h2
 ·rw [List.getElem?_append_right hi] at h1
  rw [List.getElem?_append_right om_,<- hl] at h2
  cases hk:i-xs.length with
  | zero =>
   rw [hk] at h1 h2
   simp at h1 h2
   subst h1 h2
   exact hx
  | succ k=>rw [hk] at h1;simp at h1
def rowM (n:Int)(row:List Str × Str):Option (List Rat × Rat) :=
 match aN row.1,bP row.2 with
 | some f,some b=>if (f.length:Int)=n then some (f,b) else none
 | _,_=>none
def cP (n:Int):List (List Str × Str)->Option (List (List Rat × Rat))
 | []=>some []
 | s::l=>match rowM n s,cP n l with
  | some q,some qs=>some (q::qs)
  | _,_=>none
theorem rowsM_snoc (n:Int):∀ (l:List (List Str × Str))(s:List Str × Str),cP n (l++[s])=match cP n l,rowM n s with
  | some qs,some q=>some (qs++[q])
  | _,_=>none
 | [],s=>by
  simp only [List.nil_append,cP]
  cases rowM n s <;> rfl
 | a::l,s=>by
  simp only [List.cons_append,cP,rowsM_snoc n l s]
  cases rowM n a <;> cases cP n l <;> cases rowM n s <;> rfl
theorem rowsM_none {n:Int}:∀ {l:List (List Str × Str)}{s:List Str × Str},s∈l->rowM n s=none->cP n l=none
 | a::l,s,hs,h=>by
  simp only [cP]
  rcases List.mem_cons.1 hs with rfl | h2
  ·rw [h]
  ·rw [rowsM_none h2 h]
   cases rowM n a <;> rfl
def cA (n:Int)(rows:List (List Str × Str))(d:List Str):Option (List (List Rat × Rat) × List Rat) :=
 match cP n rows,aN d with
 | some ps,some ms=>if ms.length=rows.length/\ms.any (fun q=>decide (q.num<0))=false then some (ps,ms) else none
 | _,_=>none
structure YV where
 A:Option Addr
 n:Nat
 c:Nat
 A2:Option Addr
 n2:Nat
 c2:Nat
 A3:Option Addr
 n3:Nat
 c3:Nat
def YV.enc (y:YV):List Value:=[.slice y.A y.n y.c,.slice y.A2 y.n2 y.c2,.slice y.A3 y.n3 y.c3]
def SysC (C:Mem)(y:YV)(ps:List (List Rat × Rat))(ms:List Rat):Prop:=(∃ xs:List SV,Sl C 1 (.slice y.A y.n y.c) (xs.map SV.enc)/\FrLL C xs (ps.map (·.1)))/\FrL C (.slice y.A2 y.n2 y.c2) (ps.map (·.2))/\FrL C (.slice y.A3 y.n3 y.c3) ms
abbrev sA (A:Option Addr)(n c:Nat):Value:=.slice A n c
abbrev sB (A:Option Addr)(n c:Nat):Value:=.slice A n c
def negD (d:List Str):Bool:=match aN d with
 | some ms=>ms.any fun q=>decide (q.num<0)
 | none=>false
theorem RowsF.any {C:Mem}:∀ {xs:List FV}{qs:List Rat},RowsF C xs qs->(xs.any fun x=>x.b)=qs.any fun q=>decide (q.num<0)
 | [],[],_=>rfl
 | [],_::_,h=>by have:=h.1;simp at this
 | _::_,[],h=>by have:=h.1;simp at this
 | x::xs,q::qs,h=>by
  have h1:x.b=decide (q.num<0):=by
   obtain ⟨u,w,e,_⟩:=h.2 0 x q rfl rfl
   simp [FV.enc,encF] at e
   exact e.1
  have h2:RowsF C xs qs:=⟨by have:=h.1;simpa using this,fun i y p hy hp=>h.2 (i+1) y p (by simpa using hy) (by simpa using hp)⟩
  simp only [List.any_cons,h1,RowsF.any h2]
theorem contNeg {C:Mem}{v:Value}{ms:List Rat}(h:FrL C v ms):Gives cx.P 30 [v,.func (.func 62) #[] #[]] C (.bool (ms.any fun q=>decide (q.num<0))):=by
 obtain ⟨xs,h1,h2⟩:=h
 rw [<- h2.any]
 exact contFr_fn C v xs _ [] (fun x=>x.b) h1 (fun x _ C' _=>open1_fn C' x)
theorem or_no {a b:Bool}(h:(!a || b)=false):a=true:=by cases a <;> simp_all
def cqX0 (xs:List SV)(ys:List FV)(Ad:Option Addr)(nd cd i b5 b6 b9 b12:Nat)(A10:Option Addr)(n10 c10:Nat)(x:FV)(r:RV)(A49:Option Addr)(n49 c49:Nat)(A54:Option Addr)(n54 c54:Nat):List Ent:=[.arr (sA A49 n49 c49) 75 1 (i+1) ((xs.map SV.enc).flatten++[[.slice A10 n10 c10]].flatten),.arr (sB A54 n54 c54) 86 3 (i+1) ((ys.map FV.enc).flatten++[x.enc].flatten),.obj b6 (.cells ⟨(YV.mk A49 n49 c49 A54 n54 c54 none 0 0).enc⟩ 80 (0,0)),.obj b5 (.cells ⟨[.slice Ad nd cd]⟩ 38 (0,0)),.obj b12 (.cells ⟨x.enc⟩ 86 (0,0)),.obj b9 (.cells ⟨r.enc⟩ 59 (0,0))]
def cqX1 (xs:List SV)(ys:List FV)(Ad:Option Addr)(nd cd i b5 b6 _b9 _b12:Nat)(A10:Option Addr)(n10 c10:Nat)(x:FV)(_r:RV)(A49:Option Addr)(n49 c49:Nat)(A54:Option Addr)(n54 c54:Nat):List Ent:=[.arr (sA A49 n49 c49) 75 1 (i+1) ((xs++[SV.mk A10 n10 c10]).map SV.enc).flatten,.arr (sB A54 n54 c54) 86 3 (i+1) ((ys++[x]).map FV.enc).flatten,.obj b6 (.cells ⟨(YV.mk A49 n49 c49 A54 n54 c54 none 0 0).enc⟩ 80 (0,0)),.obj b5 (.cells ⟨[.slice Ad nd cd]⟩ 38 (0,0))]
theorem br {F:Fx}{k:List KI}{fr:Fr}{e:Exit}{C:Mem}{xs:List SV}{ys:List FV}{Ad:Option Addr}{nd cd i b5 b6 b9 b12:Nat}{A10:Option Addr}{n10 c10:Nat}{x:FV}{r:RV}{A49:Option Addr}{n49 c49:Nat}{A54:Option Addr}{n54 c54:Nat}(h:G F k e fr C (cqX1 xs ys Ad nd cd i b5 b6 b9 b12 A10 n10 c10 x r A49 n49 c49 A54 n54 c54)):G F k e fr C (cqX0 xs ys Ad nd cd i b5 b6 b9 b12 A10 n10 c10 x r A49 n49 c49 A54 n54 c54):=by
 refine G.dropE 4 rfl (G.dropE 4 rfl ?_)
 refine G.aM (L':=cqX1 xs ys Ad nd cd i b5 b6 b9 b12 A10 n10 c10 x r A49 n49 c49 A54 n54 c54) (by simp [cqX0,cqX1,SV.enc]) h
theorem copen_fn (C:Mem)(v:Value)(n:Int)(Ad:Option Addr)(nd cd:Nat)(rows:List (List Str × Str))(d:List Str)(hv:RowsIn C v rows)(hd:Sl C 1 (.slice Ad nd cd) (d.map encS))(hl:rows.length<=10000)(hf:∀ r∈rows,r.1.length<=1000000/\(∀ s∈r.1,s.length<1000000)/\r.2.length<1000000)(hdl:d.length<=1000000)(hds:∀ s∈d,s.length<1000000) :
  Pur cx.P 24 [v,.int .i64 n,.agg ⟨[.slice Ad nd cd]⟩] C fun u D=>∃ y:YV,u=.tuple #[.agg ⟨y.enc⟩,.bool (cA n rows d).isSome]/\∀ ps ms,cA n rows d=some (ps,ms)->SysC D y ps ms:=by
 obtain ⟨rs,hsv,hrl,hrs⟩:=hv
 obtain ⟨A0,c0,rfl,hlx,hlx2,_⟩:=id hsv
 have hmx:maxLen<=9223372036854775807:=by simp [maxLen]
 simp only [List.length_map] at hsv hlx hlx2 ⊢
 refine Fn.it kr_ Tryz.func24 82 fun w0=>?_
 refine G.rg fun R hR=>?_
 refine D.aX (fun b5=>?_)
 refine D.aC (fun b6=>?_)
 refine D.q4 1 0 1 5 6 hR ?_
 refine G.z7 3 0 1 5 6 14 15 16 ?_
 refine G.nilArr 86 3 ?_
 refine G.nilArr 75 1 ?_
 refine G.perm (L':=[.arr (sA none 0 0) 75 1 0 [],.arr (sB none 0 0) 86 3 0 [],.obj b6 (.cells ⟨(YV.mk none 0 0 none 0 0 none 0 0).enc⟩ 80 (0,0)),.obj b5 (.cells ⟨[.slice Ad nd cd]⟩ 38 (0,0))]) (pkL [0,0,0,0] rfl) ?_
 refine G.loop (fun fr C' L' μ=>∃ (i:Nat)(ps:List (List Rat × Rat))(xs:List SV)(ys:List FV)(A1:Option Addr)(n1 c1:Nat)(A2:Option Addr)(n2 c2:Nat),(i<=rows.length/\cP n (rows.take i)=some ps/\FrLL C' xs (ps.map (·.1))/\RowsF C' ys (ps.map (·.2))/\xs.length=i/\ys.length=i)/\fr=[(0,[],.slice A0 rs.length c0),(1,[],.int .i64 n),(5,[],.pointer (some ⟨b5,0,none⟩)),(6,[],.pointer (some ⟨b6,0,none⟩)),(14,[],.slice A0 rs.length c0),(15,[],.int .i64 rs.length),(16,[],.int .i64 i)]/\L'=[.arr (sA A1 n1 c1) 75 1 i (xs.map SV.enc).flatten,.arr (sB A2 n2 c2) 86 3 i (ys.map FV.enc).flatten,.obj b6 (.cells ⟨(YV.mk A1 n1 c1 A2 n2 c2 none 0 0).enc⟩ 80 (0,0)),.obj b5 (.cells ⟨[.slice Ad nd cd]⟩ 38 (0,0))]/\μ=rows.length-i) (h_7 0 1 5 6 14 15 16) ⟨0,[],[],[],_,_,_,_,_,_,⟨Nat.zero_le _,rfl,FrLL.nil _,RowsF.nil _,rfl,rfl⟩,rfl,rfl,rfl⟩ (fun fr C0' L0' m hle0 hI=>?_)
 obtain ⟨i,ps,xs,ys,A1,n1,c1,A2,n2,c2,⟨hi,hps,hxs,hys,hxl,hyl⟩,rfl,rfl,rfl⟩:=hI
 refine G.z8 1 0 1 5 6 14 15 16 17 ?_
 refine G.cd (fun h17=>?_) fun h17=>?_
 ·have hil:i<rs.length:=by simpa using h17
  obtain ⟨r,hr0⟩:∃ r,rs[i]?=some r:=⟨rs[i],List.getElem?_eq_getElem hil⟩
  obtain ⟨row,hw0⟩:∃ row,rows[i]?=some row:=⟨rows[i]'om_,List.getElem?_eq_getElem _⟩
  obtain ⟨hrf,hrb⟩:=hrs i r row hr0 hw0
  have hrow:(rs.map RV.enc)[i]?=some r.enc:=by rw [List.getElem?_map,hr0];rfl
  have hfr:=hf row (List.mem_of_getElem? hw0)
  have htk:rows.take (i+1)=rows.take i++[row]:=by rw [List.take_add_one,hw0];rfl
  refine G.rg fun R hR=>?_
  refine D.ak (hsv.mono mup) rfl rfl rfl rfl rfl rfl rfl rfl rfl rfl om_ hrow fl_ (fun p18 hp18=>?_)
  refine D.ac hp18 ?_
  refine D.aC (fun b9=>?_)
  refine D.ag (j:=0) ?_
  refine D.e8 0 1 5 6 9 14 15 16 hR ?_
  refine G.rp 1 fun R hR=>?_
  refine D.ah (.head _) ?_
  refine D.aS (readAll_fn _ _ row.1 (hrf.mono mup) hfr.1 hfr.2.1) (fun v23 C23 hle23 hq23=>?_)
  obtain ⟨A10,n10,c10,rfl,hf10⟩:=hq23
  refine D.q10 5 0 1 5 6 9 10 11 14 15 16 hR ?_
  refine G.rp 1 fun R hR=>?_
  refine D.ah (.head _) ?_
  refine D.ax (read_fn _ r.s (by rw [hrb];exact hfr.2.2)) rfl rfl rfl rfl rfl rfl rfl fl_ (fun v29 C29 hle29 hq29=>?_)
  obtain ⟨vf,rfl,hvf⟩:=hq29
  obtain ⟨x,rfl⟩:=hvf.fv
  rw [hrb] at hvf
  refine D.ps 3 ?_
  refine D.aC (fun b12=>?_)
  refine D.ag (j:=0) ?_
  refine D.q11 1 0 1 5 6 10 11 12 13 14 15 16 hR ?_
  refine G.rp 5 fun R hR=>?_
  refine D.aG rfl rfl rfl rfl rfl rfl rfl rfl ?_
  refine D.ps 5 ?_
  refine D.aG rfl rfl rfl rfl rfl rfl rfl rfl ?_
  refine D.e10 0 1 5 6 10 12 14 15 16 43 hR ?_
  refine G.cd (fun h43=>?_) fun h43=>?_
  ·have hno:rowM n row=none:=by
    unfold rowM
    cases h1:aN row.1 with
    | none=>rfl
    | some f =>
     cases h2:bP row.2 with
     | none=>rfl
     | some b =>
      have hf:=hf10 f h1
      obtain ⟨A,c,e⟩:=hf.form
      injection e with e1 e2 e3
      simp only
      rw [if_neg]
      intro hn
      rw [hrb,h1,h2,e2,hn] at h43
      simp at h43
   have hno2:cA n rows d=none:=by
    unfold cA
    rw [rowsM_none (List.mem_of_getElem? hw0) hno]
   refine G.rg fun R hR=>?_
   refine D.build (YV.mk none 0 0 none 0 0 none 0 0).enc rfl rfl rfl rfl rfl rfl rfl rfl ?_
   refine D.ag (j:=4) ?_
   refine D.q2 1 6 7 hR ?_
   refine G.ay (G.eY (.head _) rfl rfl rfl rfl rfl ?_)
   exact ⟨rfl,_,by rw [hno2];rfl,fun ps ms h=>by rw [hno2] at h;cases h⟩
  ·obtain ⟨f,b,h1,h2,h3⟩:∃ f b,aN row.1=some f/\bP row.2=some b/\(f.length:Int)=n:=by
    cases h1:aN row.1 with
    | none=>rw [h1] at h43;simp at h43
    | some f =>
     cases h2:bP row.2 with
     | none=>rw [hrb,h1,h2] at h43;simp at h43
     | some b =>
      refine ⟨f,b,rfl,rfl, ?_⟩
      obtain ⟨A,c,e⟩:=(hf10 f h1).form
      injection e with e1 e2 e3
      rw [hrb,h1,h2,e2] at h43
      simpa using h43
   have hrm:rowM n row=some (f,b):=by unfold rowM;rw [h1,h2];simp only;rw [if_pos h3]
   rw [h2] at hvf
   refine G.bW (fun fr C' L' μ=>∃ (A7:Option Addr)(n7 c7:Nat)(A8:Option Addr)(n8 c8:Nat),(True)/\fr=[(0,[],.slice A0 rs.length c0),(1,[],.int .i64 n),(5,[],.pointer (some ⟨b5,0,none⟩)),(6,[],.pointer (some ⟨b6,0,none⟩)),(14,[],.slice A0 rs.length c0),(15,[],.int .i64 rs.length),(16,[],.int .i64 i)]/\L'=[.arr (sA A7 n7 c7) 75 1 (i+1) ((xs++[SV.mk A10 n10 c10]).map SV.enc).flatten,.arr (sB A8 n8 c8) 86 3 (i+1) ((ys++[x]).map FV.enc).flatten,.obj b6 (.cells ⟨(YV.mk A7 n7 c7 A8 n8 c8 none 0 0).enc⟩ 80 (0,0)),.obj b5 (.cells ⟨[.slice Ad nd cd]⟩ 38 (0,0))]) ?_ (fun fr Cr8 Lr8 μ hler8 hI=>?_)
   ·refine G.fj (.cut [0,1,2,5] (.alt 3 (.cut [] (.alt 4 (.fin [6,7,10,8,9,11,12,13]) (.alt 6 (.cut [] (.alt 4 (.fin [7,10,8,9,11,12,13]) (.alt 7 (.cut [] (.alt 4 (.fin [10,8,9,11,12,13]) (.alt 8 (.fin [4,10,9,11,12,13]) .stop))) .stop))) (.alt 7 (.cut [] (.alt 4 (.fin [6,10,8,9,11,12,13]) (.alt 6 (.cut [] (.alt 4 (.fin [10,8,9,11,12,13]) (.alt 8 (.fin [4,10,9,11,12,13]) .stop))) (.alt 8 (.cut [] (.alt 4 (.fin [6,10,9,11,12,13]) (.alt 6 (.fin [4,10,9,11,12,13]) .stop))) .stop)))) .stop)))) (.alt 6 (.cut [] (.alt 3 (.cut [] (.alt 4 (.fin [7,10,8,9,11,12,13]) (.alt 7 (.cut [] (.alt 4 (.fin [10,8,9,11,12,13]) (.alt 8 (.fin [4,10,9,11,12,13]) .stop))) .stop))) (.alt 7 (.cut [] (.alt 3 (.cut [] (.alt 4 (.fin [10,8,9,11,12,13]) (.alt 8 (.fin [4,10,9,11,12,13]) .stop))) (.alt 8 (.fin [3,4,10,9,11,12,13]) .stop))) .stop))) (.alt 7 (.cut [] (.alt 3 (.cut [] (.alt 4 (.fin [6,10,8,9,11,12,13]) (.alt 6 (.cut [] (.alt 4 (.fin [10,8,9,11,12,13]) (.alt 8 (.fin [4,10,9,11,12,13]) .stop))) (.alt 8 (.cut [] (.alt 4 (.fin [6,10,9,11,12,13]) (.alt 6 (.fin [4,10,9,11,12,13]) .stop))) .stop)))) (.alt 6 (.cut [] (.alt 3 (.cut [] (.alt 4 (.fin [10,8,9,11,12,13]) (.alt 8 (.fin [4,10,9,11,12,13]) .stop))) (.alt 8 (.fin [3,4,10,9,11,12,13]) .stop))) (.alt 8 (.cut [] (.alt 3 (.cut [] (.alt 4 (.fin [6,10,9,11,12,13]) (.alt 6 (.fin [4,10,9,11,12,13]) .stop))) (.alt 6 (.fin [3,4,10,9,11,12,13]) .stop))) .stop)))) .stop)))) [] rfl rfl kr_ (fun R hB hR hH=>?_)
    refine D.ae ?_
    refine D.ah (.tail _ (.tail _ (.tail _ (.tail _ (.head _))))) ?_
    refine D.ps 2 ?_
    refine D.ba hH rfl ⟨?_, ?_, ?_,trivial⟩
    ·refine D.af [[.slice A10 n10 c10]] (fun p48 C48 hle48 hs48=>?_)
     refine D.ba hH rfl ⟨?_, ?_, ?_,trivial⟩
     ·refine D.ai (j:=2) rfl rfl rfl rfl rfl rfl rfl rfl rfl rfl rfl (hs48.mono mup) rfl (by simp only [List.length_singleton,maxLen];omega) (by show (i+1)*24<=_;omega) fl_ (fun A49 n49 c49=>?_)
      refine D.ah (.tail _ (.tail _ (.tail _ (.tail _ (.head _))))) ?_
      refine D.ah (.tail _ (.head _)) ?_
      refine D.ae ?_
      refine D.af [x.enc] (fun p53 C53 hle53 hs53=>?_)
      refine D.ai (j:=3) rfl rfl rfl rfl rfl rfl rfl rfl rfl rfl rfl (hs53.mono mup) rfl (by simp only [List.length_singleton,maxLen];omega) (by show (i+1)*56<=_;omega) fl_ (fun A54 n54 c54=>?_)
      refine D.ag (j:=4) ?_
      refine D.ae ?_
      refine D.ag (j:=0) ?_
      refine D.e7 0 1 5 6 14 15 16 hR ?_
      refine G.perm (L':=cqX0 xs ys Ad nd cd i b5 b6 b9 b12 A10 n10 c10 x r A49 n49 c49 A54 n54 c54) (pkL [2,1,0,2,0,0] rfl) ?_
      refine br ?_
      exact G.ar 0 mup (h_7 0 1 5 6 14 15 16) ⟨A49,n49,c49,A54,n54,c54,trivial,rfl,rfl⟩
     ·refine D.ah (.tail _ (.tail _ (.tail _ (.tail _ (.head _))))) ?_
      refine D.ba hH rfl ⟨?_, ?_,trivial⟩
      ·refine D.ai (j:=2) rfl rfl rfl rfl rfl rfl rfl rfl rfl rfl rfl (hs48.mono mup) rfl (by simp only [List.length_singleton,maxLen];omega) (by show (i+1)*24<=_;omega) fl_ (fun A49 n49 c49=>?_)
       refine D.ah (.tail _ (.head _)) ?_
       refine D.ae ?_
       refine D.af [x.enc] (fun p53 C53 hle53 hs53=>?_)
       refine D.ai (j:=3) rfl rfl rfl rfl rfl rfl rfl rfl rfl rfl rfl (hs53.mono mup) rfl (by simp only [List.length_singleton,maxLen];omega) (by show (i+1)*56<=_;omega) fl_ (fun A54 n54 c54=>?_)
       refine D.ag (j:=4) ?_
       refine D.ae ?_
       refine D.ag (j:=0) ?_
       refine D.e7 0 1 5 6 14 15 16 hR ?_
       refine G.perm (L':=cqX0 xs ys Ad nd cd i b5 b6 b9 b12 A10 n10 c10 x r A49 n49 c49 A54 n54 c54) (pkL [2,1,0,2,0,0] rfl) ?_
       refine br ?_
       exact G.ar 0 mup (h_7 0 1 5 6 14 15 16) ⟨A49,n49,c49,A54,n54,c54,trivial,rfl,rfl⟩
      ·refine D.ah (.head _) ?_
       refine D.ba hH rfl ⟨?_, ?_,trivial⟩
       ·refine D.ai (j:=2) rfl rfl rfl rfl rfl rfl rfl rfl rfl rfl rfl (hs48.mono mup) rfl (by simp only [List.length_singleton,maxLen];omega) (by show (i+1)*24<=_;omega) fl_ (fun A49 n49 c49=>?_)
        refine D.ae ?_
        refine D.af [x.enc] (fun p53 C53 hle53 hs53=>?_)
        refine D.ai (j:=3) rfl rfl rfl rfl rfl rfl rfl rfl rfl rfl rfl (hs53.mono mup) rfl (by simp only [List.length_singleton,maxLen];omega) (by show (i+1)*56<=_;omega) fl_ (fun A54 n54 c54=>?_)
        refine D.ag (j:=4) ?_
        refine D.ae ?_
        refine D.ag (j:=0) ?_
        refine D.e7 0 1 5 6 14 15 16 hR ?_
        refine G.perm (L':=cqX0 xs ys Ad nd cd i b5 b6 b9 b12 A10 n10 c10 x r A49 n49 c49 A54 n54 c54) (pkL [2,1,0,2,0,0] rfl) ?_
        refine br ?_
        exact G.ar 0 mup (h_7 0 1 5 6 14 15 16) ⟨A49,n49,c49,A54,n54,c54,trivial,rfl,rfl⟩
       ·refine D.af [x.enc] (fun p53 C53 hle53 hs53=>?_)
        refine D.ai (j:=2) rfl rfl rfl rfl rfl rfl rfl rfl rfl rfl rfl (hs48.mono mup) rfl (by simp only [List.length_singleton,maxLen];omega) (by show (i+1)*24<=_;omega) fl_ (fun A49 n49 c49=>?_)
        refine D.ae ?_
        refine D.ai (j:=3) rfl rfl rfl rfl rfl rfl rfl rfl rfl rfl rfl (hs53.mono mup) rfl (by simp only [List.length_singleton,maxLen];omega) (by show (i+1)*56<=_;omega) fl_ (fun A54 n54 c54=>?_)
        refine D.ag (j:=4) ?_
        refine D.ae ?_
        refine D.ag (j:=0) ?_
        refine D.e7 0 1 5 6 14 15 16 hR ?_
        refine G.perm (L':=cqX0 xs ys Ad nd cd i b5 b6 b9 b12 A10 n10 c10 x r A49 n49 c49 A54 n54 c54) (pkL [2,1,0,2,0,0] rfl) ?_
        refine br ?_
        exact G.ar 0 mup (h_7 0 1 5 6 14 15 16) ⟨A49,n49,c49,A54,n54,c54,trivial,rfl,rfl⟩
     ·refine D.ah (.head _) ?_
      refine D.ba hH rfl ⟨?_, ?_, ?_,trivial⟩
      ·refine D.ai (j:=2) rfl rfl rfl rfl rfl rfl rfl rfl rfl rfl rfl (hs48.mono mup) rfl (by simp only [List.length_singleton,maxLen];omega) (by show (i+1)*24<=_;omega) fl_ (fun A49 n49 c49=>?_)
       refine D.ah (.tail _ (.tail _ (.tail _ (.tail _ (.head _))))) ?_
       refine D.ae ?_
       refine D.af [x.enc] (fun p53 C53 hle53 hs53=>?_)
       refine D.ai (j:=3) rfl rfl rfl rfl rfl rfl rfl rfl rfl rfl rfl (hs53.mono mup) rfl (by simp only [List.length_singleton,maxLen];omega) (by show (i+1)*56<=_;omega) fl_ (fun A54 n54 c54=>?_)
       refine D.ag (j:=4) ?_
       refine D.ae ?_
       refine D.ag (j:=0) ?_
       refine D.e7 0 1 5 6 14 15 16 hR ?_
       refine G.perm (L':=cqX0 xs ys Ad nd cd i b5 b6 b9 b12 A10 n10 c10 x r A49 n49 c49 A54 n54 c54) (pkL [2,1,0,2,0,0] rfl) ?_
       refine br ?_
       exact G.ar 0 mup (h_7 0 1 5 6 14 15 16) ⟨A49,n49,c49,A54,n54,c54,trivial,rfl,rfl⟩
      ·refine D.ah (.tail _ (.tail _ (.tail _ (.tail _ (.head _))))) ?_
       refine D.ba hH rfl ⟨?_, ?_,trivial⟩
       ·refine D.ai (j:=2) rfl rfl rfl rfl rfl rfl rfl rfl rfl rfl rfl (hs48.mono mup) rfl (by simp only [List.length_singleton,maxLen];omega) (by show (i+1)*24<=_;omega) fl_ (fun A49 n49 c49=>?_)
        refine D.ae ?_
        refine D.af [x.enc] (fun p53 C53 hle53 hs53=>?_)
        refine D.ai (j:=3) rfl rfl rfl rfl rfl rfl rfl rfl rfl rfl rfl (hs53.mono mup) rfl (by simp only [List.length_singleton,maxLen];omega) (by show (i+1)*56<=_;omega) fl_ (fun A54 n54 c54=>?_)
        refine D.ag (j:=4) ?_
        refine D.ae ?_
        refine D.ag (j:=0) ?_
        refine D.e7 0 1 5 6 14 15 16 hR ?_
        refine G.perm (L':=cqX0 xs ys Ad nd cd i b5 b6 b9 b12 A10 n10 c10 x r A49 n49 c49 A54 n54 c54) (pkL [2,1,0,2,0,0] rfl) ?_
        refine br ?_
        exact G.ar 0 mup (h_7 0 1 5 6 14 15 16) ⟨A49,n49,c49,A54,n54,c54,trivial,rfl,rfl⟩
       ·refine D.af [x.enc] (fun p53 C53 hle53 hs53=>?_)
        refine D.ai (j:=2) rfl rfl rfl rfl rfl rfl rfl rfl rfl rfl rfl (hs48.mono mup) rfl (by simp only [List.length_singleton,maxLen];omega) (by show (i+1)*24<=_;omega) fl_ (fun A49 n49 c49=>?_)
        refine D.ae ?_
        refine D.ai (j:=3) rfl rfl rfl rfl rfl rfl rfl rfl rfl rfl rfl (hs53.mono mup) rfl (by simp only [List.length_singleton,maxLen];omega) (by show (i+1)*56<=_;omega) fl_ (fun A54 n54 c54=>?_)
        refine D.ag (j:=4) ?_
        refine D.ae ?_
        refine D.ag (j:=0) ?_
        refine D.e7 0 1 5 6 14 15 16 hR ?_
        refine G.perm (L':=cqX0 xs ys Ad nd cd i b5 b6 b9 b12 A10 n10 c10 x r A49 n49 c49 A54 n54 c54) (pkL [2,1,0,2,0,0] rfl) ?_
        refine br ?_
        exact G.ar 0 mup (h_7 0 1 5 6 14 15 16) ⟨A49,n49,c49,A54,n54,c54,trivial,rfl,rfl⟩
      ·refine D.af [x.enc] (fun p53 C53 hle53 hs53=>?_)
       refine D.ba hH rfl ⟨?_, ?_,trivial⟩
       ·refine D.ai (j:=2) rfl rfl rfl rfl rfl rfl rfl rfl rfl rfl rfl (hs48.mono mup) rfl (by simp only [List.length_singleton,maxLen];omega) (by show (i+1)*24<=_;omega) fl_ (fun A49 n49 c49=>?_)
        refine D.ah (.tail _ (.tail _ (.tail _ (.tail _ (.head _))))) ?_
        refine D.ae ?_
        refine D.ai (j:=3) rfl rfl rfl rfl rfl rfl rfl rfl rfl rfl rfl (hs53.mono mup) rfl (by simp only [List.length_singleton,maxLen];omega) (by show (i+1)*56<=_;omega) fl_ (fun A54 n54 c54=>?_)
        refine D.ag (j:=4) ?_
        refine D.ae ?_
        refine D.ag (j:=0) ?_
        refine D.e7 0 1 5 6 14 15 16 hR ?_
        refine G.perm (L':=cqX0 xs ys Ad nd cd i b5 b6 b9 b12 A10 n10 c10 x r A49 n49 c49 A54 n54 c54) (pkL [2,1,0,2,0,0] rfl) ?_
        refine br ?_
        exact G.ar 0 mup (h_7 0 1 5 6 14 15 16) ⟨A49,n49,c49,A54,n54,c54,trivial,rfl,rfl⟩
       ·refine D.ah (.tail _ (.tail _ (.tail _ (.tail _ (.head _))))) ?_
        refine D.ai (j:=2) rfl rfl rfl rfl rfl rfl rfl rfl rfl rfl rfl (hs48.mono mup) rfl (by simp only [List.length_singleton,maxLen];omega) (by show (i+1)*24<=_;omega) fl_ (fun A49 n49 c49=>?_)
        refine D.ae ?_
        refine D.ai (j:=3) rfl rfl rfl rfl rfl rfl rfl rfl rfl rfl rfl (hs53.mono mup) rfl (by simp only [List.length_singleton,maxLen];omega) (by show (i+1)*56<=_;omega) fl_ (fun A54 n54 c54=>?_)
        refine D.ag (j:=4) ?_
        refine D.ae ?_
        refine D.ag (j:=0) ?_
        refine D.e7 0 1 5 6 14 15 16 hR ?_
        refine G.perm (L':=cqX0 xs ys Ad nd cd i b5 b6 b9 b12 A10 n10 c10 x r A49 n49 c49 A54 n54 c54) (pkL [2,1,0,2,0,0] rfl) ?_
        refine br ?_
        exact G.ar 0 mup (h_7 0 1 5 6 14 15 16) ⟨A49,n49,c49,A54,n54,c54,trivial,rfl,rfl⟩
    ·refine D.ah (.tail _ (.tail _ (.tail _ (.tail _ (.head _))))) ?_
     refine D.ba hH rfl ⟨?_, ?_,trivial⟩
     ·refine D.af [[.slice A10 n10 c10]] (fun p48 C48 hle48 hs48=>?_)
      refine D.ba hH rfl ⟨?_, ?_,trivial⟩
      ·refine D.ai (j:=2) rfl rfl rfl rfl rfl rfl rfl rfl rfl rfl rfl (hs48.mono mup) rfl (by simp only [List.length_singleton,maxLen];omega) (by show (i+1)*24<=_;omega) fl_ (fun A49 n49 c49=>?_)
       refine D.ah (.tail _ (.head _)) ?_
       refine D.ae ?_
       refine D.af [x.enc] (fun p53 C53 hle53 hs53=>?_)
       refine D.ai (j:=3) rfl rfl rfl rfl rfl rfl rfl rfl rfl rfl rfl (hs53.mono mup) rfl (by simp only [List.length_singleton,maxLen];omega) (by show (i+1)*56<=_;omega) fl_ (fun A54 n54 c54=>?_)
       refine D.ag (j:=4) ?_
       refine D.ae ?_
       refine D.ag (j:=0) ?_
       refine D.e7 0 1 5 6 14 15 16 hR ?_
       refine G.perm (L':=cqX0 xs ys Ad nd cd i b5 b6 b9 b12 A10 n10 c10 x r A49 n49 c49 A54 n54 c54) (pkL [2,1,0,2,0,0] rfl) ?_
       refine br ?_
       exact G.ar 0 mup (h_7 0 1 5 6 14 15 16) ⟨A49,n49,c49,A54,n54,c54,trivial,rfl,rfl⟩
      ·refine D.ah (.head _) ?_
       refine D.ba hH rfl ⟨?_, ?_,trivial⟩
       ·refine D.ai (j:=2) rfl rfl rfl rfl rfl rfl rfl rfl rfl rfl rfl (hs48.mono mup) rfl (by simp only [List.length_singleton,maxLen];omega) (by show (i+1)*24<=_;omega) fl_ (fun A49 n49 c49=>?_)
        refine D.ae ?_
        refine D.af [x.enc] (fun p53 C53 hle53 hs53=>?_)
        refine D.ai (j:=3) rfl rfl rfl rfl rfl rfl rfl rfl rfl rfl rfl (hs53.mono mup) rfl (by simp only [List.length_singleton,maxLen];omega) (by show (i+1)*56<=_;omega) fl_ (fun A54 n54 c54=>?_)
        refine D.ag (j:=4) ?_
        refine D.ae ?_
        refine D.ag (j:=0) ?_
        refine D.e7 0 1 5 6 14 15 16 hR ?_
        refine G.perm (L':=cqX0 xs ys Ad nd cd i b5 b6 b9 b12 A10 n10 c10 x r A49 n49 c49 A54 n54 c54) (pkL [2,1,0,2,0,0] rfl) ?_
        refine br ?_
        exact G.ar 0 mup (h_7 0 1 5 6 14 15 16) ⟨A49,n49,c49,A54,n54,c54,trivial,rfl,rfl⟩
       ·refine D.af [x.enc] (fun p53 C53 hle53 hs53=>?_)
        refine D.ai (j:=2) rfl rfl rfl rfl rfl rfl rfl rfl rfl rfl rfl (hs48.mono mup) rfl (by simp only [List.length_singleton,maxLen];omega) (by show (i+1)*24<=_;omega) fl_ (fun A49 n49 c49=>?_)
        refine D.ae ?_
        refine D.ai (j:=3) rfl rfl rfl rfl rfl rfl rfl rfl rfl rfl rfl (hs53.mono mup) rfl (by simp only [List.length_singleton,maxLen];omega) (by show (i+1)*56<=_;omega) fl_ (fun A54 n54 c54=>?_)
        refine D.ag (j:=4) ?_
        refine D.ae ?_
        refine D.ag (j:=0) ?_
        refine D.e7 0 1 5 6 14 15 16 hR ?_
        refine G.perm (L':=cqX0 xs ys Ad nd cd i b5 b6 b9 b12 A10 n10 c10 x r A49 n49 c49 A54 n54 c54) (pkL [2,1,0,2,0,0] rfl) ?_
        refine br ?_
        exact G.ar 0 mup (h_7 0 1 5 6 14 15 16) ⟨A49,n49,c49,A54,n54,c54,trivial,rfl,rfl⟩
     ·refine D.ah (.head _) ?_
      refine D.ba hH rfl ⟨?_, ?_,trivial⟩
      ·refine D.af [[.slice A10 n10 c10]] (fun p48 C48 hle48 hs48=>?_)
       refine D.ba hH rfl ⟨?_, ?_,trivial⟩
       ·refine D.ai (j:=2) rfl rfl rfl rfl rfl rfl rfl rfl rfl rfl rfl (hs48.mono mup) rfl (by simp only [List.length_singleton,maxLen];omega) (by show (i+1)*24<=_;omega) fl_ (fun A49 n49 c49=>?_)
        refine D.ae ?_
        refine D.af [x.enc] (fun p53 C53 hle53 hs53=>?_)
        refine D.ai (j:=3) rfl rfl rfl rfl rfl rfl rfl rfl rfl rfl rfl (hs53.mono mup) rfl (by simp only [List.length_singleton,maxLen];omega) (by show (i+1)*56<=_;omega) fl_ (fun A54 n54 c54=>?_)
        refine D.ag (j:=4) ?_
        refine D.ae ?_
        refine D.ag (j:=0) ?_
        refine D.e7 0 1 5 6 14 15 16 hR ?_
        refine G.perm (L':=cqX0 xs ys Ad nd cd i b5 b6 b9 b12 A10 n10 c10 x r A49 n49 c49 A54 n54 c54) (pkL [2,1,0,2,0,0] rfl) ?_
        refine br ?_
        exact G.ar 0 mup (h_7 0 1 5 6 14 15 16) ⟨A49,n49,c49,A54,n54,c54,trivial,rfl,rfl⟩
       ·refine D.af [x.enc] (fun p53 C53 hle53 hs53=>?_)
        refine D.ai (j:=2) rfl rfl rfl rfl rfl rfl rfl rfl rfl rfl rfl (hs48.mono mup) rfl (by simp only [List.length_singleton,maxLen];omega) (by show (i+1)*24<=_;omega) fl_ (fun A49 n49 c49=>?_)
        refine D.ae ?_
        refine D.ai (j:=3) rfl rfl rfl rfl rfl rfl rfl rfl rfl rfl rfl (hs53.mono mup) rfl (by simp only [List.length_singleton,maxLen];omega) (by show (i+1)*56<=_;omega) fl_ (fun A54 n54 c54=>?_)
        refine D.ag (j:=4) ?_
        refine D.ae ?_
        refine D.ag (j:=0) ?_
        refine D.e7 0 1 5 6 14 15 16 hR ?_
        refine G.perm (L':=cqX0 xs ys Ad nd cd i b5 b6 b9 b12 A10 n10 c10 x r A49 n49 c49 A54 n54 c54) (pkL [2,1,0,2,0,0] rfl) ?_
        refine br ?_
        exact G.ar 0 mup (h_7 0 1 5 6 14 15 16) ⟨A49,n49,c49,A54,n54,c54,trivial,rfl,rfl⟩
      ·refine D.af [x.enc] (fun p53 C53 hle53 hs53=>?_)
       refine D.af [[.slice A10 n10 c10]] (fun p48 C48 hle48 hs48=>?_)
       refine D.ai (j:=2) rfl rfl rfl rfl rfl rfl rfl rfl rfl rfl rfl (hs48.mono mup) rfl (by simp only [List.length_singleton,maxLen];omega) (by show (i+1)*24<=_;omega) fl_ (fun A49 n49 c49=>?_)
       refine D.ae ?_
       refine D.ai (j:=3) rfl rfl rfl rfl rfl rfl rfl rfl rfl rfl rfl (hs53.mono mup) rfl (by simp only [List.length_singleton,maxLen];omega) (by show (i+1)*56<=_;omega) fl_ (fun A54 n54 c54=>?_)
       refine D.ag (j:=4) ?_
       refine D.ae ?_
       refine D.ag (j:=0) ?_
       refine D.e7 0 1 5 6 14 15 16 hR ?_
       refine G.perm (L':=cqX0 xs ys Ad nd cd i b5 b6 b9 b12 A10 n10 c10 x r A49 n49 c49 A54 n54 c54) (pkL [2,1,0,2,0,0] rfl) ?_
       refine br ?_
       exact G.ar 0 mup (h_7 0 1 5 6 14 15 16) ⟨A49,n49,c49,A54,n54,c54,trivial,rfl,rfl⟩
    ·refine D.ah (.head _) ?_
     refine D.ba hH rfl ⟨?_, ?_, ?_,trivial⟩
     ·refine D.af [[.slice A10 n10 c10]] (fun p48 C48 hle48 hs48=>?_)
      refine D.ba hH rfl ⟨?_, ?_, ?_,trivial⟩
      ·refine D.ai (j:=2) rfl rfl rfl rfl rfl rfl rfl rfl rfl rfl rfl (hs48.mono mup) rfl (by simp only [List.length_singleton,maxLen];omega) (by show (i+1)*24<=_;omega) fl_ (fun A49 n49 c49=>?_)
       refine D.ah (.tail _ (.tail _ (.tail _ (.tail _ (.head _))))) ?_
       refine D.ae ?_
       refine D.af [x.enc] (fun p53 C53 hle53 hs53=>?_)
       refine D.ai (j:=3) rfl rfl rfl rfl rfl rfl rfl rfl rfl rfl rfl (hs53.mono mup) rfl (by simp only [List.length_singleton,maxLen];omega) (by show (i+1)*56<=_;omega) fl_ (fun A54 n54 c54=>?_)
       refine D.ag (j:=4) ?_
       refine D.ae ?_
       refine D.ag (j:=0) ?_
       refine D.e7 0 1 5 6 14 15 16 hR ?_
       refine G.perm (L':=cqX0 xs ys Ad nd cd i b5 b6 b9 b12 A10 n10 c10 x r A49 n49 c49 A54 n54 c54) (pkL [2,1,0,2,0,0] rfl) ?_
       refine br ?_
       exact G.ar 0 mup (h_7 0 1 5 6 14 15 16) ⟨A49,n49,c49,A54,n54,c54,trivial,rfl,rfl⟩
      ·refine D.ah (.tail _ (.tail _ (.tail _ (.tail _ (.head _))))) ?_
       refine D.ba hH rfl ⟨?_, ?_,trivial⟩
       ·refine D.ai (j:=2) rfl rfl rfl rfl rfl rfl rfl rfl rfl rfl rfl (hs48.mono mup) rfl (by simp only [List.length_singleton,maxLen];omega) (by show (i+1)*24<=_;omega) fl_ (fun A49 n49 c49=>?_)
        refine D.ae ?_
        refine D.af [x.enc] (fun p53 C53 hle53 hs53=>?_)
        refine D.ai (j:=3) rfl rfl rfl rfl rfl rfl rfl rfl rfl rfl rfl (hs53.mono mup) rfl (by simp only [List.length_singleton,maxLen];omega) (by show (i+1)*56<=_;omega) fl_ (fun A54 n54 c54=>?_)
        refine D.ag (j:=4) ?_
        refine D.ae ?_
        refine D.ag (j:=0) ?_
        refine D.e7 0 1 5 6 14 15 16 hR ?_
        refine G.perm (L':=cqX0 xs ys Ad nd cd i b5 b6 b9 b12 A10 n10 c10 x r A49 n49 c49 A54 n54 c54) (pkL [2,1,0,2,0,0] rfl) ?_
        refine br ?_
        exact G.ar 0 mup (h_7 0 1 5 6 14 15 16) ⟨A49,n49,c49,A54,n54,c54,trivial,rfl,rfl⟩
       ·refine D.af [x.enc] (fun p53 C53 hle53 hs53=>?_)
        refine D.ai (j:=2) rfl rfl rfl rfl rfl rfl rfl rfl rfl rfl rfl (hs48.mono mup) rfl (by simp only [List.length_singleton,maxLen];omega) (by show (i+1)*24<=_;omega) fl_ (fun A49 n49 c49=>?_)
        refine D.ae ?_
        refine D.ai (j:=3) rfl rfl rfl rfl rfl rfl rfl rfl rfl rfl rfl (hs53.mono mup) rfl (by simp only [List.length_singleton,maxLen];omega) (by show (i+1)*56<=_;omega) fl_ (fun A54 n54 c54=>?_)
        refine D.ag (j:=4) ?_
        refine D.ae ?_
        refine D.ag (j:=0) ?_
        refine D.e7 0 1 5 6 14 15 16 hR ?_
        refine G.perm (L':=cqX0 xs ys Ad nd cd i b5 b6 b9 b12 A10 n10 c10 x r A49 n49 c49 A54 n54 c54) (pkL [2,1,0,2,0,0] rfl) ?_
        refine br ?_
        exact G.ar 0 mup (h_7 0 1 5 6 14 15 16) ⟨A49,n49,c49,A54,n54,c54,trivial,rfl,rfl⟩
      ·refine D.af [x.enc] (fun p53 C53 hle53 hs53=>?_)
       refine D.ba hH rfl ⟨?_, ?_,trivial⟩
       ·refine D.ai (j:=2) rfl rfl rfl rfl rfl rfl rfl rfl rfl rfl rfl (hs48.mono mup) rfl (by simp only [List.length_singleton,maxLen];omega) (by show (i+1)*24<=_;omega) fl_ (fun A49 n49 c49=>?_)
        refine D.ah (.tail _ (.tail _ (.tail _ (.tail _ (.head _))))) ?_
        refine D.ae ?_
        refine D.ai (j:=3) rfl rfl rfl rfl rfl rfl rfl rfl rfl rfl rfl (hs53.mono mup) rfl (by simp only [List.length_singleton,maxLen];omega) (by show (i+1)*56<=_;omega) fl_ (fun A54 n54 c54=>?_)
        refine D.ag (j:=4) ?_
        refine D.ae ?_
        refine D.ag (j:=0) ?_
        refine D.e7 0 1 5 6 14 15 16 hR ?_
        refine G.perm (L':=cqX0 xs ys Ad nd cd i b5 b6 b9 b12 A10 n10 c10 x r A49 n49 c49 A54 n54 c54) (pkL [2,1,0,2,0,0] rfl) ?_
        refine br ?_
        exact G.ar 0 mup (h_7 0 1 5 6 14 15 16) ⟨A49,n49,c49,A54,n54,c54,trivial,rfl,rfl⟩
       ·refine D.ah (.tail _ (.tail _ (.tail _ (.tail _ (.head _))))) ?_
        refine D.ai (j:=2) rfl rfl rfl rfl rfl rfl rfl rfl rfl rfl rfl (hs48.mono mup) rfl (by simp only [List.length_singleton,maxLen];omega) (by show (i+1)*24<=_;omega) fl_ (fun A49 n49 c49=>?_)
        refine D.ae ?_
        refine D.ai (j:=3) rfl rfl rfl rfl rfl rfl rfl rfl rfl rfl rfl (hs53.mono mup) rfl (by simp only [List.length_singleton,maxLen];omega) (by show (i+1)*56<=_;omega) fl_ (fun A54 n54 c54=>?_)
        refine D.ag (j:=4) ?_
        refine D.ae ?_
        refine D.ag (j:=0) ?_
        refine D.e7 0 1 5 6 14 15 16 hR ?_
        refine G.perm (L':=cqX0 xs ys Ad nd cd i b5 b6 b9 b12 A10 n10 c10 x r A49 n49 c49 A54 n54 c54) (pkL [2,1,0,2,0,0] rfl) ?_
        refine br ?_
        exact G.ar 0 mup (h_7 0 1 5 6 14 15 16) ⟨A49,n49,c49,A54,n54,c54,trivial,rfl,rfl⟩
     ·refine D.ah (.tail _ (.tail _ (.tail _ (.tail _ (.head _))))) ?_
      refine D.ba hH rfl ⟨?_, ?_,trivial⟩
      ·refine D.af [[.slice A10 n10 c10]] (fun p48 C48 hle48 hs48=>?_)
       refine D.ba hH rfl ⟨?_, ?_,trivial⟩
       ·refine D.ai (j:=2) rfl rfl rfl rfl rfl rfl rfl rfl rfl rfl rfl (hs48.mono mup) rfl (by simp only [List.length_singleton,maxLen];omega) (by show (i+1)*24<=_;omega) fl_ (fun A49 n49 c49=>?_)
        refine D.ae ?_
        refine D.af [x.enc] (fun p53 C53 hle53 hs53=>?_)
        refine D.ai (j:=3) rfl rfl rfl rfl rfl rfl rfl rfl rfl rfl rfl (hs53.mono mup) rfl (by simp only [List.length_singleton,maxLen];omega) (by show (i+1)*56<=_;omega) fl_ (fun A54 n54 c54=>?_)
        refine D.ag (j:=4) ?_
        refine D.ae ?_
        refine D.ag (j:=0) ?_
        refine D.e7 0 1 5 6 14 15 16 hR ?_
        refine G.perm (L':=cqX0 xs ys Ad nd cd i b5 b6 b9 b12 A10 n10 c10 x r A49 n49 c49 A54 n54 c54) (pkL [2,1,0,2,0,0] rfl) ?_
        refine br ?_
        exact G.ar 0 mup (h_7 0 1 5 6 14 15 16) ⟨A49,n49,c49,A54,n54,c54,trivial,rfl,rfl⟩
       ·refine D.af [x.enc] (fun p53 C53 hle53 hs53=>?_)
        refine D.ai (j:=2) rfl rfl rfl rfl rfl rfl rfl rfl rfl rfl rfl (hs48.mono mup) rfl (by simp only [List.length_singleton,maxLen];omega) (by show (i+1)*24<=_;omega) fl_ (fun A49 n49 c49=>?_)
        refine D.ae ?_
        refine D.ai (j:=3) rfl rfl rfl rfl rfl rfl rfl rfl rfl rfl rfl (hs53.mono mup) rfl (by simp only [List.length_singleton,maxLen];omega) (by show (i+1)*56<=_;omega) fl_ (fun A54 n54 c54=>?_)
        refine D.ag (j:=4) ?_
        refine D.ae ?_
        refine D.ag (j:=0) ?_
        refine D.e7 0 1 5 6 14 15 16 hR ?_
        refine G.perm (L':=cqX0 xs ys Ad nd cd i b5 b6 b9 b12 A10 n10 c10 x r A49 n49 c49 A54 n54 c54) (pkL [2,1,0,2,0,0] rfl) ?_
        refine br ?_
        exact G.ar 0 mup (h_7 0 1 5 6 14 15 16) ⟨A49,n49,c49,A54,n54,c54,trivial,rfl,rfl⟩
      ·refine D.af [x.enc] (fun p53 C53 hle53 hs53=>?_)
       refine D.af [[.slice A10 n10 c10]] (fun p48 C48 hle48 hs48=>?_)
       refine D.ai (j:=2) rfl rfl rfl rfl rfl rfl rfl rfl rfl rfl rfl (hs48.mono mup) rfl (by simp only [List.length_singleton,maxLen];omega) (by show (i+1)*24<=_;omega) fl_ (fun A49 n49 c49=>?_)
       refine D.ae ?_
       refine D.ai (j:=3) rfl rfl rfl rfl rfl rfl rfl rfl rfl rfl rfl (hs53.mono mup) rfl (by simp only [List.length_singleton,maxLen];omega) (by show (i+1)*56<=_;omega) fl_ (fun A54 n54 c54=>?_)
       refine D.ag (j:=4) ?_
       refine D.ae ?_
       refine D.ag (j:=0) ?_
       refine D.e7 0 1 5 6 14 15 16 hR ?_
       refine G.perm (L':=cqX0 xs ys Ad nd cd i b5 b6 b9 b12 A10 n10 c10 x r A49 n49 c49 A54 n54 c54) (pkL [2,1,0,2,0,0] rfl) ?_
       refine br ?_
       exact G.ar 0 mup (h_7 0 1 5 6 14 15 16) ⟨A49,n49,c49,A54,n54,c54,trivial,rfl,rfl⟩
     ·refine D.af [x.enc] (fun p53 C53 hle53 hs53=>?_)
      refine D.ba hH rfl ⟨?_, ?_,trivial⟩
      ·refine D.af [[.slice A10 n10 c10]] (fun p48 C48 hle48 hs48=>?_)
       refine D.ba hH rfl ⟨?_, ?_,trivial⟩
       ·refine D.ai (j:=2) rfl rfl rfl rfl rfl rfl rfl rfl rfl rfl rfl (hs48.mono mup) rfl (by simp only [List.length_singleton,maxLen];omega) (by show (i+1)*24<=_;omega) fl_ (fun A49 n49 c49=>?_)
        refine D.ah (.tail _ (.tail _ (.tail _ (.tail _ (.head _))))) ?_
        refine D.ae ?_
        refine D.ai (j:=3) rfl rfl rfl rfl rfl rfl rfl rfl rfl rfl rfl (hs53.mono mup) rfl (by simp only [List.length_singleton,maxLen];omega) (by show (i+1)*56<=_;omega) fl_ (fun A54 n54 c54=>?_)
        refine D.ag (j:=4) ?_
        refine D.ae ?_
        refine D.ag (j:=0) ?_
        refine D.e7 0 1 5 6 14 15 16 hR ?_
        refine G.perm (L':=cqX0 xs ys Ad nd cd i b5 b6 b9 b12 A10 n10 c10 x r A49 n49 c49 A54 n54 c54) (pkL [2,1,0,2,0,0] rfl) ?_
        refine br ?_
        exact G.ar 0 mup (h_7 0 1 5 6 14 15 16) ⟨A49,n49,c49,A54,n54,c54,trivial,rfl,rfl⟩
       ·refine D.ah (.tail _ (.tail _ (.tail _ (.tail _ (.head _))))) ?_
        refine D.ai (j:=2) rfl rfl rfl rfl rfl rfl rfl rfl rfl rfl rfl (hs48.mono mup) rfl (by simp only [List.length_singleton,maxLen];omega) (by show (i+1)*24<=_;omega) fl_ (fun A49 n49 c49=>?_)
        refine D.ae ?_
        refine D.ai (j:=3) rfl rfl rfl rfl rfl rfl rfl rfl rfl rfl rfl (hs53.mono mup) rfl (by simp only [List.length_singleton,maxLen];omega) (by show (i+1)*56<=_;omega) fl_ (fun A54 n54 c54=>?_)
        refine D.ag (j:=4) ?_
        refine D.ae ?_
        refine D.ag (j:=0) ?_
        refine D.e7 0 1 5 6 14 15 16 hR ?_
        refine G.perm (L':=cqX0 xs ys Ad nd cd i b5 b6 b9 b12 A10 n10 c10 x r A49 n49 c49 A54 n54 c54) (pkL [2,1,0,2,0,0] rfl) ?_
        refine br ?_
        exact G.ar 0 mup (h_7 0 1 5 6 14 15 16) ⟨A49,n49,c49,A54,n54,c54,trivial,rfl,rfl⟩
      ·refine D.ah (.tail _ (.tail _ (.tail _ (.tail _ (.head _))))) ?_
       refine D.af [[.slice A10 n10 c10]] (fun p48 C48 hle48 hs48=>?_)
       refine D.ai (j:=2) rfl rfl rfl rfl rfl rfl rfl rfl rfl rfl rfl (hs48.mono mup) rfl (by simp only [List.length_singleton,maxLen];omega) (by show (i+1)*24<=_;omega) fl_ (fun A49 n49 c49=>?_)
       refine D.ae ?_
       refine D.ai (j:=3) rfl rfl rfl rfl rfl rfl rfl rfl rfl rfl rfl (hs53.mono mup) rfl (by simp only [List.length_singleton,maxLen];omega) (by show (i+1)*56<=_;omega) fl_ (fun A54 n54 c54=>?_)
       refine D.ag (j:=4) ?_
       refine D.ae ?_
       refine D.ag (j:=0) ?_
       refine D.e7 0 1 5 6 14 15 16 hR ?_
       refine G.perm (L':=cqX0 xs ys Ad nd cd i b5 b6 b9 b12 A10 n10 c10 x r A49 n49 c49 A54 n54 c54) (pkL [2,1,0,2,0,0] rfl) ?_
       refine br ?_
       exact G.ar 0 mup (h_7 0 1 5 6 14 15 16) ⟨A49,n49,c49,A54,n54,c54,trivial,rfl,rfl⟩
   obtain ⟨A7,n7,c7,A8,n8,c8,_,rfl,rfl⟩:=hI
   refine G.rg fun R hR=>?_
   refine D.aq _ ?_
   refine D.q7 1 0 1 5 6 14 15 16 hR ?_
   refine G.ap (m':=rows.length-(i+1)) om_ mup (h_7 0 1 5 6 14 15 16) ⟨i+1,ps++[(f,b)],xs++[SV.mk A10 n10 c10],ys++[x],_,_,_,_,_,_,⟨by omega,by rw [htk,rowsM_snoc,hps,hrm],by rw [List.map_append];exact (hxs.mono mup).snoc ((hf10 f h1).mono mup),by rw [List.map_append];exact (hys.mono mup).snoc (FrC.mono hvf mup),by simp [hxl],by simp [hyl]⟩,rfl,rfl,rfl⟩
 ·have hil:i=rows.length:=by
   have:¬ i<rs.length:=by simpa using h17
   omega
  rw [hil,List.take_length] at hps
  refine G.rp 1 fun R hR=>?_
  refine D.ah (.tail _ (.tail _ (.tail _ (.head _)))) ?_
  refine D.aS (readAll_fn _ _ d (hd.mono mup) hdl hds) (fun v61 C61 hle61 hq61=>?_)
  obtain ⟨A3,n3,c3,rfl,hm⟩:=hq61
  refine D.ps 4 ?_
  refine D.ag (j:=2) ?_
  refine D.q3 1 0 6 7 hR ?_
  have hcf:∀ D,C61.le D->(aN d).isSome=true->Gives cx.P 30 [.slice A3 n3 c3,.func (.func 62) #[] #[]] D (.bool (negD d)):=fun D hle hs=>by
   obtain ⟨ms,hms⟩:=Option.isSome_iff_exists.1 hs
   have:=contNeg ((hm ms hms).mono hle)
   unfold negD
   rw [hms]
   exact this
  refine G.rp 4 fun R hR=>?_
  refine D.ah (.head _) ?_
  refine D.ps 4 ?_
  refine D.aG rfl rfl rfl rfl rfl rfl rfl rfl ?_
  refine D.ps 2 ?_
  refine D.ah (.head _) ?_
  refine D.a6 (fun hg=>(by exact hcf _ mup (or_no hg.1))) rfl rfl rfl rfl rfl rfl rfl rfl rfl ?_
  refine D.aG rfl rfl rfl rfl rfl rfl rfl rfl ?_
  refine D.e2 6 79 hR ?_
  refine G.cd (fun h79=>?_) fun h79=>?_
  ·have hno2:cA n rows d=none:=by
    unfold cA
    rw [hps]
    cases hms:aN d with
    | none=>rfl
    | some ms =>
     simp only
     rw [if_neg]
     rintro ⟨e1,e2⟩
     obtain ⟨A,c,e⟩:=(hm ms hms).form
     injection e with e3 e4 e5
     have e6:negD d=false:=by unfold negD;rw [hms];exact e2
     rw [e6,hms,e4,e1,hrl] at h79
     simp at h79
   refine G.rg fun R hR=>?_
   refine D.build (YV.mk none 0 0 none 0 0 none 0 0).enc rfl rfl rfl rfl rfl rfl rfl rfl ?_
   refine D.ag (j:=0) ?_
   refine D.q2 1 6 7 hR ?_
   refine G.ay (G.eY (.head _) rfl rfl rfl rfl rfl ?_)
   exact ⟨rfl,_,by rw [hno2];rfl,fun ps ms h=>by rw [hno2] at h;cases h⟩
  ·obtain ⟨ms,hms⟩:∃ ms,aN d=some ms:=by
    cases hms:aN d with
    | none=>rw [hms] at h79;simp at h79
    | some ms=>exact ⟨ms,rfl⟩
   have hyes:cA n rows d=some (ps,ms):=by
    unfold cA
    rw [hps,hms]
    simp only
    obtain ⟨A,c,e⟩:=(hm ms hms).form
    injection e with e3 e4 e5
    have e6:negD d=(ms.any fun q=>decide (q.num<0)):=by unfold negD;rw [hms]
    rw [hms,e6,e4] at h79
    rw [Bool.or_eq_false_iff,Bool.or_eq_false_iff] at h79
    rw [if_pos]
    refine ⟨?_,h79.2⟩
    have h8:=h79.1.2
    simp at h8
    omega
   refine G.freezeArr 1 (xs.map SV.enc) rfl rfl (by intro r hr;obtain ⟨y,_,rfl⟩:=List.mem_map.1 hr;rfl) (by rw [List.length_map,hxl]) (fun Cf hf hsd=>?_)
   refine G.freezeArr 1 (ys.map FV.enc) rfl rfl (by intro r hr;obtain ⟨y,_,rfl⟩:=List.mem_map.1 hr;rfl) (by rw [List.length_map,hyl]) (fun Cg hg hse=>?_)
   refine G.rg fun R hR=>?_
   refine D.ah (.head _) ?_
   refine D.ag (j:=0) ?_
   refine D.q2 1 6 7 hR ?_
   refine G.ay (G.eY (.head _) rfl rfl rfl rfl rfl ?_)
   refine ⟨rfl,⟨A1,n1,c1,A2,n2,c2,A3,n3,c3⟩,by rw [hyes];rfl,fun ps' ms' h=>?_⟩
   rw [hyes] at h
   cases h
   exact ⟨⟨xs,hsd.mono mup,hxs.mono mup⟩,⟨ys,hse.mono mup,hys.mono mup⟩,(hm ms hms).mono mup⟩

def colR (ps:List (List Rat × Rat))(v:Nat):List Rat:=ps.map fun p=>gQ p.1 v
def sumsR (ps:List (List Rat × Rat))(ms:List Rat)(n:Nat):List Rat:=(List.range n).map fun v=>dotR ms (colR ps v)
theorem sumsR_get {ps:List (List Rat × Rat)}{ms:List Rat}{n v:Nat}(h:v<n):gQ (sumsR ps ms n) v=dotR ms (colR ps v):=by
 unfold gQ sumsR
 rw [List.getD_eq_getElem?_getD,List.getElem?_map,List.getElem?_range h];rfl
theorem gQ_mem {l:List Rat}{i:Nat}(h:i<l.length):gQ l i∈l:=List.mem_of_getElem? (gQ_get h)
def zeroFV:FV:=⟨false,none,0,0,none,0,0⟩
theorem zrow_F (n:Nat):zrow [Value.bool false,.slice none 0 0,.slice none 0 0] n=((List.replicate n zeroFV).map FV.enc).flatten:=by
 rw [bR,List.map_replicate];rfl
def SysSm (k:Nat)(ps:List (List Rat × Rat))(ms:List Rat):Prop:=(∀ p∈ps,(∀ q∈p.1,SmQ k q)/\SmQ k p.2)/\∀ q∈ms,SmQ k q
theorem sums_fn (C:Mem)(hT:Tabs C)(y:YV)(ps:List (List Rat × Rat))(ms:List Rat)(n:Nat)(hy:SysC C y ps ms)(hlen:ms.length=ps.length)(hf:∀ p∈ps,p.1.length=n)(hs:SysSm 200 ps ms)(hl:ps.length<=1000)(hn:n<=1000000) :
  Pur cx.P 27 [.agg ⟨y.enc⟩,.int .i64 n] C fun u D=>∃ (A:Option Addr)(c:Nat)(x:FV),u=.tuple #[.slice A n c,.agg ⟨x.enc⟩]/\FrL D (.slice A n c) (sumsR ps ms n)/\FrC D (.agg ⟨x.enc⟩) (dotR ms (ps.map (·.2))):=by
 obtain ⟨⟨vs,hsv,hvs⟩,hb,hm⟩:=hy
 have hvl:vs.length=ps.length:=by have:=hvs.1;simpa using this
 obtain ⟨Av,cv,hve,_⟩:=id hsv
 have hyn:y.n=vs.length:=by injection hve with e1 e2 e3;simpa using e2
 refine Fn.it kr_ Tryz.func27 46 fun w0=>?_
 refine G.rg fun R hR=>?_
 refine D.aX (fun b2=>?_)
 refine D.ae ?_
 refine D.aC (fun b5=>?_)
 refine D.e3 1 2 5 hR ?_
 refine G.rp 1 fun R hR=>?_
 refine D.bu rfl rfl rfl rfl rfl rfl rfl rfl rfl (Nat.le_refl _) (by show 56*n<=281474976710656;omega) (by simp only [maxLen];omega) fl_ (fun b12=>?_)
 refine D.q4 1 1 2 5 6 hR ?_
 refine G.z5 2 2 5 6 13 14 ?_
 refine G.aM (L':=[.arr (qW b12 n n) 86 3 n ((List.replicate n zeroFV).map FV.enc).flatten,.obj b5 (.cells ⟨zeroFV.enc⟩ 86 (0,0)),.obj b2 (.cells ⟨y.enc⟩ 80 (0,0))]) (by rw [<- zrow_F];rfl) ?_
 refine G.loop (fun fr C' L' μ=>∃ (v:Nat)(o:List FV),(v<=n/\o.length=n/\∀ k x,k<v->o[k]?=some x->FrC C' (.agg ⟨x.enc⟩) (dotR ms (colR ps k)))/\fr=[(2,[],.pointer (some ⟨b2,0,none⟩)),(5,[],.pointer (some ⟨b5,0,none⟩)),(6,[],qW b12 n n),(13,[],.int .i64 n),(14,[],.int .i64 v)]/\L'=[.arr (qW b12 n n) 86 3 n (o.map FV.enc).flatten,.obj b5 (.cells ⟨zeroFV.enc⟩ 86 (0,0)),.obj b2 (.cells ⟨y.enc⟩ 80 (0,0))]/\μ=n-v) (h_5 2 5 6 13 14) ⟨0,List.replicate n zeroFV,⟨Nat.zero_le _,List.length_replicate,fun k x hk=>by omega⟩,rfl,rfl,rfl⟩ (fun fr C0' L0' m hle0 hI=>?_)
 obtain ⟨v,o,⟨hv,hol,ho⟩,rfl,rfl,rfl⟩:=hI
 refine G.z6 1 2 5 6 13 14 15 ?_
 refine G.cd (fun h15=>?_) fun h15=>?_
 ·have hvn:v<n:=by simpa using h15
  refine G.z6 2 2 5 6 7 13 14 ?_
  refine G.z7 1 2 5 6 7 8 13 14 ?_
  refine G.rp 1 fun R hR=>?_
  refine D.ah (.tail _ (.tail _ (.head _))) ?_
  refine D.q10 2 2 5 6 7 8 13 14 18 19 20 hR ?_
  refine G.nilArr 86 3 ?_
  refine G.loop (fun fr C' L' μ=>∃ (i:Nat)(xs:List FV)(w:Value),(i<=ps.length/\RowsF C' xs (colR (ps.take i) v)/\xs.length=i)/\fr=[(2,[],.pointer (some ⟨b2,0,none⟩)),(5,[],.pointer (some ⟨b5,0,none⟩)),(6,[],qW b12 n n),(7,[],.int .i64 v),(8,[],w),(13,[],.int .i64 n),(14,[],.int .i64 v),(18,[],.slice y.A y.n y.c),(19,[],.int .i64 y.n),(20,[],.int .i64 i)]/\L'=[.arr w 86 3 i (xs.map FV.enc).flatten,.arr (qW b12 n n) 86 3 n (o.map FV.enc).flatten,.obj b5 (.cells ⟨zeroFV.enc⟩ 86 (0,0)),.obj b2 (.cells ⟨y.enc⟩ 80 (0,0))]/\μ=ps.length-i) (h_10 2 5 6 7 8 13 14 18 19 20) ⟨0,[],_,⟨Nat.zero_le _,RowsF.nil _,rfl⟩,rfl,rfl,rfl⟩ (fun fr C1' L1' m hle1 hI=>?_)
  obtain ⟨i,xs,w,⟨hi,hxs,hxl⟩,rfl,rfl,rfl⟩:=hI
  refine G.z11 1 2 5 6 7 8 13 14 18 19 20 21 ?_
  refine G.cd (fun h21=>?_) fun h21=>?_
  ·have hil:i<ps.length:=by
    have:(i:Int)<y.n:=by simpa using h21
    omega
   obtain ⟨p,hp⟩:∃ p,ps[i]?=some p:=⟨ps[i],List.getElem?_eq_getElem hil⟩
   obtain ⟨sv,hsv0⟩:∃ sv,vs[i]?=some sv:=⟨vs[i]'om_,List.getElem?_eq_getElem _⟩
   have hrow:(vs.map SV.enc)[i]?=some sv.enc:=by rw [List.getElem?_map,hsv0];rfl
   obtain ⟨zs,hzs,hzr⟩:=hvs.2 i sv p.1 hsv0 (by rw [List.getElem?_map,hp];rfl)
   have hpl:=hf p (List.mem_of_getElem? hp)
   obtain ⟨z,hz0,hzrow,hz⟩:=hzr.get (gQ_get (l:=p.1) (i:=v) om_)
   refine G.rg fun R hR=>?_
   refine D.ak (hsv.mono mup) rfl rfl rfl rfl rfl rfl rfl rfl rfl rfl om_ hrow fl_ (fun p22 hp22=>?_)
   refine D.ac hp22 ?_
   refine D.q11 1 2 5 6 7 8 10 13 14 18 19 20 hR ?_
   refine G.rp 3 fun R hR=>?_
   refine D.ak (hzs.mono mup) rfl rfl rfl rfl rfl rfl rfl rfl rfl rfl om_ hzrow fl_ (fun p27 hp27=>?_)
   refine D.ac hp27 ?_
   refine D.af [z.enc] (fun p29 C29 hle29 hs29=>?_)
   refine D.append (j:=0) rfl rfl rfl rfl rfl rfl rfl rfl rfl rfl rfl hs29 rfl (by simp only [List.length_singleton,maxLen];omega) (by show (i+1)*56<=_;omega) fl_ (fun v30=>?_)
   refine D.q10 1 2 5 6 7 8 13 14 18 19 20 hR ?_
   refine G.rg fun R hR=>?_
   refine D.aq _ ?_
   refine D.q10 1 2 5 6 7 8 13 14 18 19 20 hR ?_
   refine G.aM (L':=[.arr v30 86 3 (i+1) ((xs++[z]).map FV.enc).flatten,.arr (qW b12 n n) 86 3 n (o.map FV.enc).flatten,.obj b5 (.cells ⟨zeroFV.enc⟩ 86 (0,0)),.obj b2 (.cells ⟨y.enc⟩ 80 (0,0))]) (by simp) ?_
   refine G.ap (m':=ps.length-(i+1)) om_ mup (h_10 2 5 6 7 8 13 14 18 19 20) ⟨i+1,xs++[z],v30,⟨by omega,by
    have e:colR (ps.take (i+1)) v=colR (ps.take i) v++[gQ p.1 v]:=by unfold colR;rw [List.take_add_one,hp];simp
    rw [e]
    exact (hxs.mono mup).snoc (hz.mono mup),by simp [hxl]⟩,rfl,rfl,rfl⟩
  ·have hil:i=ps.length:=by
    have:¬ (i:Int)<y.n:=by simpa using h21
    omega
   rw [hil,List.take_length] at hxs
   have hcl:(colR ps v).length=ps.length:=by unfold colR;rw [List.length_map]
   have hcs:∀ q∈colR ps v,SmQ 200 q:=fun q hq=>by
    unfold colR at hq
    obtain ⟨p,hp,rfl⟩:=List.mem_map.1 hq
    exact (hs.1 p hp).1 _ (gQ_mem (by rw [hf p hp];exact hvn))
   refine G.freezeArr 0 (xs.map FV.enc) rfl rfl (by intro r hr;obtain ⟨y,_,rfl⟩:=List.mem_map.1 hr;rfl) (by rw [List.length_map,hxl]) (fun Cf hff hsd=>?_)
   refine G.rp 3 fun R hR=>?_
   refine D.ah (.tail _ (.tail _ (.head _))) ?_
   refine D.ae ?_
   refine D.ax (sum_fn _ (hT.mono mup) _ _ ms (colR ps v) 200 200 (hm.mono mup) ⟨xs,hsd,hxs.mono mup⟩ om_ hs.2 hcs om_) rfl rfl rfl rfl rfl rfl rfl fl_ (fun v37 C37 hle37 hq37=>?_)
   obtain ⟨x2,rfl⟩:=hq37.fv
   refine D.aD (v*3) rfl rfl rfl rfl rfl rfl rfl rfl rfl rfl (fun _=>⟨by omega,by omega,rfl⟩) rfl rfl ?_
   refine D.aE (j:=0) rfl rfl rfl rfl rfl rfl rfl rfl rfl rfl rfl (by show v*3+3<=_;rw [aW fv_len,hol];omega) ?_
   refine D.e5 2 5 6 13 14 hR ?_
   refine G.rg fun R hR=>?_
   refine D.aq _ ?_
   refine D.q5 1 2 5 6 13 14 hR ?_
   refine G.aM (L':=[.arr (qW b12 n n) 86 3 n ((o.set v x2).map FV.enc).flatten,.obj b5 (.cells ⟨zeroFV.enc⟩ 86 (0,0)),.obj b2 (.cells ⟨y.enc⟩ 80 (0,0))]) (by rw [<- aL fv_len _ (by omega:v<o.length)];rfl) ?_
   refine G.ap (m':=n-(v+1)) om_ mup (h_5 2 5 6 13 14) ⟨v+1,o.set v x2,⟨by omega,by simp [hol],fun k x hk hx=>by
    by_cases hkv:v=k
    ·subst hkv
     rw [List.getElem?_set_self om_] at hx
     cases hx
     exact hq37.mono mup
    ·rw [List.getElem?_set_ne hkv] at hx
     exact (ho k x om_ hx).mono mup⟩,rfl,rfl,rfl⟩
 ·have hvn:v=n:=by
   have:¬ v<n:=by simpa using h15
   omega
  refine G.rp 2 fun R hR=>?_
  refine D.ah (.tail _ (.tail _ (.head _))) ?_
  refine D.ae ?_
  refine D.ah (.tail _ (.tail _ (.head _))) ?_
  refine D.ax (sum_fn _ (hT.mono mup) _ _ ms (ps.map (·.2)) 200 200 (hm.mono mup) (hb.mono mup) (by simp [hlen]) hs.2 (fun q hq=>by obtain ⟨p,hp,rfl⟩:=List.mem_map.1 hq;exact (hs.1 p hp).2) om_) rfl rfl rfl rfl rfl rfl rfl fl_ (fun v45 C45 hle45 hq45=>?_)
  obtain ⟨x2,rfl⟩:=hq45.fv
  refine D.ae ?_
  refine D.ag (j:=1) ?_
  refine D.e2 4 5 hR ?_
  refine G.freezeArr 1 (o.map FV.enc) rfl rfl (by intro r hr;obtain ⟨y,_,rfl⟩:=List.mem_map.1 hr;rfl) (by rw [List.length_map,hol]) (fun Cf hff hsd=>?_)
  refine G.ay (G.finC3 (.head _) rfl rfl rfl rfl rfl ?_)
  refine ⟨rfl,_,_,x2,rfl,⟨o,hsd,by rw [hol];simp [sumsR],fun i x q hi hq=>?_⟩,hq45.mono mup⟩
  have hin:i<n:=by rw [<- hol];exact (List.getElem?_eq_some_iff.1 hi).1
  unfold sumsR at hq
  rw [List.getElem?_map,List.getElem?_range hin] at hq
  cases hq
  exact (ho i x om_ hi).mono mup

def optM (rows:List (List Str × Str))(obj pt d:List Str):Bool :=
 match aN obj,aN pt,cA (obj.length:Int) rows d with
 | some c,some x,some (ps,ms)=>decide (x.length=c.length) && ps.all (fun p=>decide (sgn (dotR p.1 x-p.2)<=0)) && ((List.range c.length).all fun v=>sgn (dotR ms (colR ps v)+gQ c v) == 0) && sgn (dotR ms (ps.map (·.2))+dotR c x) == 0
 | _,_,_=>false
theorem rowsM_ok {n:Int}:∀ {l:List (List Str × Str)}{ps:List (List Rat × Rat)},cP n l=some ps->ps.length=l.length/\∀ p∈ps,(p.1.length:Int)=n/\(∀ q∈p.1,SmQ 200 q)/\SmQ 200 p.2
 | [],ps,h=>by simp only [cP,Option.some.injEq] at h;subst h;exact ⟨rfl,by simp⟩
 | a::l,ps,h=>by
  simp only [cP] at h
  cases ha:rowM n a with
  | none=>rw [ha] at h;cases h
  | some q =>
   cases hl:cP n l with
   | none=>rw [ha,hl] at h;cases h
   | some qs =>
    rw [ha,hl] at h
    simp only [Option.some.injEq] at h
    subst h
    obtain ⟨h1,h2⟩:=rowsM_ok hl
    refine ⟨by simp [h1],fun p hp=>?_⟩
    rcases List.mem_cons.1 hp with rfl | hp
    ·unfold rowM at ha
     cases hr:aN a.1 with
     | none=>rw [hr] at ha;cases ha
     | some f =>
      cases hb:bP a.2 with
      | none=>rw [hr,hb] at ha;cases ha
      | some b =>
       rw [hr,hb] at ha
       simp only at ha
       split at ha
       ·cases ha
        rename_i hn
        exact ⟨hn,readsM_sm hr,readM_sm hb⟩
       ·cases ha
    ·exact h2 p hp
theorem openM_ok {n:Int}{rows:List (List Str × Str)}{d:List Str}{ps:List (List Rat × Rat)}{ms:List Rat}(h:cA n rows d=some (ps,ms)):ps.length=rows.length/\ms.length=rows.length/\SysSm 200 ps ms/\∀ p∈ps,(p.1.length:Int)=n:=by
 unfold cA at h
 cases hr:cP n rows with
 | none=>rw [hr] at h;cases h
 | some qs =>
  cases hd:aN d with
  | none=>rw [hr,hd] at h;cases h
  | some ns =>
   rw [hr,hd] at h
   simp only at h
   split at h
   ·cases h
    rename_i hc
    obtain ⟨h1,h2⟩:=rowsM_ok hr
    exact ⟨h1,hc.1,⟨fun p hp=>(h2 p hp).2,readsM_sm hd⟩,fun p hp=>(h2 p hp).1⟩
   ·cases h
theorem optimal_fn (C:Mem)(hT:Tabs C)(v vo vp:Value)(Ad:Option Addr)(nd cd:Nat)(rows:List (List Str × Str))(obj pt d:List Str)(hv:RowsIn C v rows)(ho:Sl C 1 vo (obj.map encS))(hp:Sl C 1 vp (pt.map encS))(hd:Sl C 1 (.slice Ad nd cd) (d.map encS))(hl:rows.length<=1000)(hf:∀ r∈rows,r.1.length<=1000000/\(∀ s∈r.1,s.length<1000000)/\r.2.length<1000000)(hol:obj.length<=1000)(hos:∀ s∈obj,s.length<1000000)(hpl:pt.length<=1000000)(hps:∀ s∈pt,s.length<1000000)(hdl:d.length<=1000000)(hds:∀ s∈d,s.length<1000000) :
  Gives cx.P 8 [v,vo,vp,.agg ⟨[.slice Ad nd cd]⟩] C (.bool (optM rows obj pt d)):=by
 obtain ⟨Ao,co,rfl,hox,hox2,_⟩:=id ho
 have hmx:maxLen<=9223372036854775807:=by simp [maxLen]
 simp only [List.length_map] at ho hox hox2 ⊢
 refine Fn.it kr_ Tryz.func8 105 fun w0=>?_
 refine G.rg fun R hR=>?_
 refine D.aX (fun b7=>?_)
 refine D.q4 1 0 1 2 7 hR ?_;clear hR R
 refine G.rp 1 fun R hR=>?_
 refine D.ax (readAll_fn _ _ obj (ho.mono mup) om_ hos) rfl rfl rfl rfl rfl rfl rfl fl_ (fun v22 C22 hle22 hq22=>?_)
 obtain ⟨Ac,nc,cc,rfl,hc⟩:=hq22
 refine D.q6 5 0 1 2 7 9 10 hR ?_;clear hR R
 refine G.rp 1 fun R hR=>?_
 refine D.aS (readAll_fn _ _ pt (hp.mono mup) hpl hps) (fun v27 C27 hle27 hq27=>?_)
 obtain ⟨Ax,nx,cx2,rfl,hx⟩:=hq27
 refine D.q7 5 0 1 7 9 10 11 12 hR ?_;clear hR R
 refine G.rp 3 fun R hR=>?_
 refine D.ah (.head _) ?_
 refine D.ax (copen_fn _ _ (obj.length:Int) Ad nd cd rows d (hv.mono mup) (hd.mono mup) om_ hf hdl hds) rfl rfl rfl rfl rfl rfl rfl fl_ (fun v35 C35 hle35 hq35=>?_)
 obtain ⟨y,rfl,hy⟩:=hq35
 refine D.ps 3 ?_
 refine D.aC (fun b13=>?_)
 refine D.ag (j:=0) ?_
 refine D.q6 1 9 10 11 12 13 14 hR ?_;clear hR R
 refine G.rp 5 fun R hR=>?_
 refine D.aG rfl rfl rfl rfl rfl rfl rfl rfl ?_
 refine D.ps 3 ?_
 refine D.aG rfl rfl rfl rfl rfl rfl rfl rfl ?_
 refine D.ps 6 ?_
 refine D.aG rfl rfl rfl rfl rfl rfl rfl rfl ?_
 refine D.e4 9 11 13 54 hR ?_;clear hR R
 refine G.cd (fun h54=>?_) fun h54=>?_
 ·have hno:optM rows obj pt d=false:=by
   unfold optM
   cases h1:aN obj with
   | none=>rfl
   | some cs =>
    cases h2:aN pt with
    | none=>rfl
    | some zs =>
     cases h3:cA (obj.length:Int) rows d with
     | none=>rfl
     | some pm =>
      obtain ⟨ps,ms⟩:=pm
      obtain ⟨_,_,e⟩:=(hc cs h1).form
      injection e with e1 e2 e3
      obtain ⟨_,_,e'⟩:=(hx zs h2).form
      injection e' with e1' e2' e3'
      rw [h1,h2,h3,e2,e2'] at h54
      have h4:¬ zs.length=cs.length:=by simpa [Int.ofNat_inj] using h54
      simp [h4]
  refine G.z1 1 8 ?_
  refine G.rf ?_
  exact ⟨by rw [hno],rfl⟩
 ·obtain ⟨cs,zs,ps,ms,h1,h2,h3,h4⟩:∃ cs zs ps ms,aN obj=some cs/\aN pt=some zs/\cA (obj.length:Int) rows d=some (ps,ms)/\(nx:Int)=nc:=by
   cases h1:aN obj with
   | none=>rw [h1] at h54;simp at h54
   | some cs =>
    cases h2:aN pt with
    | none=>rw [h1,h2] at h54;simp at h54
    | some zs =>
     cases h3:cA (obj.length:Int) rows d with
     | none=>rw [h1,h2,h3] at h54;simp at h54
     | some pm =>
      obtain ⟨ps,ms⟩:=pm
      refine ⟨cs,zs,ps,ms,rfl,rfl,rfl, ?_⟩
      rw [h1,h2,h3] at h54
      simpa using h54
  have hcL:=hc cs h1
  have hxL:=hx zs h2
  obtain ⟨⟨vs,hsv,hvs⟩,hb,hm⟩:=hy ps ms h3
  have hsys:=hy ps ms h3
  obtain ⟨_,_,e⟩:=hcL.form
  injection e with e1 e2 e3
  obtain ⟨_,_,e'⟩:=hxL.form
  injection e' with e1' e2' e3'
  subst e2 e2'
  have hcl:=readsM_len h1
  obtain ⟨hpsl,hmsl,hsm,hpn⟩:=openM_ok h3
  have hvl:vs.length=ps.length:=by have:=hvs.1;simpa using this
  obtain ⟨Av,cv,hve,_⟩:=id hsv
  have hyn:y.n=vs.length:=by injection hve with e1 e2 e3;simpa using e2
  have hzsm:=readsM_sm h2
  have hcsm:=readsM_sm h1
  have hzc:zs.length=cs.length:=by omega
  obtain ⟨bs,hbs,hbr⟩:=hb
  have hopt:optM rows obj pt d=(decide (zs.length=cs.length) && ps.all (fun p=>decide (sgn (dotR p.1 zs-p.2)<=0)) && ((List.range cs.length).all fun v=>sgn (dotR ms (colR ps v)+gQ cs v) == 0) && sgn (dotR ms (ps.map (·.2))+dotR cs zs) == 0):=by
   unfold optM;rw [h1,h2,h3]
  refine G.rp 1 fun R hR=>?_
  refine D.ah (.head _) ?_
  refine D.q6 2 9 11 13 56 57 58 hR ?_;clear hR R
  refine G.loop (fun fr C' L' μ=>∃ (i:Nat),(i<=ps.length/\∀ p∈ps.take i,sgn (dotR p.1 zs-p.2)<=0)/\fr=[(9,[],.slice Ac cs.length cc),(11,[],.slice Ax zs.length cx2),(13,[],.pointer (some ⟨b13,0,none⟩)),(56,[],.slice y.A y.n y.c),(57,[],.int .i64 y.n),(58,[],.int .i64 i)]/\L'=[.obj b13 (.cells ⟨y.enc⟩ 80 (0,0)),.obj b7 (.cells ⟨[.slice Ad nd cd]⟩ 38 (0,0))]/\μ=ps.length-i) (h_6 9 11 13 56 57 58) ⟨0,⟨Nat.zero_le _,by simp⟩,rfl,rfl,rfl⟩ (fun fr C0' L0' m hle0 hI=>?_)
  obtain ⟨i,⟨hi,hall⟩,rfl,rfl,rfl⟩:=hI
  refine G.z7 1 9 11 13 56 57 58 59 ?_
  refine G.cd (fun h59=>?_) fun h59=>?_
  ·have hil:i<ps.length:=by
    have:(i:Int)<y.n:=by simpa using h59
    omega
   obtain ⟨p,hp0⟩:∃ p,ps[i]?=some p:=⟨ps[i],List.getElem?_eq_getElem hil⟩
   have hpm:=List.mem_of_getElem? hp0
   obtain ⟨sv,hsv0⟩:∃ sv,vs[i]?=some sv:=⟨vs[i]'om_,List.getElem?_eq_getElem _⟩
   have hrow:(vs.map SV.enc)[i]?=some sv.enc:=by rw [List.getElem?_map,hsv0];rfl
   have hfL:=hvs.2 i sv p.1 hsv0 (by rw [List.getElem?_map,hp0];rfl)
   obtain ⟨bx,hb0,hbrow,hbF⟩:=hbr.get (i:=i) (q:=p.2) (by rw [List.getElem?_map,hp0];rfl)
   have hpl:p.1.length=obj.length:=by have:=hpn p hpm;omega
   have hds1:SmQ 401001 (dotR p.1 zs):=(dotN_sm (hsm.1 p hpm).1 hzsm om_ _ (Nat.le_refl _)).le om_
   refine G.rp 1 fun R hR=>?_
   refine D.ak (hsv.mono mup) rfl rfl rfl rfl rfl rfl rfl rfl rfl rfl om_ hrow fl_ (fun p61 hp61=>?_)
   refine D.ac hp61 ?_
   refine D.q8 2 9 11 13 15 16 56 57 58 hR ?_;clear hR R
   refine G.aH [0,1,3,4,5,6,7,2,8,9] [] rfl kr_ (fun R hB hR=>?_)
   refine D.ps 3 ?_
   refine D.ah (.head _) ?_
   refine D.ae ?_
   refine D.ak (hbs.mono mup) rfl rfl rfl rfl rfl rfl rfl rfl rfl rfl om_ hbrow fl_ (fun p69 hp69=>?_)
   refine D.ac hp69 ?_
   refine D.ax (sum_fn _ (hT.mono mup) _ _ p.1 zs 200 200 (hfL.mono mup) (hxL.mono mup) om_ (hsm.1 p hpm).1 hzsm om_) rfl rfl rfl rfl rfl rfl rfl fl_ (fun v65 C65 hle65 hq65=>?_)
   refine D.ax (fcmp_fn (hq65.mono mup) (hbF.mono mup) hds1 (hsm.1 p hpm).2 om_) rfl rfl rfl rfl rfl rfl rfl fl_ (fun v71 C71 hle71 hq71=>?_)
   obtain rfl:=hq71
   refine D.ae ?_
   refine D.e7 9 11 13 56 57 58 72 hR ?_;clear hR hB R
   refine G.cd (fun h72=>?_) fun h72=>?_
   ·have hno:optM rows obj pt d=false:=by
     have h5:0<sgn (dotR p.1 zs-p.2):=by simpa using h72
     have h6:(ps.all fun p=>decide (sgn (dotR p.1 zs-p.2)<=0))=false:=by
      rw [List.all_eq_false]
      refine ⟨p,hpm, ?_⟩
      simp;omega
     rw [hopt,h6];simp
    refine G.z1 1 8 ?_
    refine G.rf ?_
    exact ⟨by rw [hno],rfl⟩
   ·have h5:sgn (dotR p.1 zs-p.2)<=0:=by
     have:¬ 0<sgn (dotR p.1 zs-p.2):=by simpa using h72
     omega
    refine G.rg fun R hR=>?_
    refine D.aq _ ?_
    refine D.q6 1 9 11 13 56 57 58 hR ?_;clear hR R
    refine G.ap (m':=ps.length-(i+1)) om_ mup (h_6 9 11 13 56 57 58) ⟨i+1,⟨by omega,fun x hx=>by
     rw [List.take_add_one,hp0] at hx
     rcases List.mem_append.1 hx with h6 | h6
     ·exact hall x h6
     ·simp at h6;subst h6;exact h5⟩,rfl,rfl,rfl⟩
  ·have hil:ps.length<=i:=by
    have:¬ (i:Int)<y.n:=by simpa using h59
    omega
   rw [List.take_of_length_le hil] at hall
   have hA:(ps.all fun p=>decide (sgn (dotR p.1 zs-p.2)<=0))=true:=by
    rw [List.all_eq_true];exact fun p hp=>by simpa using hall p hp
   refine G.rg fun R hR=>?_
   refine D.ah (.head _) ?_
   refine D.ps 2 ?_
   refine D.ax (sums_fn _ (hT.mono mup) y ps ms cs.length (by obtain ⟨⟨vs',a1,a2⟩,a3,a4⟩:=hsys;exact ⟨⟨vs',a1.mono mup,a2.mono mup⟩,a3.mono mup,a4.mono mup⟩) om_ (fun p hp=>by have:=hpn p hp;omega) hsm om_ om_) rfl rfl rfl rfl rfl rfl rfl fl_ (fun v78 C78 hle78 hq78=>?_)
   obtain ⟨As,c8,x8,rfl,⟨ws,hws,hwr⟩,hworth⟩:=hq78
   refine D.ps 3 ?_
   refine D.aC (fun b18=>?_)
   refine D.ae ?_
   refine D.ag (j:=0) ?_
   refine D.e4 9 11 17 18 hR ?_;clear hR R
   refine G.z6 3 9 11 17 18 82 83 ?_
   refine G.loop (fun fr C' L' μ=>∃ (i:Nat),(i<=cs.length/\∀ v,v<i->sgn (dotR ms (colR ps v)+gQ cs v)=0)/\fr=[(9,[],.slice Ac cs.length cc),(11,[],.slice Ax zs.length cx2),(17,[],.slice As cs.length c8),(18,[],.pointer (some ⟨b18,0,none⟩)),(82,[],.int .i64 cs.length),(83,[],.int .i64 i)]/\L'=[.obj b18 (.cells ⟨x8.enc⟩ 86 (0,0)),.obj b13 (.cells ⟨y.enc⟩ 80 (0,0)),.obj b7 (.cells ⟨[.slice Ad nd cd]⟩ 38 (0,0))]/\μ=cs.length-i) (h_6 9 11 17 18 82 83) ⟨0,⟨Nat.zero_le _,fun v hv=>by omega⟩,rfl,rfl,rfl⟩ (fun fr C1' L1' m hle1 hI=>?_)
   obtain ⟨i,⟨hj,hcol⟩,rfl,rfl,rfl⟩:=hI
   refine G.z7 1 9 11 17 18 82 83 84 ?_
   refine G.cd (fun h84=>?_) fun h84=>?_
   ·have hjl:i<cs.length:=by simpa using h84
    have hsl:(sumsR ps ms cs.length).length=cs.length:=by simp [sumsR]
    obtain ⟨w1,hw0,hwrow,hwF⟩:=hwr.get (gQ_get (l:=sumsR ps ms cs.length) (i:=i) om_)
    rw [sumsR_get hjl] at hwF
    obtain ⟨ds,hdsS,hdr⟩:=hcL
    obtain ⟨w2,hw20,hw2row,hw2F⟩:=hdr.get (gQ_get hjl)
    have hcolS:∀ q∈colR ps i,SmQ 200 q:=fun q hq=>by
     unfold colR at hq
     obtain ⟨p,hp,rfl⟩:=List.mem_map.1 hq
     exact (hsm.1 p hp).1 _ (gQ_mem (by have:=hpn p hp;omega))
    have hds2:SmQ 401001 (dotR ms (colR ps i)):=(dotN_sm hsm.2 hcolS (by unfold colR;rw [List.length_map];omega) _ (Nat.le_refl _)).le om_
    refine G.z7 2 9 11 17 18 19 82 83 ?_
    refine G.aH [0,1,2,3,4,5,6,7,8,9,10] [(9,1)] rfl kr_ (fun R hB hR=>?_)
    refine D.ps 2 ?_
    refine D.ak (hws.mono mup) rfl rfl rfl rfl rfl rfl rfl rfl rfl rfl om_ hwrow fl_ (fun p88 hp88=>?_)
    refine D.ac hp88 ?_
    refine D.ps 2 ?_
    refine D.ak (hdsS.mono mup) rfl rfl rfl rfl rfl rfl rfl rfl rfl rfl om_ hw2row fl_ (fun p92 hp92=>?_)
    refine D.ac hp92 ?_
    refine D.ax (fadd_fn (hwF.mono mup) (hw2F.mono mup) hds2 (hcsm _ (gQ_mem hjl)) om_) rfl rfl rfl rfl rfl rfl rfl fl_ (fun v94 C94 hle94 hq94=>?_)
    refine D.bn (fun _=>(sign_fn hq94)) ?_
    refine D.ae ?_
    refine D.e7 9 11 17 18 82 83 96 hR ?_;clear hR hB R
    refine G.cd (fun h96=>?_) fun h96=>?_
    ·have hno:optM rows obj pt d=false:=by
      have h5:¬ sgn (dotR ms (colR ps i)+gQ cs i)=0:=by simpa using h96
      have h6:((List.range cs.length).all fun v=>sgn (dotR ms (colR ps v)+gQ cs v) == 0)=false:=by
       rw [List.all_eq_false]
       exact ⟨i,List.mem_range.2 hjl,by simpa using h5⟩
      rw [hopt,h6];simp
     refine G.z1 1 8 ?_
     refine G.rf ?_
     exact ⟨by rw [hno],rfl⟩
    ·have h5:sgn (dotR ms (colR ps i)+gQ cs i)=0:=by simpa using h96
     refine G.rg fun R hR=>?_
     refine D.aq _ ?_
     refine D.q6 1 9 11 17 18 82 83 hR ?_;clear hR R
     refine G.ap (m':=cs.length-(i+1)) om_ mup (h_6 9 11 17 18 82 83) ⟨i+1,⟨by omega,fun v hv=>by
      by_cases hvi:v=i
      ·rw [hvi];exact h5
      ·exact hcol v om_⟩,rfl,rfl,rfl⟩
   ·have hjl:i=cs.length:=by
     have:¬ i<cs.length:=by simpa using h84
     omega
    have hB:((List.range cs.length).all fun v=>sgn (dotR ms (colR ps v)+gQ cs v) == 0)=true:=by
     rw [List.all_eq_true]
     intro v hv
     have:=hcol v (by rw [hjl];exact List.mem_range.1 hv)
     simpa using this
    have hbss:∀ q∈ps.map (·.2),SmQ 200 q:=fun q hq=>by obtain ⟨p,hp,rfl⟩:=List.mem_map.1 hq;exact (hsm.1 p hp).2
    have hds3:SmQ 401001 (dotR ms (ps.map (·.2))):=(dotN_sm hsm.2 hbss (by rw [List.length_map];omega) _ (Nat.le_refl _)).le om_
    have hds4:SmQ 401001 (dotR cs zs):=(dotN_sm hcsm hzsm om_ _ (Nat.le_refl _)).le om_
    refine G.aH [0,1,2,3,4,5,6,7] [(5,1)] rfl kr_ (fun R hB hR=>?_)
    refine D.ah (.head _) ?_
    refine D.ps 2 ?_
    refine D.ax (sum_fn _ (hT.mono mup) _ _ cs zs 200 200 (hcL.mono mup) (hxL.mono mup) om_ hcsm hzsm om_) rfl rfl rfl rfl rfl rfl rfl fl_ (fun v101 C101 hle101 hq101=>?_)
    refine D.ax (fadd_fn (hworth.mono mup) (hq101.mono mup) hds3 hds4 om_) rfl rfl rfl rfl rfl rfl rfl fl_ (fun v102 C102 hle102 hq102=>?_)
    refine D.bn (fun _=>(sign_fn hq102)) ?_
    refine D.ps 2 ?_
    refine D.e1 8 hR ?_;clear hR hB R
    refine G.rf ?_
    refine ⟨?_,rfl⟩
    rw [hopt,hA,hB]
    simp [hzc]

theorem frC_parts {C:Mem}{x:FV}{q:Rat}(h:FrC C (.agg ⟨x.enc⟩) q):x.b=decide (q.num<0)/\(x.n=0 ↔ sgn q=0):=by
 obtain ⟨u,w,e,hu,_⟩:=h
 simp only [FV.enc,encF,Value.agg.injEq,Array.mk.injEq,List.cons.injEq,Value.bool.injEq,and_true] at e
 obtain ⟨e1,e2,_⟩:=e
 obtain ⟨A,k,c,e3,e4,_⟩:=NatC.form hu
 rw [<- e2] at e3
 simp only [Value.slice.injEq] at e3
 refine ⟨e1, ?_⟩
 rw [e3.2.1,e4]
 have hz:q.num=0 ↔ q=0:=Rat.num_eq_zero
 unfold sgn
 constructor
 ·intro h
  have:q=0:=hz.1 om_
  rw [this];decide
 ·intro h
  have:q=0:=by
   by_cases h1:q<0
   ·rw [if_pos h1] at h;cases h
   ·rw [if_neg h1] at h
    by_cases h2:q=0
    ·exact h2
    ·rw [if_neg h2] at h;cases h
  rw [this];decide
theorem cref1_fn (C:Mem)(x:FV)(q:Rat)(h:FrC C (.agg ⟨x.enc⟩) q):Gives cx.P 31 [.agg ⟨x.enc⟩] C (.bool (!decide (x.n=0))):=by
 have hz:decide (x.n=0)=decide (sgn q=0):=by rw [decide_eq_decide];exact (frC_parts h).2
 rw [hz]
 refine Fn.it kr_ Tryz.func31 6 fun w0=>?_
 refine G.rg fun R hR=>?_
 refine D.aX (fun b1=>?_)
 refine D.q1 1 1 hR ?_
 refine G.freeze 0 rfl (fun C1 hle1 hb1=>?_)
 refine G.rg fun R hR=>?_
 refine D.ac (bkT hb1 3) ?_
 refine D.aj (sign_fn (h.mono mup)) ?_
 refine D.q1 2 2 hR ?_
 refine G.rf ?_
 exact ⟨by rfl,rfl⟩
theorem canyNz_fn (C:Mem)(v:Value)(qs:List Rat)(h:FrL C v qs) :
  Gives cx.P 30 [v,.func (.func 31) #[] #[]] C (.bool (qs.any fun q=>!decide (sgn q=0))):=by
 obtain ⟨xs,h1,h2⟩:=h
 have key:∀ (i:Nat)(x:FV),xs[i]?=some x->∃ q,qs[i]?=some q/\FrC C (.agg ⟨x.enc⟩) q:=fun i x hx=>by
  have hi:=(List.getElem?_eq_some_iff.1 hx).1
  have hi2:i<qs.length:=by rw [<- h2.1];exact hi
  exact ⟨qs[i],List.getElem?_eq_getElem hi2,h2.2 i x qs[i] hx (List.getElem?_eq_getElem hi2)⟩
 have hc:=contFr_fn C v xs 31 [] (fun x=>!decide (x.n=0)) h1 (fun x hx D hD=>by
  obtain ⟨i,hi⟩:=List.getElem?_of_mem hx
  obtain ⟨q,_,hq⟩:=key i x hi
  exact cref1_fn D x q (hq.mono hD))
 have e:(xs.any fun x=>!decide (x.n=0))=qs.any fun q=>!decide (sgn q=0):=by
  rw [Bool.eq_iff_iff,List.any_eq_true,List.any_eq_true]
  constructor
  ·rintro ⟨x,hx,h3⟩
   obtain ⟨i,hi⟩:=List.getElem?_of_mem hx
   obtain ⟨q,hq,hf⟩:=key i x hi
   refine ⟨q,List.mem_of_getElem? hq, ?_⟩
   have hz:decide (x.n=0)=decide (sgn q=0):=by rw [decide_eq_decide];exact (frC_parts hf).2
   rw [<- hz];exact h3
  ·rintro ⟨q,hq,h3⟩
   obtain ⟨i,hi⟩:=List.getElem?_of_mem hq
   have hil:=(List.getElem?_eq_some_iff.1 hi).1
   have hi2:i<xs.length:=by rw [h2.1];exact hil
   have hf:=h2.2 i xs[i] q (List.getElem?_eq_getElem hi2) hi
   refine ⟨xs[i],List.getElem_mem _, ?_⟩
   have hz:decide (xs[i].n=0)=decide (sgn q=0):=by rw [decide_eq_decide];exact (frC_parts hf).2
   rw [hz];exact h3
 rw [e] at hc
 exact hc
theorem rowsM_in {n:Int}:∀ {l:List (List Str × Str)}{ps:List (List Rat × Rat)},cP n l=some ps->∀ p∈ps,∃ r∈l,rowM n r=some p
 | [],ps,h,p,hp=>by cases h;cases hp
 | s::l,ps,h,p,hp=>by
  simp only [cP] at h
  cases h1:rowM n s with
  | none=>rw [h1] at h;cases h
  | some q =>
   cases h2:cP n l with
   | none=>rw [h1,h2] at h;cases h
   | some qs =>
    rw [h1,h2] at h
    cases h
    rcases List.mem_cons.1 hp with rfl | hp
    ·exact ⟨s,List.mem_cons_self,h1⟩
    ·obtain ⟨r,hr,e⟩:=rowsM_in h2 p hp
     exact ⟨r,List.mem_cons_of_mem _ hr,e⟩
theorem openM_parts {n:Int}{rows:List (List Str × Str)}{d:List Str}{ps:List (List Rat × Rat)}{ms:List Rat}(h:cA n rows d=some (ps,ms)):cP n rows=some ps/\aN d=some ms/\ms.length=rows.length/\ms.any (fun q=>decide (q.num<0))=false:=by
 unfold cA at h
 cases h1:cP n rows with
 | none=>rw [h1] at h;cases h
 | some qs =>
  cases h2:aN d with
  | none=>rw [h1,h2] at h;cases h
  | some ns =>
   rw [h1,h2] at h
   simp only at h
   split at h
   ·rename_i h3
    cases h
    exact ⟨rfl,rfl,h3⟩
   ·cases h
theorem rowM_len {n:Int}{r:List Str × Str}{p:List Rat × Rat}(h:rowM n r=some p):p.1.length=r.1.length:=by
 unfold rowM at h
 cases h1:aN r.1 with
 | none=>rw [h1] at h;cases h
 | some f =>
  cases h2:bP r.2 with
  | none=>rw [h1,h2] at h;cases h
  | some b =>
   rw [h1,h2] at h
   simp only at h
   split at h
   ·cases h;exact readsM_len h1
   ·cases h
def refC (n:Int)(rows:List (List Str × Str))(d:List Str):Bool:=!decide (n<0) && !decide (rows.length=0) && (match cA n rows d with
 | none=>false
 | some (ps,ms)=>decide ((dotR ms (ps.map (·.2))).num<0) && !((sumsR ps ms n.toNat).any fun q=>!decide (sgn q=0)))
theorem crefutes_fn (C:Mem)(hT:Tabs C)(v:Value)(n:Int)(Ad:Option Addr)(nd cd:Nat)(rows:List (List Str × Str))(d:List Str)(hv:RowsIn C v rows)(hd:Sl C 1 (.slice Ad nd cd) (d.map encS))(hl:rows.length<=1000)(hf:∀ r∈rows,r.1.length<=1000000/\(∀ s∈r.1,s.length<1000000)/\r.2.length<1000000)(hdl:d.length<=1000000)(hds:∀ s∈d,s.length<1000000) :
  Gives cx.P 9 [v,.int .i64 n,.agg ⟨[.slice Ad nd cd]⟩] C (.bool (refC n rows d)):=by
 have hv0:=hv
 obtain ⟨rs,hsv,hrl,hrs⟩:=hv
 obtain ⟨A0,c0,rfl,hlx,hlx2,_⟩:=id hsv
 have hmx:maxLen<=9223372036854775807:=by simp [maxLen]
 simp only [List.length_map] at hsv hlx hlx2 hv0 ⊢
 refine Fn.it kr_ Tryz.func9 40 fun w0=>?_
 refine G.rg fun R hR=>?_
 refine D.aX (fun b5=>?_)
 refine D.q3 1 0 1 5 hR ?_;clear hR R
 refine G.freeze 0 rfl (fun C1 hle1 hb1=>?_)
 refine G.rp 6 fun R hR=>?_
 refine D.aG rfl rfl rfl rfl rfl rfl rfl rfl ?_
 refine D.e4 0 1 5 17 hR ?_;clear hR R
 refine G.cd (fun h17=>?_) fun h17=>?_
 ·have hc:n<0∨rows.length=0:=by
   simp only [Bool.or_eq_true,decide_eq_true_eq,beq_iff_eq] at h17
   omega
  refine G.z1 1 6 ?_
  refine G.rf ?_
  exact ⟨by unfold refC;rcases hc with hc | hc <;> simp [hc],rfl⟩
 ·have hc:¬ n<0/\¬ rows.length=0:=by
   simp only [Bool.or_eq_false_iff,decide_eq_false_iff_not,beq_eq_false_iff_ne] at h17
   omega
  have hR:refC n rows d=(match cA n rows d with
   | none=>false
   | some (ps,ms)=>decide ((dotR ms (ps.map (·.2))).num<0) && !((sumsR ps ms n.toNat).any fun q=>!decide (sgn q=0))):=by
   unfold refC
   rw [decide_eq_false hc.1,decide_eq_false hc.2];rfl
  refine G.rp 2 fun R hR=>?_
  refine D.ac (bkT hb1 1) ?_
  refine D.ax (copen_fn _ _ n Ad nd cd rows d (hv0.mono mup) (hd.mono mup) om_ hf hdl hds) rfl rfl rfl rfl rfl rfl rfl fl_ (fun v22 C22 hle22 hq22=>?_)
  obtain ⟨y,rfl,hy⟩:=hq22
  refine D.ps 3 ?_
  refine D.aC (fun b7=>?_)
  refine D.ag (j:=0) ?_
  refine D.q3 1 1 7 8 hR ?_;clear hR R
  refine G.z3 2 1 7 26 ?_
  refine G.cd (fun h26=>?_) fun h26=>?_
  ·have hno:cA n rows d=none:=by
    cases h:cA n rows d with
    | none=>rfl
    | some p=>rw [h] at h26;cases h26
   refine G.z1 1 6 ?_
   refine G.rf ?_
   exact ⟨by rw [hR,hno],rfl⟩
  ·obtain ⟨ps,ms,hpm⟩:∃ ps ms,cA n rows d=some (ps,ms):=by
    cases h:cA n rows d with
    | none=>rw [h] at h26;cases h26
    | some p=>exact ⟨p.1,p.2,rfl⟩
   have hsys:=hy ps ms hpm
   obtain ⟨hpsl,hmsl,hsm,hpn⟩:=openM_ok hpm
   obtain ⟨k,hk⟩:∃ k:Nat,n=(k:Nat):=⟨n.toNat,by omega⟩
   subst hk
   have hk6:k<=1000000:=by
    cases hps:ps with
    | nil=>rw [hps] at hpsl;simp at hpsl;omega
    | cons p ps' =>
     have h1:=hpn p (by rw [hps];exact List.mem_cons_self)
     obtain ⟨r,hr,h3⟩:=rowsM_in (openM_parts hpm).1 p (by rw [hps];exact List.mem_cons_self)
     have h4:=(hf r hr).1
     have h5:p.1.length=r.1.length:=rowM_len h3
     omega
   refine G.freeze 0 rfl (fun C7 hle7 hb7=>?_)
   refine G.rg fun R hR=>?_
   refine D.ac (bkT hb7 3) ?_
   refine D.ae ?_
   refine D.ax (sums_fn _ (hT.mono mup) y ps ms k (by obtain ⟨⟨vs',a1,a2⟩,a3,a4⟩:=hsys;exact ⟨⟨vs',a1.mono mup,a2.mono mup⟩,a3.mono mup,a4.mono mup⟩) om_ (fun p hp=>by have:=hpn p hp;omega) hsm om_ hk6) rfl rfl rfl rfl rfl rfl rfl fl_ (fun v30 C30 hle30 hq30=>?_)
   obtain ⟨As,c8,x8,rfl,hws,hworth⟩:=hq30
   refine D.ps 3 ?_
   refine D.aC (fun b10=>?_)
   refine D.ae ?_
   refine D.ag (j:=0) ?_
   refine D.e2 9 10 hR ?_;clear hR R
   refine G.freeze 0 rfl (fun C10 hle10 hb10=>?_)
   refine G.rp 1 fun R hR=>?_
   refine D.ac (bkT hb10 1) ?_
   refine D.ps 2 ?_
   refine D.bn (fun _=>(canyNz_fn _ _ _ (hws.mono mup))) ?_
   refine D.ae ?_
   refine D.au ?_
   refine D.q1 1 6 hR ?_;clear hR R
   refine G.rf ?_
   refine ⟨?_,rfl⟩
   rw [hR,hpm]
   simp only [Int.toNat_natCast]
   rw [show x8.b=decide ((dotR ms (ps.map (·.2))).num<0) from (frC_parts hworth).1]

theorem readM_qtx {q p:Rat}(h:bP (qtx q)=some p):p=q:=by
 obtain ⟨hd,he⟩:=cut1_drop (qtx q)
 rw [cut1_qtx] at hd he
 simp only at hd he
 rw [bZ] at hd
 have h1:(cut1 47 (aP 45 (qtx q)).1).1=decS q.num.natAbs:=(Prod.mk.inj hd).1.symm
 have h2:(aP 45 (qtx q)).2=decide (q.num<0):=(Prod.mk.inj hd).2.symm
 unfold bP at h
 rw [h1,h2,<- he,(aO _).2] at h
 have e:ratB (decide (q.num<0)) q.num.natAbs q.den=q:=by
  unfold ratB
  have e2:(if decide (q.num<0)=true then -((q.num.natAbs:Nat):Int) else ((q.num.natAbs:Nat):Int))=q.num:=by
   by_cases hn:q.num<0
   ·rw [if_pos (decide_eq_true hn)];omega
   ·rw [if_neg (by rw [decide_eq_false hn];decide)];omega
  rw [e2,Rat.mkRat_self]
 split at h
 ·unfold denS at h
  split at h
  ·rename_i hb
   split at hb
   ·rename_i h1d
    cases h
    rw [<- h1d,e]
   ·cases hb
  ·rename_i b hb
   split at hb
   ·cases hb
   ·cases hb
    split at h
    ·cases h
     rw [(aO _).2,e]
    ·cases h
 ·cases h
theorem dg:∀ l:List Str,(aN l).isSome=l.all aY
 | []=>rfl
 | s::l=>by
  rw [List.all_cons,ratOk_eq,<- dg l]
  simp only [aN]
  cases bP s <;> cases aN l <;> rfl
theorem df:∀ {ds ms:List Rat},aN (ds.map qtx)=some ms->ms=ds
 | [],ms,h=>by cases h;rfl
 | q::ds,ms,h=>by
  simp only [List.map_cons,aN] at h
  cases h1:bP (qtx q) with
  | none=>rw [h1] at h;cases h
  | some p =>
   cases h2:aN (ds.map qtx) with
   | none=>rw [h1,h2] at h;cases h
   | some ps =>
    rw [h1,h2] at h
    cases h
    rw [readM_qtx h1,df h2]
theorem bv {n:Int}{l:List Str}:bk n l=0 ↔ (l.length:Int)=n/\l.all aY=true:=by
 unfold bk
 by_cases h:(l.length:Int)=n
 ·rw [if_pos h]
  rcases ey (l.all aY) with ⟨h1,h2⟩ | ⟨h1,h2⟩
  ·rw [h1];exact ⟨fun _=>⟨h,h2⟩,fun _=>rfl⟩
  ·rw [h1,h2];exact ⟨fun h=>(by cases h),fun h=>(by cases h.2)⟩
 ·rw [if_neg h];exact ⟨fun h=>(by cases h),fun h2=>absurd h2.1 h⟩
theorem rowZ_zero {n:Int}{r:List Str × Str}:rowZ n r=0 ↔ bk n r.1=0/\aY r.2=true:=by
 unfold rowZ
 by_cases h:bk n r.1=0
 ·rw [if_neg (fun hn=>hn h)]
  rcases ey (aY r.2) with ⟨h1,h2⟩ | ⟨h1,h2⟩
  ·rw [h1];exact ⟨fun _=>⟨h,h2⟩,fun _=>rfl⟩
  ·rw [h1,h2];exact ⟨fun h=>(by cases h),fun h=>(by cases h.2)⟩
 ·rw [if_pos h];exact ⟨fun h2=>absurd h2 h,fun h2=>absurd h2.1 h⟩
theorem rowM_some (n:Int)(r:List Str × Str):(rowM n r).isSome=true ↔ rowZ n r=0:=by
 rw [rowZ_zero,bv,<- dg,ratOk_eq]
 unfold rowM
 cases e1:aN r.1 with
 | none=>exact ⟨fun h=>(by cases h),fun h=>(by cases h.1.2)⟩
 | some f =>
  have hl:=readsM_len e1
  cases e2:bP r.2 with
  | none=>exact ⟨fun h=>(by cases h),fun h=>(by cases h.2)⟩
  | some b =>
   simp only
   by_cases hn:(f.length:Int)=n
   ·rw [if_pos hn];exact ⟨fun _=>⟨⟨by rw [<- hl];exact hn,rfl⟩,rfl⟩,fun _=>rfl⟩
   ·rw [if_neg hn];exact ⟨fun h=>(by cases h),fun h=>absurd (by rw [hl];exact h.1.1) hn⟩
theorem rowsM_some (n:Int):∀ l:List (List Str × Str),(cP n l).isSome=true ↔ eF n l=0
 | []=>⟨fun _=>rfl,fun _=>rfl⟩
 | r::l=>by
  have h1:=rowM_some n r
  have h2:=rowsM_some n l
  have e:eF n (r::l)=if rowZ n r≠0 then rowZ n r else eF n l:=rfl
  rw [e]
  simp only [cP]
  cases e1:rowM n r with
  | none =>
   rw [e1] at h1
   have hz:rowZ n r≠0:=fun h=>by have:=h1.2 h;cases this
   rw [if_pos hz]
   exact ⟨fun h=>(by cases h),fun h=>absurd h hz⟩
  | some p =>
   rw [e1] at h1
   have hz:rowZ n r=0:=h1.1 rfl
   rw [if_neg (fun hn=>hn hz),<- h2]
   cases cP n l <;> exact Iff.rfl
theorem rowsM_tx {n:Int}:∀ {rs ps:List (List Rat × Rat)},cP n (rs.map bd)=some ps->ps=rs
 | [],ps,h=>by cases h;rfl
 | r::rs,ps,h=>by
  simp only [List.map_cons,cP] at h
  cases h1:rowM n (bd r) with
  | none=>rw [h1] at h;cases h
  | some p =>
   cases h2:cP n (rs.map bd) with
   | none=>rw [h1,h2] at h;cases h
   | some qs =>
    rw [h1,h2] at h
    cases h
    rw [rowsM_tx h2]
    congr 1
    unfold rowM bd at h1
    simp only at h1
    cases h3:aN (r.1.map qtx) with
    | none=>rw [h3] at h1;cases h1
    | some f =>
     cases h4:bP (qtx r.2) with
     | none=>rw [h3,h4] at h1;cases h1
     | some b =>
      rw [h3,h4] at h1
      simp only at h1
      split at h1
      ·cases h1
       rw [df h3,readM_qtx h4]
      ·cases h1
theorem dot_sum (ps qs:List Rat):∀ n,dotN ps qs n=Lp.sumN (fun k=>ps.getD k 0*qs.getD k 0) n
 | 0=>rfl
 | n+1=>by simp only [dotN,Lp.sumN,dot_sum ps qs n];rfl
theorem getD_map0 {α:Type}{f:α->Rat}{l:List α}{d:α}(hd:f d=0)(k:Nat):(l.map f).getD k 0=f (l.getD k d):=by
 rw [List.getD_eq_getElem?_getD,List.getD_eq_getElem?_getD,List.getElem?_map]
 cases l[k]? with
 | none=>exact hd.symm
 | some x=>rfl
theorem sgn_zero (q:Rat):decide (sgn q=0)=decide (q=0):=by
 rw [decide_eq_decide]
 unfold sgn
 constructor
 ·intro h
  by_cases h1:q<0
  ·rw [if_pos h1] at h;cases h
  ·rw [if_neg h1] at h
   by_cases h2:q=0
   ·exact h2
   ·rw [if_neg h2] at h;cases h
 ·rintro rfl;decide
theorem num_neg' (q:Rat):q.num<0 ↔ q<0:=by rw [Rat.lt_iff];simp
theorem ref_same (n:Nat)(rows:List (List Str × Str))(d:List Str)(rs:List (List Rat × Rat))(ds:List Rat)(hn:n<=60)(hl:rows.length<=300)
  (hrs:chkP n rows (List.replicate n [48])=0->rows=rs.map bd/\RowsQ n rs) (hds:d.all aY=true->d=ds.map qtx/\∀ x∈ds,QB 23 x) :
  refC n rows d=decide (refP n rows (List.replicate n [48]) d rs ds=0):=by
 have hz0:bk (n:Int) (List.replicate n ([48]:Str))=0:=by
  unfold bk
  rw [if_pos (by rw [List.length_replicate])]
  rw [show (List.replicate n ([48]:Str)).all aY=true from List.all_eq_true.2 fun s hs=>by rw [List.eq_of_mem_replicate hs];decide +kernel]
  rfl
 have hP:chkP n rows (List.replicate n [48])=eF n rows:=by
  unfold chkP
  rw [if_neg om_,if_neg om_,if_neg (fun h=>h hz0)]
 rw [hP] at hrs
 have hso:=rowsM_some n rows
 unfold refP
 rw [hP]
 by_cases hr:eF n rows=0
 ·obtain ⟨hre,hq⟩:=hrs hr
  rw [if_neg (fun h=>h hr)]
  have hrm:cP n rows=some rs:=by
   cases h:cP n rows with
   | none=>rw [h] at hso;have:=hso.2 hr;cases this
   | some ps=>rw [hre] at h;rw [rowsM_tx h]
  have hrl:rs.length=rows.length:=by rw [hre,List.length_map]
  by_cases hs:sumE rs.length d ds=0
  ·rw [if_neg (fun h=>h hs)]
   have h1:bk (rs.length:Nat) d=0:=by
    unfold sumE at hs
    split at hs
    ·rename_i h;exact absurd hs h
    ·rename_i h;simpa using h
   have h2:ds.any (fun q=>decide (q<0))=false:=by
    unfold sumE at hs
    rw [if_neg (fun h=>h h1)] at hs
    cases h:ds.any (fun q=>decide (q<0)) with
    | false=>rfl
    | true=>rw [h,if_pos rfl] at hs;cases hs
   have hdl:d.length=rs.length:=by
    unfold bk at h1
    split at h1
    ·omega
    ·cases h1
   have hall:d.all aY=true:=by
    unfold bk at h1
    rw [if_pos om_] at h1
    rcases ey (d.all aY) with ⟨_,h4⟩ | ⟨h3,_⟩
    ·exact h4
    ·rw [h3] at h1;cases h1
   obtain ⟨hdd,hdq⟩:=hds hall
   have hdsl:ds.length=rs.length:=by rw [<- hdl,hdd,List.length_map]
   have hdm:aN d=some ds:=by
    have h3:=dg d
    rw [hall] at h3
    cases h:aN d with
    | none=>rw [h] at h3;cases h3
    | some ms=>rw [hdd] at h;rw [df h]
   have hno:ds.any (fun q=>decide (q.num<0))=false:=by
    rw [<- h2]
    congr 1
    funext q
    rw [decide_eq_decide];exact num_neg' q
   have ho:cA n rows d=some (rs,ds):=by
    unfold cA
    rw [hrm,hdm]
    simp only
    rw [if_pos ⟨by omega,hno⟩]
   have hb:dotR ds (rs.map (·.2))=bndS rs ds rs.length:=by
    unfold dotR bndS
    rw [dot_sum,hdsl]
    exact Lp.sumN_congr fun k _=>by rw [getD_map0 (d:=(([]:List Rat),(0:Rat))) rfl]
   have hf:sumsR rs ds n=midF n rs ds rs.length 0:=by
    unfold sumsR midF
    refine List.map_congr_left fun v _=>?_
    rw [if_neg om_]
    unfold dotR facS colR
    rw [dot_sum,hdsl]
    exact Lp.sumN_congr fun k _=>by rw [getD_map0 (f:=fun p:List Rat × Rat=>gQ p.1 v) (d:=(([]:List Rat),(0:Rat))) rfl];rfl
   have hrc:refC n rows d=(!decide (rows.length=0) && (decide (bndS rs ds rs.length<0) && !((midF n rs ds rs.length 0).any fun q=>!decide (q=0)))):=by
    unfold refC
    rw [ho,decide_eq_false (by omega:¬ (n:Int)<0)]
    simp only [Int.toNat_natCast]
    rw [hb,hf]
    have e:((midF n rs ds rs.length 0).any fun q=>!decide (sgn q=0))=(midF n rs ds rs.length 0).any fun q=>!decide (q=0):=by
     congr 1
     funext q
     rw [sgn_zero]
    rw [e,show decide ((bndS rs ds rs.length).num<0)=decide (bndS rs ds rs.length<0) by rw [decide_eq_decide];exact num_neg' _]
    rfl
   rw [hrc]
   by_cases h0:rows.length=0
   ·have hb0:bndS rs ds rs.length=0:=by rw [hrl,h0];rfl
    rw [hb0,decide_eq_true h0,if_pos (.inl Rat.le_refl)]
    rfl
   ·rw [decide_eq_false h0]
    by_cases hbn:0<=bndS rs ds rs.length
    ·rw [if_pos (.inl hbn),decide_eq_false (by grind:¬ bndS rs ds rs.length<0)]
     rfl
    ·rw [decide_eq_true (by grind:bndS rs ds rs.length<0)]
     cases ha:(midF n rs ds rs.length 0).any fun q=>!decide (q=0) with
     | true=>rw [if_pos (.inr rfl)];rfl
     | false =>
      rw [if_neg]
      ·rfl
      ·rintro (h | h)
       ·exact hbn h
       ·cases h
  ·rw [if_pos hs,decide_eq_false hs]
   have ho:cA n rows d=none:=by
    cases ho:cA n rows d with
    | none=>rfl
    | some pm =>
     exfalso
     obtain ⟨h1,h2,h3,h4⟩:=openM_parts (ps:=pm.1) (ms:=pm.2) ho
     have hall:d.all aY=true:=by rw [<- dg,h2];rfl
     obtain ⟨hdd,hdq⟩:=hds hall
     rw [hdd] at h2
     have hms:=df h2
     rw [hms] at h3 h4
     refine hs ?_
     have hz:bk (rs.length:Nat) d=0:=by
      unfold bk
      rw [if_pos (by rw [hdd,List.length_map];omega),hall];rfl
     unfold sumE
     rw [if_neg (fun h=>h hz)]
     have hno:ds.any (fun q=>decide (q<0))=false:=by
      rw [<- h4]
      congr 1
      funext q
      rw [decide_eq_decide];exact (num_neg' q).symm
     rw [hno];rfl
   unfold refC
   rw [ho,Bool.and_false]
 ·rw [if_pos hr,decide_eq_false hr]
  have ho:cA n rows d=none:=by
   unfold cA
   cases h:cP n rows with
   | none=>rfl
   | some ps=>rw [h] at hso;exact absurd (hso.1 rfl) hr
  unfold refC
  rw [ho,Bool.and_false]

theorem mul_gives (x y:Nat)(hx:x<18446744073709551616)(hy:y<18446744073709551616)(C:Mem):Gives cx.P 152 [.int .u64 x,.int .u64 y] C (.tuple #[.int .u64 ((x*y / 18446744073709551616:Nat):Int),.int .u64 ((x*y % 18446744073709551616:Nat):Int)]) :=
 Gives.ofCalls kr_ (fun w=>Any.bits_Mul Tryz.mul x y hx hy w) C

theorem replicate_storeInto {a:Value}{n k m:Nat}{tl:List Value}(_hn:k+m<=n)(hk:m<=k)(_htl:tl.length=n-k) :
  aw (List.replicate k a++tl) ((List.replicate k a++tl).take m) k=List.replicate (k+m) a++tl.drop m:=by
 have h1:(List.replicate k a++tl).take m=List.replicate m a:=by
  rw [List.take_append_of_le_length (by simpa using hk),List.take_replicate,Nat.min_eq_left hk]
 have h2:(List.replicate k a++tl).take k=List.replicate k a:=by
  rw [List.take_append_of_le_length (by simp),List.take_replicate,Nat.min_self]
 have h3:(List.replicate k a++tl).drop (k+m)=tl.drop m:=by
  rw [List.drop_append,List.length_replicate,List.drop_eq_nil_of_le (by simp),List.nil_append]
  congr 1;omega
 unfold aw
 rw [h1,h2,List.length_replicate,h3,List.replicate_append_replicate]

theorem zrow_rep (a:Value)(n:Nat):zrow [a] n=List.replicate n a:=by
 rw [bR]
 induction n with
 | zero=>rfl
 | succ n ih=>rw [List.replicate_succ,List.flatten_cons,ih,List.replicate_succ];rfl
theorem mul_one_gives (n:Nat)(hn:n<18446744073709551616)(C:Mem):Gives cx.P 152 [.int .u64 (1:Int),.int .u64 n] C (.tuple #[.int .u64 0,.int .u64 n]):=by
 have h:=mul_gives 1 n om_ hn C
 have e1:1*n / 18446744073709551616=0:=by omega
 have e2:1*n % 18446744073709551616=n:=by omega
 rw [e1,e2] at h
 exact h
theorem repeat_fn (C:Mem)(v:Value)(n:Nat)(z:Int)(hv:Sl C 1 v [[.int .i64 z]])(hn:n<=1000000):Jog.Fn cx.P 98 [v,.int .i64 n] C [] fun u _C' L'=>∃ b,u=.slice (some ⟨b,0,none⟩) n n/\L'=[.arr u 3 1 n (List.replicate n (.int .i64 z))]:=by
 have hv0:=hv
 obtain ⟨A,c,rfl,_⟩:=hv0
 refine Fn.it kr_ Tryz.func98 48 fun w0=>?_
 refine G.z2 1 0 1 ?_
 refine G.z3 2 0 1 10 ?_
 refine G.cd (fun h10=>?_) fun h10=>?_
 ·simp at h10;omega
 ·refine G.rp 2 fun R hR=>?_
  refine D.bT (c:=1) rfl rfl rfl rfl rfl rfl rfl rfl rfl fl_ ?_
  refine D.ae ?_
  refine D.bT (c:=(n:Int)) rfl rfl rfl rfl rfl rfl rfl rfl (by rw [IntKind.wrap_u64];omega) fl_ ?_
  refine D.al (mul_one_gives n om_ _) rfl rfl rfl rfl rfl rfl rfl fl_ ?_
  refine D.q3 5 0 5 6 hR ?_
  refine G.rp 5 fun R hR=>?_
  refine D.aG rfl rfl rfl rfl rfl rfl rfl rfl ?_
  refine D.e3 0 6 26 hR ?_
  refine G.cd (fun h26=>?_) fun h26=>?_
  ·simp at h26;omega
  ·refine G.rp 1 fun R hR=>?_
   refine D.bT (c:=(n:Int)) rfl rfl rfl rfl rfl rfl rfl rfl (by rw [IntKind.wrap_i64];omega) fl_ ?_
   refine D.bu rfl rfl rfl rfl rfl rfl rfl rfl rfl (Nat.le_refl _) (by show 8*n<=281474976710656;omega) (by simp only [maxLen];omega) fl_ (fun b30=>?_)
   refine D.q2 1 0 7 hR ?_
   refine G.rp 2 fun R hR=>?_
   refine D.copyC (j:=0) (q:=min 1 n) rfl rfl rfl rfl rfl rfl rfl rfl rfl rfl rfl rfl hv rfl rfl (by rw [bM];show 0+min 1 n*1<=n*1;omega) fl_ ?_
   refine D.q2 1 7 8 hR ?_
   have hst0:aw (zrow [Value.int .i64 0] n) (([[Value.int .i64 z]]:List (List Value)).take (min 1 n)).flatten 0=List.replicate (min 1 n) (.int .i64 z)++List.replicate (n-min 1 n) (.int .i64 0):=by
    rw [zrow_rep]
    cases n with
    | zero=>rfl
    | succ n=>rw [show min 1 (n+1)=1 by omega,List.replicate_succ];rfl
   refine G.aM (L':=[.arr (.slice (some ⟨b30,0,none⟩) n n) 3 1 n (List.replicate (min 1 n) (.int .i64 z)++List.replicate (n-min 1 n) (.int .i64 0))]) (by rw [<- hst0];rfl) ?_
   refine G.loop (fun fr C' L' μ=>∃ (k:Nat),(k<=n/\min 1 n<=k)/\fr=[(7,[],.slice (some ⟨b30,0,none⟩) n n),(8,[],.int .i64 k)]/\L'=[.arr (.slice (some ⟨b30,0,none⟩) n n) 3 1 n (List.replicate k (.int .i64 z)++List.replicate (n-k) (.int .i64 0))]/\μ=n-k) (h_2 7 8) ⟨min 1 n,⟨Nat.min_le_right _ _,Nat.le_refl _⟩,rfl,rfl,rfl⟩ (fun fr C0' L0' m hle0 hI=>?_)
   obtain ⟨k,⟨hk,hk1⟩,rfl,rfl,rfl⟩:=hI
   refine G.z3 4 7 8 37 ?_
   refine G.cd (fun h37=>?_) fun h37=>?_
   ·simp only [decide_eq_true_eq] at h37
    have hkn:k<n:=by omega
    have hk2:1<=k:=by omega
    refine G.aH [0,1,2,3,4,5,6,7,8,9] [] rfl kr_ (fun R hB hR=>?_)
    refine D.ps 3 ?_
    refine D.dq k n n rfl rfl rfl rfl rfl rfl rfl rfl rfl rfl rfl rfl (fun _=>⟨.inr ⟨_,rfl⟩,.inl ⟨rfl,rfl⟩,.inl ⟨rfl,rfl⟩,hk,Nat.le_refl _,Nat.le_refl _⟩) rfl rfl ?_
    refine D.ps 2 ?_
    refine D.dq 0 k n rfl rfl rfl rfl rfl rfl rfl rfl rfl rfl rfl rfl (fun _=>⟨.inl ⟨rfl,rfl⟩,.inr ⟨_,rfl⟩,.inl ⟨rfl,rfl⟩,Nat.zero_le _,hk,Nat.le_refl _⟩) rfl rfl ?_
    refine D.copyS (j:=0) (off:=k) (g0:=b30) (dl:=n-k) (dc:=n-k) (sl:=k-0) (sc:=n-0) (q:=min k (n-k)) rfl rfl rfl rfl rfl rfl rfl rfl (by show some (Value.slice (if n=k then some (⟨b30,0,none⟩:Addr) else (some (⟨b30,0,none⟩:Addr)).map (·.add (k*1))) (n-k) (n-k))=_;rw [if_neg om_];simp [Addr.add_lit]) (by show some (Value.slice (if n=0 then some (⟨b30,0,none⟩:Addr) else (some (⟨b30,0,none⟩:Addr)).map (·.add (0*1))) (k-0) (n-0))=_;split <;> simp [Addr.add_lit]) rfl rfl (by simp [oneB]) (by simp;omega) fl_ ?_
    refine D.cR (((k+min k (n-k):Nat):Int)) rfl rfl rfl rfl om_ om_ om_ rfl rfl ?_
    refine D.q2 1 7 8 hR ?_
    refine G.aM (L':=[.arr (.slice (some ⟨b30,0,none⟩) n n) 3 1 n (List.replicate (k+min k (n-k)) (.int .i64 z)++List.replicate (n-(k+min k (n-k))) (.int .i64 0))]) (by rw [replicate_storeInto (n:=n) om_ (Nat.min_le_left _ _) (by simp),List.drop_replicate,Nat.sub_sub];rfl) ?_
    refine G.ap (m':=n-(k+min k (n-k))) om_ hle0 (h_2 7 8) ⟨k+min k (n-k),⟨by omega,by omega⟩,rfl,rfl,rfl⟩
   ·simp only [decide_eq_false_iff_not] at h37
    have hkn:k=n:=by omega
    subst hkn
    refine G.z1 2 4 ?_
    refine G.ay (G.dC rfl rfl ?_)
    exact ⟨b30,rfl,by simp⟩

theorem indexN_fn (C:Mem)(A:Option Addr)(c:Nat)(g:FuncId):Gives cx.P 149 [.slice A 0 c,.func (.func g) #[] #[]] C (.int .i64 (-1)):=by
 refine Fn.it kr_ Tryz.func149 19 fun w0=>?_
 refine G.z2 1 0 1 ?_
 refine G.z4 3 0 1 7 8 ?_
 refine G.loop (fun fr C' L' μ=>∃ (k:Nat),(k=0)/\fr=[(0,[],.slice A 0 c),(1,[],.func (.func g) #[] #[]),(7,[],.int .i64 0),(8,[],.int .i64 k)]/\L'=[]/\μ=k) (h_4 0 1 7 8) ⟨0,rfl,rfl,rfl,rfl⟩ (fun fr C0' L0' m hle0 hI=>?_)
 obtain ⟨k,hk,rfl,rfl,rfl⟩:=hI
 refine G.z5 1 0 1 7 8 9 ?_
 refine G.cd (fun h9=>?_) fun h9=>?_
 ·subst hk;exact absurd h9 (by decide)
 ·refine G.z1 1 4 ?_
  refine G.rf ?_
  exact ⟨rfl,rfl⟩
theorem contN_fn (C:Mem)(A:Option Addr)(c:Nat)(g:FuncId):Gives cx.P 90 [.slice A 0 c,.func (.func g) #[] #[]] C (.bool false):=by
 refine Fn.it kr_ Tryz.func90 9 fun w0=>?_
 refine G.z2 1 0 1 ?_
 refine G.rp 2 fun R hR=>?_
 refine D.aj (indexN_fn _ A c g) ?_
 refine D.q1 2 4 hR ?_
 refine G.rf ?_
 exact ⟨rfl,rfl⟩
theorem indexB_fn (C:Mem)(A:Option Addr)(c:Nat)(b:Bool):Gives cx.P 103 [.slice A 0 c,.bool b] C (.int .i64 (-1)):=by
 refine Fn.it kr_ Tryz.func103 19 fun w0=>?_
 refine G.z2 1 0 1 ?_
 refine G.z4 3 0 1 7 8 ?_
 refine G.loop (fun fr C' L' μ=>∃ (k:Nat),(k=0)/\fr=[(0,[],.slice A 0 c),(1,[],.bool b),(7,[],.int .i64 0),(8,[],.int .i64 k)]/\L'=[]/\μ=k) (h_4 0 1 7 8) ⟨0,rfl,rfl,rfl,rfl⟩ (fun fr C0' L0' m hle0 hI=>?_)
 obtain ⟨k,hk,rfl,rfl,rfl⟩:=hI
 refine G.z5 1 0 1 7 8 9 ?_
 refine G.cd (fun h9=>?_) fun h9=>?_
 ·subst hk;exact absurd h9 (by decide)
 ·refine G.z1 1 4 ?_
  refine G.rf ?_
  exact ⟨rfl,rfl⟩
theorem containsB_fn (C:Mem)(A:Option Addr)(c:Nat)(b:Bool):Gives cx.P 50 [.slice A 0 c,.bool b] C (.bool false):=by
 refine Fn.it kr_ Tryz.func50 9 fun w0=>?_
 refine G.z2 1 0 1 ?_
 refine G.rp 2 fun R hR=>?_
 refine D.aj (indexB_fn _ A c b) ?_
 refine D.q1 2 4 hR ?_
 refine G.rf ?_
 exact ⟨rfl,rfl⟩
def keyI:KeyT (.int .i64) Int where
 enc n:=.int .i64 n
 isKey _:=rfl
 same a b:=by
  simp only [Instr.sameNow]
  congr 1
def nil3:List Value:=[.slice none 0 0,.slice none 0 0,.slice none 0 0]
def Sheet0 (D:Mem)(p:Value):Prop:=∃ b b2,p=.pointer (some ⟨b,0,none⟩)/\D b=some (.cells ⟨[.slice none 0 0,.slice none 0 0,.slice (some ⟨b2,0,none⟩) 0 0]⟩ 128 (0,0))
theorem plain_fn (C:Mem):Pur cx.P 44 [.agg ⟨nil3⟩] C fun u D=>∃ p,u=.tuple #[p,.bool true]/\Sheet0 D p:=by
 refine Fn.it kr_ Tryz.func44 217 fun w0=>?_
 refine G.rg fun R hR=>?_
 refine D.aX (fun b1=>?_)
 refine D.q1 2 1 hR ?_
 refine G.rp 1 fun R hR=>?_
 refine D.ah (.head _) ?_
 refine D.ps 4 ?_
 refine D.ah (.head _) ?_
 refine D.ps 2 ?_
 refine D.aG rfl rfl rfl rfl rfl rfl rfl rfl ?_
 refine D.ps 2 ?_
 refine D.ah (.head _) ?_
 refine D.ps 2 ?_
 refine D.aG rfl rfl rfl rfl rfl rfl rfl rfl ?_
 refine D.e2 1 26 hR ?_
 refine G.cd (fun h26=>?_) fun h26=>?_
 ·exact absurd h26 (by decide)
 ·refine G.rp 1 fun R hR=>?_
  refine D.ah (.head _) ?_
  refine D.ae ?_
  refine D.bu rfl rfl rfl rfl rfl rfl rfl rfl rfl (Nat.le_refl _) (by decide) (by decide) fl_ (fun b30=>?_)
  refine D.build [.slice none 0 0,.slice none 0 0,.slice (some ⟨b30,0,none⟩) 0 0] rfl rfl rfl rfl rfl rfl rfl rfl ?_
  refine D.aX (fun b32=>?_)
  refine D.q2 1 1 4 hR ?_
  refine G.rp 1 fun R hR=>?_
  refine D.ah (.tail _ (.tail _ (.head _))) ?_
  refine D.q5 2 1 4 34 35 36 hR ?_
  refine G.freezeArr 1 [] rfl rfl (fun r hr=>by cases hr) rfl (fun Cf hf hsd=>?_)
  refine G.loop (fun fr C' L' μ=>∃ (k:Nat),(k=0)/\fr=[(1,[],.pointer (some ⟨b1,0,none⟩)),(4,[],.pointer (some ⟨b32,0,none⟩)),(34,[],.slice none 0 0),(35,[],.int .i64 0),(36,[],.int .i64 k)]/\L'=[.obj b32 (.cells ⟨[.slice none 0 0,.slice none 0 0,.slice (some ⟨b30,0,none⟩) 0 0]⟩ 128 (0,0)),.obj b1 (.cells ⟨nil3⟩ 68 (0,0))]/\μ=k) (h_5 1 4 34 35 36) ⟨0,rfl,rfl,rfl,rfl⟩ (fun fr C0' L0' m hle0 hI=>?_)
  obtain ⟨k,hk,rfl,rfl,rfl⟩:=hI
  refine G.z6 1 1 4 34 35 36 37 ?_
  refine G.cd (fun h37=>?_) fun h37=>?_
  ·subst hk;exact absurd h37 (by decide)
  ·refine G.rg fun R hR=>?_
   refine D.makeMap keyS rfl rfl rfl rfl fl_ (fun b71=>?_)
   refine D.q3 1 1 4 7 hR ?_
   refine G.rp 1 fun R hR=>?_
   refine D.ah (.tail _ (.tail _ (.head _))) ?_
   refine D.q6 2 1 4 7 73 74 75 hR ?_
   refine G.loop (fun fr C' L' μ=>∃ (k:Nat),(k=0)/\fr=[(1,[],.pointer (some ⟨b1,0,none⟩)),(4,[],.pointer (some ⟨b32,0,none⟩)),(7,[],.map (some b71)),(73,[],.slice none 0 0),(74,[],.int .i64 0),(75,[],.int .i64 k)]/\L'=[.obj b71 (cX keyS.enc []),.obj b32 (.cells ⟨[.slice none 0 0,.slice none 0 0,.slice (some ⟨b30,0,none⟩) 0 0]⟩ 128 (0,0)),.obj b1 (.cells ⟨nil3⟩ 68 (0,0))]/\μ=k) (h_6 1 4 7 73 74 75) ⟨0,rfl,rfl,rfl,rfl⟩ (fun fr C1' L1' m hle1 hI=>?_)
   obtain ⟨k,hk2,rfl,rfl,rfl⟩:=hI
   refine G.z7 1 1 4 7 73 74 75 76 ?_
   refine G.cd (fun h76=>?_) fun h76=>?_
   ·subst hk2;exact absurd h76 (by decide)
   ·refine G.rp 4 fun R hR=>?_
    refine D.ah (.tail _ (.head _)) ?_
    refine D.aj (contN_fn _ _ _ _) ?_
    refine D.q2 3 2 3 hR ?_
    refine G.freeze 1 rfl (fun Cg hg hb=>?_)
    refine G.ay (G.dropAll (G.bg rfl rfl rfl ?_))
    exact ⟨rfl,_,rfl,b32,b30,rfl,hb⟩
theorem crossed_fn (C:Mem)(p:Value)(h:Sheet0 C p):Gives cx.P 45 [p] C (.bool false):=by
 obtain ⟨b,b2,rfl,hb⟩:=h
 refine Fn.it kr_ Tryz.func45 123 fun w0=>?_
 refine G.z1 1 0 ?_
 refine G.z2 1 0 3 ?_
 refine G.loop (fun fr C' L' μ=>∃ (k:Nat),(k=0)/\fr=[(0,[],.pointer (some ⟨b,0,none⟩)),(3,[],.int .i64 k)]/\L'=[]/\μ=k) (h_2 0 3) ⟨0,rfl,rfl,rfl,rfl⟩ (fun fr C0' L0' m hle0 hI=>?_)
 obtain ⟨k,hk,rfl,rfl,rfl⟩:=hI
 refine G.rp 4 fun R hR=>?_
 refine D.ac (PtrTo.block (Mem.get hb mup) _) ?_
 refine D.q3 2 0 3 15 hR ?_
 refine G.cd (fun h15=>?_) fun h15=>?_
 ·subst hk;exact absurd h15 (by decide)
 ·refine G.z1 1 2 ?_
  refine G.rf ?_
  exact ⟨rfl,rfl⟩
theorem cycles_fn (C:Mem)(p:Value)(h:Sheet0 C p):Pur cx.P 46 [p] C fun u _=>∃ A,u=.tuple #[.slice A 0 0,.slice none 0 0]:=by
 obtain ⟨b,b2,rfl,hb⟩:=h
 refine Fn.it kr_ Tryz.func46 102 fun w0=>?_
 refine G.rg fun R hR=>?_
 refine D.aX (fun b1=>?_)
 refine D.q2 2 1 3 hR ?_
 refine G.rg fun R hR=>?_
 refine D.ah (.head _) ?_
 refine D.ps 2 ?_
 refine D.ac (PtrTo.block (Mem.get hb mup) _) ?_
 refine D.q5 2 1 3 15 16 17 hR ?_
 refine G.loop (fun fr C' L' μ=>∃ (k:Nat),(k=0)/\fr=[(1,[],.pointer (some ⟨b1,0,none⟩)),(3,[],.slice none 0 0),(15,[],.slice (some ⟨b2,0,none⟩) 0 0),(16,[],.int .i64 0),(17,[],.int .i64 k)]/\L'=[.obj b1 (.cells ⟨[.pointer (some ⟨b,0,none⟩)]⟩ 109 (0,0))]/\μ=k) (h_5 1 3 15 16 17) ⟨0,rfl,rfl,rfl,rfl⟩ (fun fr C0' L0' m hle0 hI=>?_)
 obtain ⟨k,hk,rfl,rfl,rfl⟩:=hI
 refine G.z6 1 1 3 15 16 17 18 ?_
 refine G.cd (fun h18=>?_) fun h18=>?_
 ·subst hk;exact absurd h18 (by decide)
 ·refine G.aA [(6,3)] rfl (fun R hR=>?_)
  refine D.af [[.int .i64 (-1)]] (fun p33 C33 hle33 hs33=>?_)
  refine D.ah (.head _) ?_
  refine D.ps 2 ?_
  refine D.ac (PtrTo.block (Mem.get hb mup) _) ?_
  refine D.ae ?_
  refine D.call (repeat_fn _ _ 0 (-1) (hs33.mono mup) om_) rfl (.inr (by decide)) rfl rfl rfl rfl rfl rfl (List.Perm.refl _) fl_ (fun v39 C39 L39 hle39 hq39=>?_)
  obtain ⟨b9,rfl,rfl⟩:=hq39
  refine D.q3 1 1 2 3 hR ?_
  refine G.freezeArr 0 [] rfl rfl (fun r hr=>by cases hr) rfl (fun Cf hf hsd=>?_)
  refine G.rg fun R hR=>?_
  refine D.ah (.head _) ?_
  refine D.ps 2 ?_
  refine D.ac (PtrTo.block (Mem.get hb mup) _) ?_
  refine D.q5 2 1 2 3 44 45 hR ?_
  refine G.loop (fun fr C' L' μ=>∃ (k:Nat),(k=0)/\fr=[(1,[],.pointer (some ⟨b1,0,none⟩)),(2,[],.slice (some ⟨b9,0,none⟩) 0 0),(3,[],.slice none 0 0),(44,[],.int .i64 0),(45,[],.int .i64 k)]/\L'=[.obj b1 (.cells ⟨[.pointer (some ⟨b,0,none⟩)]⟩ 109 (0,0))]/\μ=k) (h_5 1 2 3 44 45) ⟨0,rfl,rfl,rfl,rfl⟩ (fun fr C1' L1' m hle1 hI=>?_)
  obtain ⟨k,hk2,rfl,rfl,rfl⟩:=hI
  refine G.z6 1 1 2 3 44 45 46 ?_
  refine G.cd (fun h46=>?_) fun h46=>?_
  ·subst hk2;exact absurd h46 (by decide)
  ·refine G.z2 4 2 3 ?_
   refine G.ay (G.dropAll (G.bg rfl rfl rfl ?_))
   exact ⟨rfl,_,rfl⟩
theorem map0_fn (C:Mem):Gives cx.P 17 [.agg ⟨nil3⟩] C (.bool true):=by
 refine Fn.it kr_ Tryz.func17 100 fun w0=>?_
 refine G.rg fun R hR=>?_
 refine D.aX (fun b1=>?_)
 refine D.q1 1 1 hR ?_
 refine G.rg fun R hR=>?_
 refine D.ah (.head _) ?_
 refine D.aS (plain_fn _) (fun v20 C20 hle20 hq20=>?_)
 obtain ⟨p,rfl,hp⟩:=hq20
 obtain ⟨b,b2,rfl,hb⟩:=id hp
 refine D.ps 3 ?_
 refine D.aC (fun b3=>?_)
 refine D.ag (j:=0) ?_
 refine D.q3 1 1 3 4 hR ?_
 refine G.rp 3 fun R hR=>?_
 refine D.ah (.head _) ?_
 refine D.a6 (fun _=>(crossed_fn _ _ (by obtain ⟨b,b2,e,hb⟩:=hp;exact ⟨b,b2,e,Mem.get hb mup⟩))) rfl rfl rfl rfl rfl rfl rfl rfl rfl ?_
 refine D.aG rfl rfl rfl rfl rfl rfl rfl rfl ?_
 refine D.e3 1 3 28 hR ?_
 refine G.cd (fun h28=>?_) fun h28=>?_
 ·exact absurd h28 (by decide)
 ·refine G.rg fun R hR=>?_
  refine D.ah (.head _) ?_
  refine D.ax (cycles_fn _ _ (by obtain ⟨b,b2,e,hb⟩:=hp;exact ⟨b,b2,e,Mem.get hb mup⟩)) rfl rfl rfl rfl rfl rfl rfl fl_ (fun v31 C31 hle31 hq31=>?_)
  obtain ⟨A9,rfl⟩:=hq31
  refine D.ps 3 ?_
  refine D.aC (fun b5=>?_)
  refine D.aC (fun b6=>?_)
  refine D.ag (j:=1) ?_
  refine D.ag (j:=1) ?_
  refine D.e4 1 3 5 6 hR ?_
  refine G.rg fun R hR=>?_
  refine D.aC (fun b7=>?_)
  refine D.e5 1 3 5 6 7 hR ?_
  refine G.rp 1 fun R hR=>?_
  refine D.ag (j:=0) ?_
  refine D.e4 1 3 6 7 hR ?_
  refine G.rg fun R hR=>?_
  refine D.makeMap keyI rfl rfl rfl rfl fl_ (fun b35=>?_)
  refine D.insert keyI (j:=0) rfl rfl rfl rfl rfl rfl rfl rfl rfl rfl kr_ ?_
  refine D.q5 2 1 3 6 7 8 hR ?_
  refine G.rp 1 fun R hR=>?_
  refine D.ah (.tail _ (.tail _ (.tail _ (.tail _ (.tail _ (.head _)))))) ?_
  refine D.ae ?_
  refine D.bu rfl rfl rfl rfl rfl rfl rfl rfl rfl (Nat.le_refl _) (by decide) (by decide) fl_ (fun b40=>?_)
  refine D.q5 1 3 6 7 8 9 hR ?_
  refine G.rg fun R hR=>?_
  refine D.ah (.tail _ (.tail _ (.tail _ (.head _)))) ?_
  refine D.q7 2 3 7 8 9 41 42 43 hR ?_
  refine G.dropAll ?_
  refine G.loop (fun fr C' L' μ=>∃ (k:Nat),(k=0)/\fr=[(3,[],.pointer (some ⟨b3,0,none⟩)),(7,[],.pointer (some ⟨b7,0,none⟩)),(8,[],.map (some b35)),(9,[],.slice (some ⟨b40,0,none⟩) 0 0),(41,[],.slice none 0 0),(42,[],.int .i64 0),(43,[],.int .i64 k)]/\L'=[]/\μ=k) (h_7 3 7 8 9 41 42 43) ⟨0,rfl,rfl,rfl,rfl⟩ (fun fr C0' L0' m hle0 hI=>?_)
  obtain ⟨k,hk,rfl,rfl,rfl⟩:=hI
  refine G.z8 1 3 7 8 9 41 42 43 44 ?_
  refine G.cd (fun h44=>?_) fun h44=>?_
  ·subst hk;exact absurd h44 (by decide)
  ·refine G.rp 1 fun R hR=>?_
   refine D.aj (containsB_fn _ _ _ _) ?_
   refine D.q1 2 2 hR ?_
   refine G.rf ?_
   exact ⟨rfl,rfl⟩

def posS:List Str->Str->Nat
 | [],_=>0
 | x::l,s=>if x=s then 0 else posS l s+1
def atM:List Str->Nat->List (Str × Value)
 | [],_=>[]
 | s::l,i=>(s,.int .i64 i)::atM l (i+1)
theorem mget_atM:∀ {N:List Str}{i:Nat}{s:Str},mget (atM N i) s=if s∈N then some (.int .i64 ((i+posS N s:Nat):Int)) else none
 | [],i,s=>by simp [atM,mget]
 | x::N,i,s=>by
  simp only [atM,mget,posS]
  by_cases e:x=s
  ·subst e;simp
  ·rw [if_neg e,if_neg e,mget_atM]
   have e':¬ s=x:=fun h=>e h.symm
   by_cases h:s∈N
   ·rw [if_pos h,if_pos (by simp [h])]
    congr 3
    omega
   ·rw [if_neg h,if_neg (by simp [h,e'])]
theorem mset_atM:∀ {N:List Str}{i:Nat}{s:Str},s ∉ N->mset (atM N i) s (.int .i64 ((i+N.length:Nat):Int))=atM (N++[s]) i
 | [],i,s,_=>by simp [atM,mset]
 | x::N,i,s,h=>by
  simp only [List.mem_cons,not_or] at h
  simp only [List.cons_append,atM,mset,if_neg (Ne.symm h.1)]
  congr 1
  rw [<- mset_atM h.2]
  congr 3
  simp;omega
end Go.Proofs.YtifolnapeolhcaaGreatDoor
