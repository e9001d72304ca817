/- Laws that the proofs of this seat share, part 8. -/
import Derived.Test.YtmgkekjbbodicaaGreatDoorG7
import Derived.Test.YtmgkekjbbodicaaGreatDoorShelf
set_option maxHeartbeats 4000000
namespace Go.Proofs.YtmgkekjbbodicaaGreatDoor
open Go Go.Jog
set_option maxRecDepth 100000

theorem bl {α:Type}{f:α->List Value}{l:List α}{i:Nat}{x:α}(h:l[i]?=some x):(l.map f)[i]?=some (f x):=by rw [List.getElem?_map,h];rfl
def fldZ (n:Nat)(l:List Str):Int:=if l.length=n then chkZ (l.all aR) else 5
theorem checks_fn (C:Mem)(hT:Tabs C)(mv v fv:Value)(pts:List Pt)(tris:List Tri)(l:List Str)(hm:MeshIn C mv pts tris)(hG:Good pts tris)(hv:Sl C 1 v [[fv]])(hf:Sl C 1 fv (l.map dM))(hl:∀ s∈l,s.length<=999998) :
  Gives cx.P 123 [mv,v] C (.int .i64 (fldZ pts.length l)):=by
 have hm0:=hm
 have hlp:=hG.ok.lp
 obtain ⟨v1,v2,rfl,h1,h2⟩:=id hm.ex
 obtain ⟨A1,c1,rfl,hq1,hq2,_⟩:=id h1
 obtain ⟨A3,c3,rfl,hq3,hq4,_⟩:=id hv
 obtain ⟨A4,c4,rfl,hq5,hq6,_⟩:=id hf
 have hmx:maxLen<=9223372036854775807:=by simp [maxLen]
 simp only [List.length_map,List.length_singleton] at h1 hv hf hm0 hq5 ⊢
 refine Fn.it (by kernel_rfl) Tryz.func123 41 fun w0=>?_
 refine G.rg fun R hR=>?_
 refine D.aE (fun b2=>?_)
 refine D.q2 1 1 2 hR ?_
 refine G.freeze 0 rfl (fun C2 hle2 hb2=>?_)
 refine G.rg fun R hR=>?_
 refine D.aa (PtrTo.block (Mem.get hb2 mup) _) ?_
 refine D.ah (good_check _ (hT.mono mup) _ pts tris (hm0.mono mup) hG) ?_
 refine D.q3 1 1 2 5 hR ?_
 refine G.z4 2 1 2 5 14 ?_
 refine G.cd (fun h14=>?_) fun h14=>?_
 ·exact absurd h14 (by decide)
 ·refine G.z4 3 2 16 17 18 ?_
  refine G.loop (fun fr C' L' μ=>∃ (i:Nat),(i<=1/\(i=1->l.length=pts.length/\l.all aR=true))/\fr=[(2,[],.pointer (some ⟨b2,0,none⟩)),(16,[],.slice A3 1 c3),(17,[],.int .i64 1),(18,[],.int .i64 i)]/\L'=[]/\μ=1-i) (h_4 2 16 17 18) ⟨0,⟨Nat.zero_le _,fun h=>absurd h (by decide)⟩,rfl,rfl,rfl⟩ (fun fr C0' L0' m hle0 hI=>?_)
  obtain ⟨i,⟨hi,hall⟩,rfl,rfl,rfl⟩:=hI
  refine G.z5 1 2 16 17 18 19 ?_
  refine G.cd (fun h19=>?_) fun h19=>?_
  ·obtain rfl:i=0:=by
    simp only [decide_eq_true_eq] at h19
    omega
   refine G.rg fun R hR=>?_
   refine D.ap (hv.mono mup) rfl rfl rfl rfl rfl rfl rfl rfl rfl rfl (by omega) (rfl:([[.slice A4 l.length c4]]:List (List Value))[0]?=some [.slice A4 l.length c4]) (fun _=>rfl) (fun p20 hp20=>?_)
   refine D.aa hp20 ?_
   refine D.q5 1 2 7 16 17 18 hR ?_
   refine G.rp 3 fun R hR=>?_
   refine D.aa (PtrTo.block (Mem.get hb2 mup) _) ?_
   refine D.q6 2 2 7 16 17 18 27 hR ?_
   refine G.cd (fun h27=>?_) fun h27=>?_
   ·have hne:l.length≠pts.length:=by
     intro e
     rw [e] at h27
     simp at h27
    refine G.z1 1 4 ?_
    refine G.rf ?_
    exact ⟨by unfold fldZ;rw [if_neg hne],rfl⟩
   ·have hlen:l.length=pts.length:=by
     have h:((l.length:Nat):Int)=(pts.length:Nat):=by simpa using h27
     omega
    refine G.z7 3 2 16 17 18 28 29 30 ?_
    refine G.loop (fun fr C' L' μ=>∃ (j:Nat),(j<=l.length/\(l.take j).all aR=true)/\fr=[(2,[],.pointer (some ⟨b2,0,none⟩)),(16,[],.slice A3 1 c3),(17,[],.int .i64 1),(18,[],.int .i64 0),(28,[],.slice A4 l.length c4),(29,[],.int .i64 l.length),(30,[],.int .i64 j)]/\L'=[]/\μ=l.length-j) (h_7 2 16 17 18 28 29 30) ⟨0,⟨Nat.zero_le _,by simp⟩,rfl,rfl,rfl⟩ (fun fr C1' L1' m hle1 hI=>?_)
    obtain ⟨j,⟨hj,hj2⟩,rfl,rfl,rfl⟩:=hI
    refine G.z8 1 2 16 17 18 28 29 30 31 ?_
    refine G.cd (fun h31=>?_) fun h31=>?_
    ·have hjl:j<l.length:=by simpa using h31
     obtain ⟨s,hs⟩:∃ s,l[j]?=some s:=⟨l[j],List.getElem?_eq_getElem hjl⟩
     refine G.rg fun R hR=>?_
     refine D.ap (hf.mono mup) rfl rfl rfl rfl rfl rfl rfl rfl rfl rfl (by omega) (bl hs) (fun _=>rfl) (fun p32 hp32=>?_)
     refine D.aa hp32 ?_
     refine D.q8 1 2 9 16 17 18 28 29 30 hR ?_
     refine G.rp 1 fun R hR=>?_
     refine D.ah (db _ (hT.mono mup) s (hl s (List.mem_of_getElem? hs))) ?_
     refine D.q8 1 2 10 16 17 18 28 29 30 hR ?_
     refine G.z9 2 2 10 16 17 18 28 29 30 37 ?_
     refine G.cd (fun h37=>?_) fun h37=>?_
     ·have hno:aR s=false:=by
       rcases eR (aR s) with ⟨h1,h2⟩ | ⟨h1,h2⟩
       ·rw [h1] at h37;exact absurd h37 (by decide)
       ·exact h2
      refine G.z1 2 4 ?_
      refine G.rf ?_
      refine ⟨?_,rfl⟩
      unfold fldZ
      rw [if_pos hlen,hno,show l.all aR=false from List.all_eq_false.2 ⟨s,List.mem_of_getElem? hs,by rw [hno];decide⟩]
     ·have hyes:aR s=true:=by
       rcases eR (aR s) with ⟨h1,h2⟩ | ⟨h1,h2⟩
       ·exact h2
       ·rw [h1] at h37;exact absurd h37 (by decide)
      refine G.rg fun R hR=>?_
      refine D.am _ ?_
      refine D.q7 1 2 16 17 18 28 29 30 hR ?_
      refine G.au (m':=l.length-(j+1)) (by omega) hle1 (h_7 2 16 17 18 28 29 30) ⟨j+1,⟨by omega,by rw [List.take_add_one,hs,List.all_append,hj2];simp [hyes]⟩,rfl,rfl,rfl⟩
    ·have hjl:j=l.length:=by
      have:¬ j<l.length:=by simpa using h31
      omega
     refine G.rg fun R hR=>?_
     refine D.am _ ?_
     refine D.q4 1 2 16 17 18 hR ?_
     refine G.au (m':=0) (by omega) mup (h_4 2 16 17 18) ⟨1,⟨Nat.le_refl _,fun _=>⟨hlen,by rw [hjl,List.take_length] at hj2;exact hj2⟩⟩,rfl,rfl,rfl⟩
  ·have hi1:i=1:=by
    simp only [decide_eq_false_iff_not] at h19
    omega
   refine G.z1 1 4 ?_
   refine G.rf ?_
   refine ⟨?_,rfl⟩
   obtain ⟨h3,h4⟩:=hall hi1
   unfold fldZ
   rw [if_pos h3,h4]
   rfl
theorem fieldCheck_fn (C:Mem)(hT:Tabs C)(mv fv:Value)(pts:List Pt)(tris:List Tri)(l:List Str)(hm:MeshIn C mv pts tris)(hG:Good pts tris)(hf:Sl C 1 fv (l.map dM))(hl:∀ s∈l,s.length<=999998) :
  Gives cx.P 73 [mv,fv] C (.int .i64 (fldZ pts.length l)):=by
 have hm0:=hm
 obtain ⟨v1,v2,rfl,h1,h2⟩:=id hm.ex
 obtain ⟨A4,c4,rfl,hq5,hq6,_⟩:=id hf
 simp only [List.length_map] at hf ⊢
 refine Fn.it (by kernel_rfl) Tryz.func73 9 fun w0=>?_
 refine G.rg fun R hR=>?_
 refine D.aE (fun b2=>?_)
 refine D.q2 1 1 2 hR ?_
 refine G.rg fun R hR=>?_
 refine D.ag (.head _) ?_
 refine D.ae ?_
 refine D.ai [[.slice A4 l.length c4]] (fun p7 C7 hle7 hs7=>?_)
 refine D.ah (checks_fn _ (hT.mono mup) _ _ _ pts tris l (hm0.mono mup) hG (hs7.mono mup) (hf.mono mup) hl) ?_
 refine D.q1 1 4 hR ?_
 refine G.rf ?_
 exact ⟨rfl,rfl⟩
def encQ (q:Rat):List Value:=[strV (qtx q)]
def fz (fs:List Rat)(t:Tri)(j:Nat):Rat:=fs.getD (triN t j) 0
def cornC (pts:List Pt)(fs:List Rat)(t:Tri)(j:Nat):List Value:=encP (cor pts t j)++encQ (fz fs t j)
theorem fs_at {fs:List Rat}{i:Nat}(h:i<fs.length):fs[i]?=some (fs.getD i 0):=by
 rw [List.getD_eq_getElem?_getD,List.getElem?_eq_getElem h];rfl
theorem fcorners_fn (C:Mem)(mv fv:Value)(pts:List Pt)(tris:List Tri)(fs:List Rat)(hm:MeshIn C mv pts tris)(hM:MeshOk pts tris)(hf:Sl C 1 fv (fs.map encQ))(hfl:fs.length=pts.length)(i:Nat)(t:Tri)(ht:tris[i]?=some t) :
  Gives cx.P 175 [mv,fv,.int .i64 i] C (.agg ⟨cornC pts fs t 0++cornC pts fs t 1++cornC pts fs t 2⟩):=by
 have hti:=hM.ins t (List.mem_of_getElem? ht)
 obtain ⟨v1,v2,rfl,h1,h2⟩:=id hm.ex
 obtain ⟨A1,c1,rfl,hq1,hq2,_⟩:=id h1
 obtain ⟨A2,c2,rfl,hq3,hq4,_⟩:=id h2
 obtain ⟨A4,c4,rfl,hq5,hq6,_⟩:=id hf
 have hmx:maxLen<=9223372036854775807:=by simp [maxLen]
 simp only [List.length_map] at h1 h2 hf hq1 hq3 ⊢
 have hil:=(List.getElem?_eq_some_iff.1 ht).1
 refine Fn.it (by kernel_rfl) Tryz.func175 32 fun w0=>?_
 refine G.rg fun R hR=>?_
 refine D.aE (fun b3=>?_)
 refine D.aq (fun b6=>?_)
 refine D.e4 1 2 3 6 hR ?_
 refine G.freeze 1 rfl (fun C3 hle3 hb3=>?_)
 refine G.rp 1 fun R hR=>?_
 refine D.aa (PtrTo.block (Mem.get hb3 mup) _) ?_
 refine D.ae ?_
 refine D.ap (h2.mono mup) rfl rfl rfl rfl rfl rfl rfl rfl rfl rfl (by omega) (bl ht) (fun _=>rfl) (fun p12 hp12=>?_)
 refine D.aa hp12 ?_
 refine D.q5 1 1 3 6 13 14 hR ?_
 refine G.loop (fun fr C' L' μ=>∃ (j:Nat),(j<=3)/\fr=[(1,[],.slice A4 fs.length c4),(3,[],.pointer (some ⟨b3,0,none⟩)),(6,[],.pointer (some ⟨b6,0,none⟩)),(13,[],.agg ⟨encT t⟩),(14,[],.int .i64 j)]/\L'=[.obj b6 (.cells ⟨(List.range 3).flatMap fun k=>if k<j then cornC pts fs t k else [strV [],strV [],strV []]⟩ 244 (0,0))]/\μ=3-j) (h_5 1 3 6 13 14) ⟨0,Nat.zero_le _,rfl,rfl,rfl⟩ (fun fr C0' L0' m hle0 hI=>?_)
 obtain ⟨j,hj,rfl,rfl,rfl⟩:=hI
 refine G.z6 1 1 3 6 13 14 15 ?_
 refine G.cd (fun h15=>?_) fun h15=>?_
 ·have hjl:j<3:=by
   simp only [decide_eq_true_eq] at h15
   omega
  rcases (by omega:j=0∨j=1∨j=2) with rfl | rfl | rfl
  ·refine G.rp 1 fun R hR=>?_
   refine D.bW rfl rfl rfl rfl rfl rfl rfl rfl rfl rfl rfl (fun _=>⟨by decide,by decide,rfl⟩) rfl rfl ?_
   refine D.q7 2 1 3 6 7 8 13 14 hR ?_
   refine G.aI [0,1,2,3,4,5,6,7,8,9,10,11,12] [] rfl (by kernel_rfl) (fun R hB hR=>?_)
   refine D.ps 2 ?_
   refine D.aa (PtrTo.block (Mem.get hb3 mup) _) ?_
   refine D.ae ?_
   refine D.ap (h1.mono mup) rfl rfl rfl rfl rfl rfl rfl rfl rfl rfl (by omega) (bl (pt_at (dA hti 0))) (fun _=>rfl) (fun p22 hp22=>?_)
   refine D.aa hp22 ?_
   refine D.ps 2 ?_
   refine D.ap (hf.mono mup) rfl rfl rfl rfl rfl rfl rfl rfl rfl rfl (by omega) (bl (fs_at (hfl ▸ dA hti 0))) (fun _=>rfl) (fun p26 hp26=>?_)
   refine D.aa hp26 ?_
   refine D.ak (cornC pts fs t 0) ?_
   refine D.aw (_) rfl rfl rfl rfl rfl rfl rfl rfl rfl (fun _=>⟨by decide,by decide,rfl⟩) rfl rfl ?_
   refine D.aj (j:=0) ?_
   refine D.e5 1 3 6 13 14 hR ?_
   refine G.rg fun R hR=>?_
   refine D.am _ ?_
   refine D.q5 1 1 3 6 13 14 hR ?_
   refine G.au (m':=2) (by omega) hle0 (h_5 1 3 6 13 14) ⟨1,by decide,rfl,rfl,rfl⟩
  ·refine G.rp 1 fun R hR=>?_
   refine D.bW rfl rfl rfl rfl rfl rfl rfl rfl rfl rfl rfl (fun _=>⟨by decide,by decide,rfl⟩) rfl rfl ?_
   refine D.q7 2 1 3 6 7 8 13 14 hR ?_
   refine G.aI [0,1,2,3,4,5,6,7,8,9,10,11,12] [] rfl (by kernel_rfl) (fun R hB hR=>?_)
   refine D.ps 2 ?_
   refine D.aa (PtrTo.block (Mem.get hb3 mup) _) ?_
   refine D.ae ?_
   refine D.ap (h1.mono mup) rfl rfl rfl rfl rfl rfl rfl rfl rfl rfl (by omega) (bl (pt_at (dA hti 1))) (fun _=>rfl) (fun p22 hp22=>?_)
   refine D.aa hp22 ?_
   refine D.ps 2 ?_
   refine D.ap (hf.mono mup) rfl rfl rfl rfl rfl rfl rfl rfl rfl rfl (by omega) (bl (fs_at (hfl ▸ dA hti 1))) (fun _=>rfl) (fun p26 hp26=>?_)
   refine D.aa hp26 ?_
   refine D.ak (cornC pts fs t 1) ?_
   refine D.aw (_) rfl rfl rfl rfl rfl rfl rfl rfl rfl (fun _=>⟨by decide,by decide,rfl⟩) rfl rfl ?_
   refine D.aj (j:=0) ?_
   refine D.e5 1 3 6 13 14 hR ?_
   refine G.rg fun R hR=>?_
   refine D.am _ ?_
   refine D.q5 1 1 3 6 13 14 hR ?_
   refine G.au (m':=1) (by omega) hle0 (h_5 1 3 6 13 14) ⟨2,by decide,rfl,rfl,rfl⟩
  ·refine G.rp 1 fun R hR=>?_
   refine D.bW rfl rfl rfl rfl rfl rfl rfl rfl rfl rfl rfl (fun _=>⟨by decide,by decide,rfl⟩) rfl rfl ?_
   refine D.q7 2 1 3 6 7 8 13 14 hR ?_
   refine G.aI [0,1,2,3,4,5,6,7,8,9,10,11,12] [] rfl (by kernel_rfl) (fun R hB hR=>?_)
   refine D.ps 2 ?_
   refine D.aa (PtrTo.block (Mem.get hb3 mup) _) ?_
   refine D.ae ?_
   refine D.ap (h1.mono mup) rfl rfl rfl rfl rfl rfl rfl rfl rfl rfl (by omega) (bl (pt_at (dA hti 2))) (fun _=>rfl) (fun p22 hp22=>?_)
   refine D.aa hp22 ?_
   refine D.ps 2 ?_
   refine D.ap (hf.mono mup) rfl rfl rfl rfl rfl rfl rfl rfl rfl rfl (by omega) (bl (fs_at (hfl ▸ dA hti 2))) (fun _=>rfl) (fun p26 hp26=>?_)
   refine D.aa hp26 ?_
   refine D.ak (cornC pts fs t 2) ?_
   refine D.aw (_) rfl rfl rfl rfl rfl rfl rfl rfl rfl (fun _=>⟨by decide,by decide,rfl⟩) rfl rfl ?_
   refine D.aj (j:=0) ?_
   refine D.e5 1 3 6 13 14 hR ?_
   refine G.rg fun R hR=>?_
   refine D.am _ ?_
   refine D.q5 1 1 3 6 13 14 hR ?_
   refine G.au (m':=0) (by omega) hle0 (h_5 1 3 6 13 14) ⟨3,by decide,rfl,rfl,rfl⟩
 ·have hjl:j=3:=by
   simp only [decide_eq_false_iff_not] at h15
   omega
  subst hjl
  refine G.rg fun R hR=>?_
  refine D.ag (.head _) ?_
  refine D.aj (j:=0) ?_
  refine D.e1 6 hR ?_
  refine G.aA (G.ee (.head _) rfl rfl rfl rfl ?_)
  exact ⟨rfl,rfl⟩

/-! Finer bounds. -/
theorem fu {a b:Rat}{k m:Nat}(ha:QB k a)(hb:QB m b):QB (k+m) (a*b):=by
 rw [dQ]
 refine mk_bound (Nat.mul_ne_zero a.den_nz b.den_nz) ?_ ?_
 ·rw [Int.natAbs_mul,Nat.pow_add];exact Nat.mul_lt_mul'' ha.1 hb.1
 ·rw [Nat.pow_add];exact Nat.mul_lt_mul'' ha.2 hb.2
theorem QB_addx {a b:Rat}{k m:Nat}(ha:QB k a)(hb:QB m b):QB (k+m+1) (a+b):=by
 rw [dR]
 have e:B9 ^ (k+m+1)=B9 ^ k*B9 ^ m*B9:=by rw [Nat.pow_succ,Nat.pow_add]
 have p1:(a.num*b.den).natAbs<B9 ^ k*B9 ^ m:=by rw [Int.natAbs_mul,Int.natAbs_natCast];exact Nat.mul_lt_mul'' ha.1 hb.2
 have p2:(b.num*a.den).natAbs<B9 ^ k*B9 ^ m:=by rw [Int.natAbs_mul,Int.natAbs_natCast,Nat.mul_comm];exact Nat.mul_lt_mul'' ha.2 hb.1
 have p3:a.den*b.den<B9 ^ k*B9 ^ m:=Nat.mul_lt_mul'' ha.2 hb.2
 have hB:2*(B9 ^ k*B9 ^ m)<=B9 ^ k*B9 ^ m*B9:=by
  rw [Nat.mul_comm]
  exact Nat.mul_le_mul_left _ (by decide)
 refine mk_bound (Nat.mul_ne_zero a.den_nz b.den_nz) ?_ ?_
 ·rw [e];have:=Int.natAbs_add_le (a.num*b.den) (b.num*a.den);omega
 ·rw [e];omega
theorem dD {a b:Rat}{k m:Nat}(ha:QB k a)(hb:QB m b):QB (k+m+1) (a-b):=by
 rw [Rat.sub_eq_add_neg]
 exact QB_addx ha (QB_neg hb)
theorem QB_one:QB 1 1:=⟨by decide,by decide⟩
theorem QB_zero:QB 1 0:=⟨by decide,by decide⟩
def cL (a b c d:Rat):Rat:=a*d-b*c
theorem fminor_fn (C:Mem)(hT:Tabs C)(a b c d:Rat)(k:Nat)(hk0:0<k)(hk:k<=2000)(ha:QB k a)(hb:QB k b)(hc:QB k c)(hd:QB k d):Gives cx.P 176 [strV (qtx a),strV (qtx b),strV (qtx c),strV (qtx d)] C (strV (qtx (cL a b c d))):=by
 refine Fn.it (by kernel_rfl) Tryz.func176 16 fun w0=>?_
 refine G.z4 1 0 1 2 3 ?_
 refine G.rp 2 fun R hR=>?_
 refine D.af (dB _ (hT.mono mup) a d k hk0 (by omega) ha hd) rfl rfl rfl rfl rfl rfl rfl (fun _=>rfl) ?_
 refine D.ps 2 ?_
 refine D.af (dB _ (hT.mono mup) b c k hk0 (by omega) hb hc) rfl rfl rfl rfl rfl rfl rfl (fun _=>rfl) ?_
 refine D.af (cR _ (hT.mono mup) (a*d) (b*c) (k+k) (by omega) (by omega) (QB_mul ha hd) (QB_mul hb hc)) rfl rfl rfl rfl rfl rfl rfl (fun _=>rfl) ?_
 refine D.q1 1 8 hR ?_
 refine G.rf ?_
 exact ⟨rfl,rfl⟩
theorem QB_minor {a b c d:Rat}{k:Nat}(ha:QB k a)(hb:QB k b)(hc:QB k c)(hd:QB k d):QB (4*k+1) (cL a b c d):=(dD (fu ha hd) (fu hb hc)).le (by omega)
def slopeQ (c0 c1 c2:Pt)(z0 z1 z2:Rat):Pt :=
 ((1 / cL (c1.1-c0.1) (c1.2-c0.2) (c2.1-c0.1) (c2.2-c0.2))*cL (z1-z0) (c1.2-c0.2) (z2-z0) (c2.2-c0.2),
 (1 / cL (c1.1-c0.1) (c1.2-c0.2) (c2.1-c0.1) (c2.2-c0.2))*cL (c1.1-c0.1) (z1-z0) (c2.1-c0.1) (z2-z0))
def aZ (pts:List Pt)(fs:List Rat)(t:Tri):Pt:=slopeQ (cor pts t 0) (cor pts t 1) (cor pts t 2) (fz fs t 0) (fz fs t 1) (fz fs t 2)
theorem fz_qb {pts:List Pt}{tris:List Tri}{fs:List Rat}{k:Nat}(hM:MeshOk pts tris)(hfl:fs.length=pts.length)(hfq:∀ q∈fs,QB k q){t:Tri}(ht:t∈tris)(j:Nat):QB k (fz fs t j) :=
 hfq _ (List.mem_of_getElem? (fs_at (hfl ▸ dA (hM.ins t ht) j)))
theorem slopeT_qp {pts:List Pt}{tris:List Tri}{fs:List Rat}{k:Nat}(hM:MeshOk pts tris)(hfl:fs.length=pts.length)(hfq:∀ q∈fs,QB k q){t:Tri}(ht:t∈tris):QP (8*k+39) (aZ pts fs t):=by
 have hc:=fun j=>cor_qp hM ht j
 have hz:=fun j=>fz_qb hM hfl hfq ht j
 have hx:∀ i j,QB 3 ((cor pts t i).1-(cor pts t j).1):=fun i j=>(dD (hc i).1 (hc j).1).le (by decide)
 have hy:∀ i j,QB 3 ((cor pts t i).2-(cor pts t j).2):=fun i j=>(dD (hc i).2 (hc j).2).le (by decide)
 have ha:∀ i j,QB (2*k+1) (fz fs t i-fz fs t j):=fun i j=>(dD (hz i) (hz j)).le (by omega)
 have hm:QB 13 (cL ((cor pts t 1).1-(cor pts t 0).1) ((cor pts t 1).2-(cor pts t 0).2) ((cor pts t 2).1-(cor pts t 0).1) ((cor pts t 2).2-(cor pts t 0).2)):=(QB_minor (k:=3) (hx 1 0) (hy 1 0) (hx 2 0) (hy 2 0)).le (by decide)
 have hne:cL ((cor pts t 1).1-(cor pts t 0).1) ((cor pts t 1).2-(cor pts t 0).2) ((cor pts t 2).1-(cor pts t 0).1) ((cor pts t 2).2-(cor pts t 0).2)≠0:=ep hM ht
 have h1:QB 26 _:=(QB_div (k:=13) (QB_one.le (by decide)) hm hne).le (by decide)
 have hn1:QB (4*(2*k+3)+1) (cL (fz fs t 1-fz fs t 0) ((cor pts t 1).2-(cor pts t 0).2) (fz fs t 2-fz fs t 0) ((cor pts t 2).2-(cor pts t 0).2)):=QB_minor (k:=2*k+3) ((ha 1 0).le (by omega)) ((hy 1 0).le (by omega)) ((ha 2 0).le (by omega)) ((hy 2 0).le (by omega))
 have hn2:QB (4*(2*k+3)+1) (cL ((cor pts t 1).1-(cor pts t 0).1) (fz fs t 1-fz fs t 0) ((cor pts t 2).1-(cor pts t 0).1) (fz fs t 2-fz fs t 0)):=QB_minor (k:=2*k+3) ((hx 1 0).le (by omega)) ((ha 1 0).le (by omega)) ((hx 2 0).le (by omega)) ((ha 2 0).le (by omega))
 exact ⟨(fu h1 hn1).le (by omega),(fu h1 hn2).le (by omega)⟩
theorem fslope_fn (C:Mem)(hT:Tabs C)(mv fv:Value)(pts:List Pt)(tris:List Tri)(fs:List Rat)(k:Nat)(hk0:0<k)(hk:k<=100)(hm:MeshIn C mv pts tris)(hM:MeshOk pts tris)(hf:Sl C 1 fv (fs.map encQ))(hfl:fs.length=pts.length)(hfq:∀ q∈fs,QB k q)(i:Nat)(t:Tri)(ht:tris[i]?=some t) :
  Gives cx.P 126 [mv,fv,.int .i64 i] C (ptV (aZ pts fs t)):=by
 have htm:=List.mem_of_getElem? ht
 have hm0:=hm
 obtain ⟨v1,v2,rfl,h1,h2⟩:=id hm.ex
 have hc:=fun j=>cor_qp hM htm j
 have hz:=fun j=>fz_qb hM hfl hfq htm j
 have hx:∀ i j,QB 3 ((cor pts t i).1-(cor pts t j).1):=fun i j=>(dD (hc i).1 (hc j).1).le (by decide)
 have hy:∀ i j,QB 3 ((cor pts t i).2-(cor pts t j).2):=fun i j=>(dD (hc i).2 (hc j).2).le (by decide)
 have ha:∀ i j,QB (2*k+1) (fz fs t i-fz fs t j):=fun i j=>(dD (hz i) (hz j)).le (by omega)
 have hm13:QB 13 (cL ((cor pts t 1).1-(cor pts t 0).1) ((cor pts t 1).2-(cor pts t 0).2) ((cor pts t 2).1-(cor pts t 0).1) ((cor pts t 2).2-(cor pts t 0).2)):=(QB_minor (k:=3) (hx 1 0) (hy 1 0) (hx 2 0) (hy 2 0)).le (by decide)
 have hne:cL ((cor pts t 1).1-(cor pts t 0).1) ((cor pts t 1).2-(cor pts t 0).2) ((cor pts t 2).1-(cor pts t 0).1) ((cor pts t 2).2-(cor pts t 0).2)≠0:=ep hM htm
 have hd1:QB 26 (1 / cL ((cor pts t 1).1-(cor pts t 0).1) ((cor pts t 1).2-(cor pts t 0).2) ((cor pts t 2).1-(cor pts t 0).1) ((cor pts t 2).2-(cor pts t 0).2)):=(QB_div (k:=13) (QB_one.le (by decide)) hm13 hne).le (by decide)
 have hn1:QB (8*k+26) (cL (fz fs t 1-fz fs t 0) ((cor pts t 1).2-(cor pts t 0).2) (fz fs t 2-fz fs t 0) ((cor pts t 2).2-(cor pts t 0).2)):=(QB_minor (k:=2*k+3) ((ha 1 0).le (by omega)) ((hy 1 0).le (by omega)) ((ha 2 0).le (by omega)) ((hy 2 0).le (by omega))).le (by omega)
 have hn2:QB (8*k+26) (cL ((cor pts t 1).1-(cor pts t 0).1) (fz fs t 1-fz fs t 0) ((cor pts t 2).1-(cor pts t 0).1) (fz fs t 2-fz fs t 0)):=(QB_minor (k:=2*k+3) ((hx 1 0).le (by omega)) ((ha 1 0).le (by omega)) ((hx 2 0).le (by omega)) ((ha 2 0).le (by omega))).le (by omega)
 refine Fn.it (by kernel_rfl) Tryz.func126 98 fun w0=>?_
 refine G.rg fun R hR=>?_
 refine D.aE (fun b3=>?_)
 refine D.aq (fun b6=>?_)
 refine D.e4 1 2 3 6 hR ?_
 refine G.rg fun R hR=>?_
 refine D.ag (.tail _ (.head _)) ?_
 refine D.ps 2 ?_
 refine D.ah (fcorners_fn _ _ _ pts tris fs (hm0.mono mup) hM (hf.mono mup) hfl i t ht) ?_
 refine D.aq (fun b7=>?_)
 refine D.aj (j:=0) ?_
 refine D.e2 6 7 hR ?_
 refine G.freeze 0 rfl (fun C7 hle7 hb7=>?_)
 refine G.aI [0,1,2,3,4,5,6,7,8,9,10,11,12,13,14,15,16,17,18,19] [(8,1),(17,1)] rfl (by kernel_rfl) (fun R hB hR=>?_)
 refine D.aw (3) rfl rfl rfl rfl rfl rfl rfl rfl rfl (fun _=>⟨by decide,by decide,rfl⟩) rfl rfl ?_
 refine D.ps 2 ?_
 refine D.aa (bkT hb7 1) ?_
 refine D.aw (0) rfl rfl rfl rfl rfl rfl rfl rfl rfl (fun _=>⟨by decide,by decide,rfl⟩) rfl rfl ?_
 refine D.ps 2 ?_
 refine D.aa (bkT hb7 1) ?_
 refine D.aD (fun _=>(cR _ (hT.mono mup) (cor pts t 1).1 (cor pts t 0).1 1 (by decide) (by decide) (hc 1).1 (hc 0).1)) rfl rfl rfl rfl rfl rfl rfl rfl rfl ?_
 refine D.aw (3) rfl rfl rfl rfl rfl rfl rfl rfl rfl (fun _=>⟨by decide,by decide,rfl⟩) rfl rfl ?_
 refine D.ps 2 ?_
 refine D.aa (bkT hb7 1) ?_
 refine D.aw (0) rfl rfl rfl rfl rfl rfl rfl rfl rfl (fun _=>⟨by decide,by decide,rfl⟩) rfl rfl ?_
 refine D.ps 2 ?_
 refine D.aa (bkT hb7 1) ?_
 refine D.aD (fun _=>(cR _ (hT.mono mup) (cor pts t 1).2 (cor pts t 0).2 1 (by decide) (by decide) (hc 1).2 (hc 0).2)) rfl rfl rfl rfl rfl rfl rfl rfl rfl ?_
 refine D.q4 2 6 7 8 9 hR ?_
 refine G.aI [0,1,2,3,4,5,6,7,8,9,10,11,12,13,14,15,16,17,18,19] [(8,1),(17,1)] rfl (by kernel_rfl) (fun R hB hR=>?_)
 refine D.aw (6) rfl rfl rfl rfl rfl rfl rfl rfl rfl (fun _=>⟨by decide,by decide,rfl⟩) rfl rfl ?_
 refine D.ps 2 ?_
 refine D.aa (bkT hb7 1) ?_
 refine D.aw (0) rfl rfl rfl rfl rfl rfl rfl rfl rfl (fun _=>⟨by decide,by decide,rfl⟩) rfl rfl ?_
 refine D.ps 2 ?_
 refine D.aa (bkT hb7 1) ?_
 refine D.aD (fun _=>(cR _ (hT.mono mup) (cor pts t 2).1 (cor pts t 0).1 1 (by decide) (by decide) (hc 2).1 (hc 0).1)) rfl rfl rfl rfl rfl rfl rfl rfl rfl ?_
 refine D.aw (6) rfl rfl rfl rfl rfl rfl rfl rfl rfl (fun _=>⟨by decide,by decide,rfl⟩) rfl rfl ?_
 refine D.ps 2 ?_
 refine D.aa (bkT hb7 1) ?_
 refine D.aw (0) rfl rfl rfl rfl rfl rfl rfl rfl rfl (fun _=>⟨by decide,by decide,rfl⟩) rfl rfl ?_
 refine D.ps 2 ?_
 refine D.aa (bkT hb7 1) ?_
 refine D.aD (fun _=>(cR _ (hT.mono mup) (cor pts t 2).2 (cor pts t 0).2 1 (by decide) (by decide) (hc 2).2 (hc 0).2)) rfl rfl rfl rfl rfl rfl rfl rfl rfl ?_
 refine D.q6 2 6 7 8 9 10 11 hR ?_
 refine G.aI [0,1,2,3,4,5,6,7,8,9,10,11,12,13,14,15] [(6,1),(13,1)] rfl (by kernel_rfl) (fun R hB hR=>?_)
 refine D.aw (3) rfl rfl rfl rfl rfl rfl rfl rfl rfl (fun _=>⟨by decide,by decide,rfl⟩) rfl rfl ?_
 refine D.ae ?_
 refine D.aa (bkT hb7 1) ?_
 refine D.aw (0) rfl rfl rfl rfl rfl rfl rfl rfl rfl (fun _=>⟨by decide,by decide,rfl⟩) rfl rfl ?_
 refine D.ae ?_
 refine D.aa (bkT hb7 1) ?_
 refine D.aD (fun _=>(cR _ (hT.mono mup) (fz fs t 1) (fz fs t 0) k hk0 (by omega) (hz 1) (hz 0))) rfl rfl rfl rfl rfl rfl rfl rfl rfl ?_
 refine D.aw (6) rfl rfl rfl rfl rfl rfl rfl rfl rfl (fun _=>⟨by decide,by decide,rfl⟩) rfl rfl ?_
 refine D.ae ?_
 refine D.aa (bkT hb7 1) ?_
 refine D.aw (0) rfl rfl rfl rfl rfl rfl rfl rfl rfl (fun _=>⟨by decide,by decide,rfl⟩) rfl rfl ?_
 refine D.ae ?_
 refine D.aa (bkT hb7 1) ?_
 refine D.aD (fun _=>(cR _ (hT.mono mup) (fz fs t 2) (fz fs t 0) k hk0 (by omega) (hz 2) (hz 0))) rfl rfl rfl rfl rfl rfl rfl rfl rfl ?_
 refine D.q7 2 6 8 9 10 11 12 13 hR ?_
 refine G.z8 1 6 8 9 10 11 12 13 14 ?_
 refine G.rp 5 fun R hR=>?_
 refine D.af (fminor_fn _ (hT.mono mup) _ _ _ _ 3 (by decide) (by decide) (hx 1 0) (hy 1 0) (hx 2 0) (hy 2 0)) rfl rfl rfl rfl rfl rfl rfl (fun _=>rfl) ?_
 refine D.af (by have h:=rdiv_fn C7 (hT.mono mup) 1 _ 13 (by decide) (by decide) (QB_one.le (by decide)) hm13 hne;rw [cq] at h;exact h) rfl rfl rfl rfl rfl rfl rfl (fun _=>rfl) ?_
 refine D.q9 5 6 8 9 10 11 12 13 14 15 hR ?_
 refine G.rp 6 fun R hR=>?_
 refine D.af (fminor_fn _ (hT.mono mup) (fz fs t 1-fz fs t 0) ((cor pts t 1).2-(cor pts t 0).2) (fz fs t 2-fz fs t 0) ((cor pts t 2).2-(cor pts t 0).2) (2*k+3) (by omega) (by omega) ((ha 1 0).le (by omega)) ((hy 1 0).le (by omega)) ((ha 2 0).le (by omega)) ((hy 2 0).le (by omega))) rfl rfl rfl rfl rfl rfl rfl (fun _=>rfl) ?_
 refine D.af (dB _ (hT.mono mup) _ _ (8*k+26) (by omega) (by omega) (hd1.le (by omega)) hn1) rfl rfl rfl rfl rfl rfl rfl (fun _=>rfl) ?_
 refine D.ps 6 ?_
 refine D.af (fminor_fn _ (hT.mono mup) ((cor pts t 1).1-(cor pts t 0).1) (fz fs t 1-fz fs t 0) ((cor pts t 2).1-(cor pts t 0).1) (fz fs t 2-fz fs t 0) (2*k+3) (by omega) (by omega) ((hx 1 0).le (by omega)) ((ha 1 0).le (by omega)) ((hx 2 0).le (by omega)) ((ha 2 0).le (by omega))) rfl rfl rfl rfl rfl rfl rfl (fun _=>rfl) ?_
 refine D.af (dB _ (hT.mono mup) _ _ (8*k+26) (by omega) (by omega) (hd1.le (by omega)) hn2) rfl rfl rfl rfl rfl rfl rfl (fun _=>rfl) ?_
 refine D.ak (encP (aZ pts fs t)) ?_
 refine D.aj (j:=0) ?_
 refine D.e1 6 hR ?_
 refine G.aA (G.ee (.head _) rfl rfl rfl rfl ?_)
 exact ⟨rfl,rfl⟩

def sumQ (l:List Rat):Rat:=l.foldl (·+·) 0
theorem sumQ_snoc (l:List Rat)(q:Rat):sumQ (l++[q])=sumQ l+q:=by unfold sumQ;rw [List.foldl_append];rfl
theorem rsum_fn (C:Mem)(hT:Tabs C)(v:Value)(l:List Rat)(k:Nat)(hk0:0<k)(hk:k<=10000)(hv:Sl C 1 v (l.map encQ))(hl:∀ q∈l,QB k q)(hs:∀ i,QB k (sumQ (l.take i))) :
  Gives cx.P 174 [v] C (strV (qtx (sumQ l))):=by
 obtain ⟨A0,c0,rfl,hc1,hc2,_⟩:=id hv
 have hmx:maxLen<=9223372036854775807:=by simp [maxLen]
 simp only [List.length_map] at hv hc1 ⊢
 refine Fn.it (by kernel_rfl) Tryz.func174 17 fun w0=>?_
 refine G.z1 1 0 ?_
 refine G.z2 1 0 3 ?_
 refine G.z4 3 3 6 7 8 ?_
 refine G.loop (fun fr C' L' μ=>∃ (i:Nat)(s:Str),(i<=l.length/\s=qtx (sumQ (l.take i)))/\fr=[(3,[],strV s),(6,[],.slice A0 l.length c0),(7,[],.int .i64 l.length),(8,[],.int .i64 i)]/\L'=[]/\μ=l.length-i) (h_4 3 6 7 8) ⟨0,[48],⟨Nat.zero_le _,qtx_zero.symm⟩,rfl,rfl,rfl⟩ (fun fr C0' L0' m hle0 hI=>?_)
 obtain ⟨i,s,⟨hi,hse⟩,rfl,rfl,rfl⟩:=hI
 refine G.z5 1 3 6 7 8 9 ?_
 refine G.cd (fun h9=>?_) fun h9=>?_
 ·have hil:i<l.length:=by simpa using h9
  obtain ⟨q,hq⟩:∃ q,l[i]?=some q:=⟨l[i],List.getElem?_eq_getElem hil⟩
  subst hse
  refine G.rg fun R hR=>?_
  refine D.ap (hv.mono mup) rfl rfl rfl rfl rfl rfl rfl rfl rfl rfl (by omega) (bl hq) (fun _=>rfl) (fun p10 hp10=>?_)
  refine D.aa hp10 ?_
  refine D.q5 1 3 5 6 7 8 hR ?_
  refine G.rp 2 fun R hR=>?_
  refine D.ah (radd_fn _ (hT.mono mup) (sumQ (l.take i)) q k hk0 hk (hs i) (hl q (List.mem_of_getElem? hq))) ?_
  refine D.q4 1 3 6 7 8 hR ?_
  refine G.rg fun R hR=>?_
  refine D.am _ ?_
  refine D.q4 1 3 6 7 8 hR ?_
  refine G.au (m':=l.length-(i+1)) (by omega) hle0 (h_4 3 6 7 8) ⟨i+1,_,⟨by omega,by rw [List.take_add_one,hq,Option.toList_some,sumQ_snoc]⟩,rfl,rfl,rfl⟩
 ·have hil:i=l.length:=by
   have:¬ i<l.length:=by simpa using h9
   omega
  refine G.z1 2 2 ?_
  refine G.rf ?_
  exact ⟨by rw [hse,hil,List.take_length],rfl⟩
def numV (q:Rat):Value:=if aR (qtx q) then .tuple #[strV (qtx q),.int .i64 0] else .tuple #[strV [],.int .i64 4]
theorem fnumber_q (C:Mem)(hT:Tabs C)(q:Rat)(hl:(qtx q).length<=999998):Gives cx.P 124 [strV (qtx q)] C (numV q):=by
 refine Fn.it (by kernel_rfl) Tryz.func124 8 fun w0=>?_
 refine G.z1 2 0 ?_
 refine G.rp 1 fun R hR=>?_
 refine D.ah (db _ (hT.mono mup) _ hl) ?_
 refine D.q2 1 0 6 hR ?_
 refine G.cd (fun h6=>?_) fun h6=>?_
 ·have hno:aR (qtx q)=false:=by
   rcases eR (aR (qtx q)) with ⟨h1,h2⟩ | ⟨h1,h2⟩
   ·rw [h1] at h6;exact absurd h6 (by decide)
   ·exact h2
  refine G.z2 2 2 3 ?_
  refine G.aA (G.dropAll (G.aP rfl rfl rfl ?_))
  exact ⟨by unfold numV;rw [hno];rfl,rfl⟩
 ·have hyes:aR (qtx q)=true:=by
   rcases eR (aR (qtx q)) with ⟨h1,h2⟩ | ⟨h1,h2⟩
   ·exact h2
   ·rw [h1] at h6;exact absurd h6 (by decide)
  refine G.z2 3 2 3 ?_
  refine G.aA (G.dropAll (G.aP rfl rfl rfl ?_))
  exact ⟨by unfold numV;rw [hyes];rfl,rfl⟩
def onQ (pts:List Pt)(fs:List Rat)(t:Tri)(p:Pt):Rat:=sumQ [fz fs t 0,(aZ pts fs t).1*(p.1-(cor pts t 0).1),(aZ pts fs t).2*(p.2-(cor pts t 0).2)]
theorem onQ_qb {pts:List Pt}{tris:List Tri}{fs:List Rat}{k:Nat}(hk:k<=23)(hM:MeshOk pts tris)(hfl:fs.length=pts.length)(hfq:∀ q∈fs,QB k q){t:Tri}(ht:t∈tris){p:Pt}(hp:QP 23 p):QB 600 (onQ pts fs t p)/\(∀ i,QB 600 (sumQ ([fz fs t 0,(aZ pts fs t).1*(p.1-(cor pts t 0).1),(aZ pts fs t).2*(p.2-(cor pts t 0).2)].take i)))/\QB 600 (fz fs t 0)/\QB 600 ((aZ pts fs t).1*(p.1-(cor pts t 0).1))/\QB 600 ((aZ pts fs t).2*(p.2-(cor pts t 0).2)):=by
 have hs:=slopeT_qp hM hfl hfq ht
 have hc:=cor_qp hM ht 0
 have hz:=fz_qb hM hfl hfq ht 0
 have h1:QB 248 ((aZ pts fs t).1*(p.1-(cor pts t 0).1)):=(fu hs.1 (dD hp.1 hc.1)).le (by omega)
 have h2:QB 248 ((aZ pts fs t).2*(p.2-(cor pts t 0).2)):=(fu hs.2 (dD hp.2 hc.2)).le (by omega)
 have s1:QB 25 (0+fz fs t 0):=(QB_addx QB_zero hz).le (by omega)
 have s2:QB 274 (0+fz fs t 0+(aZ pts fs t).1*(p.1-(cor pts t 0).1)):=(QB_addx s1 h1).le (by omega)
 have s3:QB 523 (0+fz fs t 0+(aZ pts fs t).1*(p.1-(cor pts t 0).1)+(aZ pts fs t).2*(p.2-(cor pts t 0).2)):=(QB_addx s2 h2).le (by omega)
 refine ⟨s3.le (by decide),fun i=>?_,hz.le (by omega),h1.le (by decide),h2.le (by decide)⟩
 rcases (by omega:i=0∨i=1∨i=2∨3<=i) with rfl | rfl | rfl | hi
 ·exact QB_zero.le (by decide)
 ·exact s1.le (by decide)
 ·exact s2.le (by decide)
 ·rw [List.take_of_length_le (by simpa using hi)]
  exact s3.le (by decide)
theorem three_q {a b c:Rat}{k:Nat}(ha:QB k a)(hb:QB k b)(hc:QB k c):∀ q∈[a,b,c],QB k q:=by
 intro q hq
 simp only [List.mem_cons,List.not_mem_nil,or_false] at hq
 rcases hq with rfl | rfl | rfl <;> assumption
theorem on_fn (C:Mem)(hT:Tabs C)(mv fv:Value)(pts:List Pt)(tris:List Tri)(fs:List Rat)(k:Nat)(hk0:0<k)(hk:k<=23)(hm:MeshIn C mv pts tris)(hM:MeshOk pts tris)(hf:Sl C 1 fv (fs.map encQ))(hfl:fs.length=pts.length)(hfq:∀ q∈fs,QB k q)(i:Nat)(t:Tri)(ht:tris[i]?=some t)(p:Pt)(hp:QP 23 p) :
  Gives cx.P 125 [mv,fv,.int .i64 i,ptV p] C (strV (qtx (onQ pts fs t p))):=by
 have htm:=List.mem_of_getElem? ht
 have hti:=hM.ins t htm
 have hm0:=hm
 have hf0:=hf
 obtain ⟨v1,v2,rfl,h1,h2⟩:=id hm.ex
 obtain ⟨A1,c1,rfl,hq1,hq2,_⟩:=id h1
 obtain ⟨A2,c2,rfl,hq3,hq4,_⟩:=id h2
 obtain ⟨A4,c4,rfl,hq5,hq6,_⟩:=id hf
 have hmx:maxLen<=9223372036854775807:=by simp [maxLen]
 simp only [List.length_map] at h1 h2 hf hf0 hm0 hq1 hq3 ⊢
 have hil:=(List.getElem?_eq_some_iff.1 ht).1
 have hc:=cor_qp hM htm 0
 obtain ⟨hb0,hb1,hb2,hb3',hb4⟩:=onQ_qb hk hM hfl hfq htm hp
 have hs:=slopeT_qp hM hfl hfq htm
 have hx1:QB 25 (p.1-(cor pts t 0).1):=(dD hp.1 hc.1).le (by decide)
 have hx2:QB 25 (p.2-(cor pts t 0).2):=(dD hp.2 hc.2).le (by decide)
 refine Fn.it (by kernel_rfl) Tryz.func125 49 fun w0=>?_
 refine G.rg fun R hR=>?_
 refine D.aE (fun b4=>?_)
 refine D.aE (fun b7=>?_)
 refine D.q4 1 1 2 4 7 hR ?_
 refine G.freeze 1 rfl (fun C3 hle3 hm4=>?_)
 refine G.rg fun R hR=>?_
 refine D.aa (PtrTo.block (Mem.get hm4 mup) _) ?_
 refine D.ps 2 ?_
 refine D.af (fslope_fn _ (hT.mono mup) _ _ pts tris fs k hk0 (by omega) (hm0.mono mup) hM (hf0.mono mup) hfl hfq i t ht) rfl rfl rfl rfl rfl rfl rfl (fun _=>rfl) ?_
 refine D.aq (fun b9=>?_)
 refine D.aj (j:=0) ?_
 refine D.e5 1 2 4 7 9 hR ?_
 refine G.rp 1 fun R hR=>?_
 refine D.aa (PtrTo.block (Mem.get hm4 mup) _) ?_
 refine D.ae ?_
 refine D.ap (h2.mono mup) rfl rfl rfl rfl rfl rfl rfl rfl rfl rfl (by omega) (bl ht) (fun _=>rfl) (fun p19 hp19=>?_)
 refine D.indexA rfl rfl rfl rfl rfl rfl rfl rfl rfl (fun _=>hp19) (fun _=>⟨by omega,(by omega)⟩) (fun _=>rfl) rfl (fun p20 hp200=>?_)
 have hp20:=hp200 trivial
 refine D.aa hp20 ?_
 refine D.q5 1 1 4 7 9 10 hR ?_
 refine G.rp 1 fun R hR=>?_
 refine D.aa (PtrTo.block (Mem.get hm4 mup) _) ?_
 refine D.ae ?_
 refine D.ap (h1.mono mup) rfl rfl rfl rfl rfl rfl rfl rfl rfl rfl (by omega) (bl (pt_at hti.1)) (fun _=>rfl) (fun p25 hp25=>?_)
 refine D.aa hp25 ?_
 refine D.aq (fun b11=>?_)
 refine D.aj (j:=0) ?_
 refine D.e5 1 7 9 10 11 hR ?_
 refine G.freeze 0 rfl (fun C11 hle11 hm11=>?_)
 refine G.freeze 0 rfl (fun C9 hle9 hm9=>?_)
 refine G.freeze 0 rfl (fun C7 hle7 hm7=>?_)
 refine G.aI [0,1,2,3,4,5,6,7,8,9,10,11,12,13,14,15,16,17,18,19,20,21,22] [(10,1),(11,1),(18,1),(19,1),(21,1)] rfl (by kernel_rfl) (fun R hB hR=>?_)
 refine D.ps 2 ?_
 refine D.ap (hf.mono mup) rfl rfl rfl rfl rfl rfl rfl rfl rfl rfl (by omega) (bl (fs_at (hfl ▸ hti.1))) (fun _=>rfl) (fun p29 hp29=>?_)
 refine D.aa hp29 ?_
 refine D.ae ?_
 refine D.aa (bkT hm9 1) ?_
 refine D.ae ?_
 refine D.aa (bkT hm7 1) ?_
 refine D.ae ?_
 refine D.aa (bkT hm11 1) ?_
 refine D.aD (fun _=>(cR _ (hT.mono mup) p.1 (cor pts t 0).1 23 (by decide) (by decide) hp.1 (hc.1.le (by decide)))) rfl rfl rfl rfl rfl rfl rfl rfl rfl ?_
 refine D.aD (fun _=>(dB _ (hT.mono mup) _ _ 300 (by decide) (by decide) (hs.1.le (by omega)) (hx1.le (by decide)))) rfl rfl rfl rfl rfl rfl rfl rfl rfl ?_
 refine D.ae ?_
 refine D.aa (bkT hm9 1) ?_
 refine D.ae ?_
 refine D.aa (bkT hm7 1) ?_
 refine D.ae ?_
 refine D.aa (bkT hm11 1) ?_
 refine D.aD (fun _=>(cR _ (hT.mono mup) p.2 (cor pts t 0).2 23 (by decide) (by decide) hp.2 (hc.2.le (by decide)))) rfl rfl rfl rfl rfl rfl rfl rfl rfl ?_
 refine D.aD (fun _=>(dB _ (hT.mono mup) _ _ 300 (by decide) (by decide) (hs.2.le (by omega)) (hx2.le (by decide)))) rfl rfl rfl rfl rfl rfl rfl rfl rfl ?_
 refine D.ai ([fz fs t 0,(aZ pts fs t).1*(p.1-(cor pts t 0).1),(aZ pts fs t).2*(p.2-(cor pts t 0).2)].map encQ) (fun p47 C47 hle47 hs47=>?_)
 refine D.aD (fun _=>(rsum_fn _ (hT.mono mup) _ _ 600 (by decide) (by decide) (hs47.mono mup) (three_q hb2 hb3' hb4) hb1)) rfl rfl rfl rfl rfl rfl rfl rfl rfl ?_
 refine D.q1 1 8 hR ?_
 refine G.rf ?_
 exact ⟨rfl,rfl⟩
def valV (pts:List Pt)(tris:List Tri)(fs:List Rat)(p:Pt):Value:=match locL pts tris p with
 | []=>.tuple #[strV [],.int .i64 28]
 | i::_=>numV (onQ pts fs (tris.getD i (0,0,0)) p)
theorem all_right {fs:List Rat}(h:∀ q∈fs,aR (qtx q)=true):(fs.map qtx).all aR=true:=by
 rw [List.all_eq_true]
 intro s hs
 obtain ⟨q,hq,rfl⟩:=List.mem_map.1 hs
 exact h q hq
theorem encQ_S1 (fs:List Rat):fs.map encQ=(fs.map qtx).map dM:=by rw [List.map_map];rfl
theorem qtx_short {fs:List Rat}{k:Nat}(hk:k<=100)(h:∀ q∈fs,QB k q):∀ s∈fs.map qtx,s.length<=999998:=by
 intro s hs
 obtain ⟨q,hq,rfl⟩:=List.mem_map.1 hs
 have:=bA ((h q hq).le (Nat.le_succ k)) (by omega)
 omega
theorem checks_ok (C:Mem)(hT:Tabs C)(mv v fv:Value)(pts:List Pt)(tris:List Tri)(fs:List Rat)(hm:MeshIn C mv pts tris)(hG:Good pts tris)(hv:Sl C 1 v [[fv]])(hf:Sl C 1 fv (fs.map encQ))(hfl:fs.length=pts.length){k:Nat}(hk:k<=23)(hfq:∀ q∈fs,QB k q)(hfr:∀ q∈fs,aR (qtx q)=true) :
  Gives cx.P 123 [mv,v] C (.int .i64 0):=by
 rw [encQ_S1] at hf
 have h:=checks_fn C hT mv v fv pts tris (fs.map qtx) hm hG hv hf (qtx_short (by omega) hfq)
 have e:fldZ pts.length (fs.map qtx)=0:=by unfold fldZ;rw [if_pos (by simpa using hfl),all_right hfr];rfl
 rwa [e] at h
theorem loc_at {pts:List Pt}{tris:List Tri}{p:Pt}{i:Nat}(h:i∈locL pts tris p):∃ t,tris[i]?=some t/\tris.getD i (0,0,0)=t/\inTri pts p t=true:=by
 unfold locL at h
 rw [List.mem_filter,List.mem_range] at h
 obtain ⟨h1,h2⟩:=h
 obtain ⟨t,ht⟩:∃ t,tris[i]?=some t:=⟨tris[i],List.getElem?_eq_getElem h1⟩
 have hd:tris.getD i (0,0,0)=t:=by rw [List.getD_eq_getElem?_getD,ht,Option.getD_some]
 rw [hd] at h2
 exact ⟨t,ht,hd,h2⟩
theorem on_len {q:Rat}(h:QB 600 q):(qtx q).length<=999998:=Nat.le_trans (bA h (by decide)) (by decide)
theorem value_fn (C:Mem)(hT:Tabs C)(mv fv:Value)(pts:List Pt)(tris:List Tri)(fs:List Rat)(k:Nat)(hk0:0<k)(hk:k<=23)(hm:MeshIn C mv pts tris)(hG:Good pts tris)(hf:Sl C 1 fv (fs.map encQ))(hfl:fs.length=pts.length)(hfq:∀ q∈fs,QB k q)(hfr:∀ q∈fs,aR (qtx q)=true)(p:Pt)(hp:QP 23 p)(hr:PtR p) :
  Gives cx.P 70 [mv,fv,ptV p] C (valV pts tris fs p):=by
 have hM:=hG.ok
 have hm0:=hm
 obtain ⟨v1,v2,rfl,h1,h2⟩:=id hm.ex
 obtain ⟨A4,c4,rfl,hq5,hq6,_⟩:=id hf
 simp only [List.length_map] at hf ⊢
 have hmx:maxLen<=9223372036854775807:=by simp [maxLen]
 refine Fn.it (by kernel_rfl) Tryz.func70 40 fun w0=>?_
 refine G.rg fun R hR=>?_
 refine D.aE (fun b3=>?_)
 refine D.aE (fun b5=>?_)
 refine D.q3 2 1 3 5 hR ?_
 refine G.freeze 1 rfl (fun C3 hle3 hb3=>?_)
 refine G.freeze 0 rfl (fun C5 hle5 hb5=>?_)
 refine G.rg fun R hR=>?_
 refine D.aa (PtrTo.block (Mem.get hb3 mup) _) ?_
 refine D.ae ?_
 refine D.ai [[.slice A4 fs.length c4]] (fun p13 C13 hle13 hs13=>?_)
 refine D.ah (checks_ok _ (hT.mono mup) _ _ _ pts tris fs (hm0.mono mup) hG (hs13.mono mup) (hf.mono mup) hfl hk hfq hfr) ?_
 refine D.q4 1 1 3 5 8 hR ?_
 refine G.z5 2 1 3 5 8 16 ?_
 refine G.cd (fun h16=>?_) fun h16=>?_
 ·exact absurd h16 (by decide)
 ·refine G.rg fun R hR=>?_
  refine D.aa (PtrTo.block (Mem.get hb3 mup) _) ?_
  refine D.aa (PtrTo.block (Mem.get hb5 mup) _) ?_
  refine D.aU (locate_fn _ (hT.mono mup) _ pts tris p (hm0.mono mup) hG hp hr) (fun v21 C21 hle21 hq21=>?_)
  obtain ⟨wv,rfl,hwv⟩:=hq21
  obtain ⟨Aw,cw,hwe,_⟩:=id hwv
  rw [List.length_map] at hwe
  subst hwe
  refine D.q5 5 1 3 5 9 10 hR ?_
  refine G.z6 2 1 3 5 9 10 25 ?_
  refine G.cd (fun h25=>?_) fun h25=>?_
  ·exact absurd h25 (by decide)
  ·refine G.z5 3 1 3 5 9 29 ?_
   refine G.cd (fun h29=>?_) fun h29=>?_
   ·have hnil:locL pts tris p=[]:=by
     have h:(((locL pts tris p).length:Nat):Int)=0:=by simpa using h29
     exact List.eq_nil_of_length_eq_zero (by omega)
    refine G.z2 2 6 7 ?_
    refine G.aA (G.dropAll (G.aP rfl rfl rfl ?_))
    exact ⟨by unfold valV;rw [hnil];rfl,rfl⟩
   ·obtain ⟨i,r,hir⟩:∃ i r,locL pts tris p=i::r:=by
     cases hl:locL pts tris p with
     | nil=>rw [hl] at h29;exact absurd h29 (by decide)
     | cons i r=>exact ⟨i,r,rfl⟩
    obtain ⟨t,ht,htd,_⟩:=loc_at (pts:=pts) (tris:=tris) (p:=p) (i:=i) (by rw [hir];simp)
    have hqb:=onQ_qb hk hM hfl hfq (List.mem_of_getElem? ht) hp
    have hV:valV pts tris fs p=numV (onQ pts fs t p):=by unfold valV;rw [hir];show numV (onQ pts fs (tris.getD i (0,0,0)) p)=_;rw [htd]
    rw [hir] at hwv ⊢
    refine G.aI [0,1,2,3,4,5,6,7,8,9,10,11] [(6,1),(7,1)] rfl (by kernel_rfl) (fun R hB hR=>?_)
    refine D.aa (PtrTo.block (Mem.get hb3 mup) _) ?_
    refine D.ps 2 ?_
    refine D.ap (hwv.mono mup) rfl rfl rfl rfl rfl rfl rfl rfl rfl rfl (by omega) (rfl:(List.map encN (i::r))[0]?=some (encN i)) (fun _=>rfl) (fun p33 hp33=>?_)
    refine D.aa hp33 ?_
    refine D.aa (PtrTo.block (Mem.get hb5 mup) _) ?_
    refine D.bd (fun _=>(on_fn _ (hT.mono mup) _ _ pts tris fs k hk0 hk (hm0.mono mup) hM (hf.mono mup) hfl hfq i t ht p hp)) ?_
    refine D.bd (fun _=>(fnumber_q _ (hT.mono mup) _ (on_len hqb.1))) ?_
    rw [show numV (onQ pts fs t p)=.tuple #[if aR (qtx (onQ pts fs t p)) then strV (qtx (onQ pts fs t p)) else strV [],.int .i64 (if aR (qtx (onQ pts fs t p)) then 0 else 4)] by unfold numV;split <;> rfl]
    refine D.q2 4 6 7 hR ?_
    refine G.aA (G.dropAll (G.aP rfl rfl rfl ?_))
    refine ⟨?_,rfl⟩
    rw [hV]
    unfold numV
    split <;> rfl

theorem ptR_of {p:Pt}(h:QP 22 p):PtR p:=⟨bf h.1,bf h.2⟩
theorem slope_fn (C:Mem)(hT:Tabs C)(mv fv:Value)(pts:List Pt)(tris:List Tri)(fs:List Rat)(k:Nat)(hk0:0<k)(hk:k<=23)(hm:MeshIn C mv pts tris)(hG:Good pts tris)(hf:Sl C 1 fv (fs.map encQ))(hfl:fs.length=pts.length)(hfq:∀ q∈fs,QB k q)(hfr:∀ q∈fs,aR (qtx q)=true)(i:Nat)(t:Tri)(ht:tris[i]?=some t)(hw:QP 22 (aZ pts fs t)) :
  Gives cx.P 71 [mv,fv,.int .i64 i] C (.tuple #[ptV (aZ pts fs t),.int .i64 0]):=by
 have hM:=hG.ok
 have hm0:=hm
 have hil:=(List.getElem?_eq_some_iff.1 ht).1
 obtain ⟨v1,v2,rfl,h1,h2⟩:=id hm.ex
 obtain ⟨A2,c2,rfl,hq3,hq4,_⟩:=id h2
 obtain ⟨A4,c4,rfl,hq5,hq6,_⟩:=id hf
 simp only [List.length_map] at hf h2 hm0 ⊢
 have hmx:maxLen<=9223372036854775807:=by simp [maxLen]
 refine Fn.it (by kernel_rfl) Tryz.func71 37 fun w0=>?_
 refine G.rg fun R hR=>?_
 refine D.aE (fun b3=>?_)
 refine D.aq (fun b6=>?_)
 refine D.q4 1 1 2 3 6 hR ?_
 refine G.freeze 1 rfl (fun C3 hle3 hb3=>?_)
 refine G.rg fun R hR=>?_
 refine D.aa (PtrTo.block (Mem.get hb3 mup) _) ?_
 refine D.ae ?_
 refine D.ai [[.slice A4 fs.length c4]] (fun p12 C12 hle12 hs12=>?_)
 refine D.ah (checks_ok _ (hT.mono mup) _ _ _ pts tris fs (hm0.mono mup) hG (hs12.mono mup) (hf.mono mup) hfl hk hfq hfr) ?_
 refine D.q5 1 1 2 3 6 8 hR ?_
 refine G.z6 2 1 2 3 6 8 15 ?_
 refine G.cd (fun h15=>?_) fun h15=>?_
 ·exact absurd h15 (by decide)
 ·refine G.rp 5 fun R hR=>?_
  refine D.aY rfl rfl rfl rfl rfl rfl (fun _=>PtrTo.block (Mem.get hb3 mup) _) rfl rfl rfl ?_
  refine D.ps 2 ?_
  refine D.aB ?_
  refine D.e5 1 2 3 6 26 hR ?_
  refine G.cd (fun h26=>?_) fun h26=>?_
  ·exfalso
   simp only [Bool.or_eq_true,decide_eq_true_eq] at h26
   omega
  ·refine G.rg fun R hR=>?_
   refine D.aa (PtrTo.block (Mem.get hb3 mup) _) ?_
   refine D.ps 2 ?_
   refine D.af (fslope_fn _ (hT.mono mup) _ _ pts tris fs k hk0 (by omega) (hm0.mono mup) hM (hf.mono mup) hfl hfq i t ht) rfl rfl rfl rfl rfl rfl rfl (fun _=>rfl) ?_
   refine D.aq (fun b9=>?_)
   refine D.aj (j:=0) ?_
   refine D.e2 6 9 hR ?_
   refine G.freeze 0 rfl (fun C9 hle9 hb9=>?_)
   refine G.rg fun R hR=>?_
   refine D.aa (PtrTo.block (Mem.get hb9 mup) _) ?_
   refine D.af (fq _ (hT.mono mup) _ (hw.le (by decide)) (ptR_of hw)) rfl rfl rfl rfl rfl rfl rfl (fun _=>rfl) ?_
   refine D.q3 1 6 9 34 hR ?_
   refine G.cd (fun h34=>?_) fun h34=>?_
   ·exact absurd h34 (by decide)
   ·refine G.rg fun R hR=>?_
    refine D.aa (PtrTo.block (Mem.get hb9 mup) _) ?_
    refine D.aj (j:=0) ?_
    refine D.q2 1 6 7 hR ?_
    refine G.aA (G.finC2 (.head _) rfl rfl rfl rfl rfl ?_)
    exact ⟨rfl,rfl⟩

def idxF {α:Type}(p:α->Bool):List α->Nat->Int
 | [],_=>-1
 | x::l,k=>if p x then (k:Nat) else idxF p l (k+1)
theorem idxF_hit {α:Type}{p:α->Bool}:∀ {l:List α}{i k:Nat}{x:α},l[i]?=some x->p x=true->(∀ y∈l.take i,p y=false)->idxF p l k=((k+i:Nat):Int)
 | y::l,0,k,x,h,hp,_=>by
  simp only [List.getElem?_cons_zero,Option.some.injEq] at h
  subst h
  simp [idxF,hp]
 | y::l,i+1,k,x,h,hp,hn=>by
  simp only [List.getElem?_cons_succ] at h
  have hy:p y=false:=hn y (by simp)
  have:=idxF_hit (k:=k+1) h hp (fun z hz=>hn z (by simp [hz]))
  simp only [idxF,hy,Bool.false_eq_true,if_false,this]
  omega
theorem idxF_miss {α:Type}{p:α->Bool}:∀ {l:List α}{k:Nat},(∀ y∈l,p y=false)->idxF p l k=-1
 | [],_,_=>rfl
 | y::l,k,h=>by
  simp only [idxF,h y List.mem_cons_self,Bool.false_eq_true,if_false]
  exact idxF_miss fun z hz=>h z (List.mem_cons_of_mem _ hz)
theorem idxF_cases {α:Type}(p:α->Bool)(l:List α):(idxF p l 0=-1/\∀ y∈l,p y=false)∨∃ (i:Nat)(x:α),idxF p l 0=(i:Nat)/\l[i]?=some x/\p x=true/\∀ y∈l.take i,p y=false:=by
 by_cases h:∀ y∈l,p y=false
 ·exact .inl ⟨idxF_miss h,h⟩
 ·right
  have key:∀ (l:List α),(¬ ∀ y∈l,p y=false)->∃ (i:Nat)(x:α),l[i]?=some x/\p x=true/\∀ y∈l.take i,p y=false:=by
   intro l
   induction l with
   | nil=>intro h;exact absurd (fun y hy=>(by cases hy)) h
   | cons a l ih =>
    intro h
    by_cases ha:p a=true
    ·exact ⟨0,a,rfl,ha,by simp⟩
    ·have ha':p a=false:=by simpa using ha
     obtain ⟨i,x,h1,h2,h3⟩:=ih (fun h2=>h (fun y hy=>by
      rcases List.mem_cons.1 hy with rfl | hy
      ·exact ha'
      ·exact h2 y hy))
     refine ⟨i+1,x,by simpa using h1,h2,fun y hy=>?_⟩
     rw [List.take_succ_cons] at hy
     rcases List.mem_cons.1 hy with rfl | hy
     ·exact ha'
     ·exact h3 y hy
  obtain ⟨i,x,h1,h2,h3⟩:=key l h
  exact ⟨i,x,by rw [idxF_hit h1 h2 h3,Nat.zero_add],h1,h2,h3⟩
structure Lay where
 unit:Str
 min:Rat
 max:Option Rat
def optS:Option Rat->Str
 | none=>[]
 | some q=>qtx q
def encL (x:Lay):List Value:=[strV x.unit,strV (qtx x.min),strV (optS x.max)]
def isU (u:Str)(x:Lay):Bool:=decide (x.unit=u)
def LayR (x:Lay):Prop:=QB 22 x.min/\(∀ q,x.max=some q->QB 22 q)/\x.unit.length<=999998
theorem opt_nil (m:Option Rat):(!((⟨(optS m).toArray⟩:ByteArray).data.toList == (⟨#[]⟩:ByteArray).data.toList))=m.isSome:=by
 cases m with
 | none=>rfl
 | some q =>
  have:=qtx_ne q
  show (!(qtx q == []))=true
  cases h:qtx q with
  | nil=>rw [h] at this;simp at this
  | cons a l=>rfl
theorem indexFuncL_fn (C:Mem)(v:Value)(l:List Lay)(g:Nat)(ca:List Value)(pb:Lay->Bool)(hv:Sl C 3 v (l.map encL))(_hen:Jog.Enters cx.P g=true)
  (hp:∀ x∈l,∀ D:Mem,C.le D->Gives cx.P g (.agg ⟨encL x⟩::ca) D (.bool (pb x))) :
  Gives cx.P 183 [v,.func (.func g) #[] ⟨ca⟩] C (.int .i64 (idxF pb l 0)):=by
 obtain ⟨A0,c0,rfl,hc1,hc2,_⟩:=id hv
 have hmx:maxLen<=9223372036854775807:=by simp [maxLen]
 simp only [List.length_map] at hv hc1 ⊢
 refine Fn.it (by kernel_rfl) Tryz.func183 19 fun w0=>?_
 refine G.z2 1 0 1 ?_
 refine G.z4 3 0 1 7 8 ?_
 refine G.loop (fun fr C' L' μ=>∃ (i:Nat),(i<=l.length/\∀ y∈l.take i,pb y=false)/\fr=[(0,[],.slice A0 l.length c0),(1,[],.func (.func g) #[] ⟨ca⟩),(7,[],.int .i64 l.length),(8,[],.int .i64 i)]/\L'=[]/\μ=l.length-i) (h_4 0 1 7 8) ⟨0,⟨Nat.zero_le _,by simp⟩,rfl,rfl,rfl⟩ (fun fr C0' L0' m hle0 hI=>?_)
 obtain ⟨i,⟨hi,hno⟩,rfl,rfl,rfl⟩:=hI
 refine G.z5 1 0 1 7 8 9 ?_
 refine G.cd (fun h9=>?_) fun h9=>?_
 ·have hil:i<l.length:=by simpa using h9
  obtain ⟨x,hx⟩:∃ x,l[i]?=some x:=⟨l[i],List.getElem?_eq_getElem hil⟩
  refine G.z5 2 0 1 5 7 8 ?_
  refine G.rp 3 fun R hR=>?_
  refine D.ap (hv.mono mup) rfl rfl rfl rfl rfl rfl rfl rfl rfl rfl (by omega) (bl hx) (fun _=>rfl) (fun p14 hp14=>?_)
  refine D.aa hp14 ?_
  refine D.ah (hp x (List.mem_of_getElem? hx) _ mup) ?_
  refine D.e6 0 1 5 7 8 16 hR ?_
  refine G.cd (fun h16=>?_) fun h16=>?_
  ·have hyes:pb x=true:=h16
   refine G.z1 2 4 ?_
   refine G.rf ?_
   exact ⟨by rw [idxF_hit hx hyes hno,Nat.zero_add],rfl⟩
  ·have hn:pb x=false:=h16
   refine G.rg fun R hR=>?_
   refine D.am _ ?_
   refine D.q4 1 0 1 7 8 hR ?_
   refine G.au (m':=l.length-(i+1)) (by omega) hle0 (h_4 0 1 7 8) ⟨i+1,⟨by omega,fun y hy=>by
    rw [List.take_add_one,hx] at hy
    rcases List.mem_append.1 hy with hy | hy
    ·exact hno y hy
    ·simp only [Option.toList_some,List.mem_singleton] at hy
     subst hy
     exact hn⟩,rfl,rfl,rfl⟩
 ·have hil:i=l.length:=by
   have:¬ i<l.length:=by simpa using h9
   omega
  refine G.z1 1 4 ?_
  refine G.rf ?_
  exact ⟨by rw [hil,List.take_length] at hno;rw [idxF_miss hno],rfl⟩
theorem strEq (a b:Str):((⟨a.toArray⟩:ByteArray).data.toList == (⟨b.toArray⟩:ByteArray).data.toList)=decide (a=b):=by
 show (a == b)=_
 by_cases h:a=b <;> simp [h]
theorem colAt1_fn (C:Mem)(b:Nat)(u:Str)(x:Lay)(hb:C b=some (.cells ⟨[strV u]⟩ 9 (0,0))):Gives cx.P 184 [.agg ⟨encL x⟩,.pointer (some ⟨b,0,none⟩)] C (.bool (isU u x)):=by
 refine Fn.it (by kernel_rfl) Tryz.func184 8 fun w0=>?_
 refine G.rg fun R hR=>?_
 refine D.aE (fun b2=>?_)
 refine D.q2 1 1 2 hR ?_
 refine G.rp 1 fun R hR=>?_
 refine D.ag (.head _) ?_
 refine D.aa (PtrTo.block (Mem.get hb mup) _) ?_
 refine D.q1 2 3 hR ?_
 refine G.rf ?_
 exact ⟨by unfold isU;rw [<- strEq],rfl⟩
theorem bookIdx1_fn (C:Mem)(b:Nat)(u:Str)(x:Lay)(hb:C b=some (.cells ⟨[strV u]⟩ 9 (0,0))):Gives cx.P 186 [.agg ⟨encL x⟩,.pointer (some ⟨b,0,none⟩)] C (.bool (isU u x)):=by
 refine Fn.it (by kernel_rfl) Tryz.func186 8 fun w0=>?_
 refine G.rg fun R hR=>?_
 refine D.aE (fun b2=>?_)
 refine D.q2 1 1 2 hR ?_
 refine G.rp 1 fun R hR=>?_
 refine D.ag (.head _) ?_
 refine D.aa (PtrTo.block (Mem.get hb mup) _) ?_
 refine D.q1 2 3 hR ?_
 refine G.rf ?_
 exact ⟨by unfold isU;rw [<- strEq],rfl⟩
theorem colAt_fn (C:Mem)(v:Value)(l:List Lay)(u:Str)(hv:Sl C 3 v (l.map encL)):Gives cx.P 132 [v,strV u] C (.int .i64 (idxF (isU u) l 0)):=by
 refine Fn.it (by kernel_rfl) Tryz.func132 8 fun w0=>?_
 refine G.rg fun R hR=>?_
 refine D.aE (fun b3=>?_)
 refine D.q2 1 0 3 hR ?_
 refine G.freeze 0 rfl (fun C3 hle3 hb3=>?_)
 refine G.rp 2 fun R hR=>?_
 refine D.ah (indexFuncL_fn _ _ l 184 [.pointer (some ⟨b3,0,none⟩)] (isU u) (hv.mono mup) rfl (fun x _ D hD=>colAt1_fn D b3 u x (hD _ _ (Mem.get hb3 mup)))) ?_
 refine D.q1 1 4 hR ?_
 refine G.rf ?_
 exact ⟨rfl,rfl⟩
theorem bookIdx_fn (C:Mem)(v:Value)(l:List Lay)(u:Str)(hv:Sl C 3 v (l.map encL)):Gives cx.P 135 [v,strV u] C (.int .i64 (idxF (isU u) l 0)):=by
 refine Fn.it (by kernel_rfl) Tryz.func135 8 fun w0=>?_
 refine G.rg fun R hR=>?_
 refine D.aE (fun b3=>?_)
 refine D.q2 1 0 3 hR ?_
 refine G.freeze 0 rfl (fun C3 hle3 hb3=>?_)
 refine G.rp 2 fun R hR=>?_
 refine D.ah (indexFuncL_fn _ _ l 186 [.pointer (some ⟨b3,0,none⟩)] (isU u) (hv.mono mup) rfl (fun x _ D hD=>bookIdx1_fn D b3 u x (hD _ _ (Mem.get hb3 mup)))) ?_
 refine D.q1 1 4 hR ?_
 refine G.rf ?_
 exact ⟨rfl,rfl⟩
theorem dZ {q:Rat}(h:QB 22 q):(qtx q).length<=999998:=Nat.le_trans (bA h (by decide)) (by decide)
theorem layer_fn (C:Mem)(hT:Tabs C)(x:Lay)(hx:LayR x):Gives cx.P 130 [.agg ⟨encL x⟩] C (.int .i64 0):=by
 obtain ⟨u,mn,mxo⟩:=x
 obtain ⟨h1,h2,h3⟩:=hx
 simp only at h1 h2 h3
 clear h3
 have hml:(optS mxo).length<=999998:=by
  cases mxo with
  | none=>decide
  | some q=>exact dZ (h2 q rfl)
 refine Fn.it (by kernel_rfl) Tryz.func130 17 fun w0=>?_
 refine G.rg fun R hR=>?_
 refine D.aE (fun b1=>?_)
 refine D.q1 1 1 hR ?_
 refine G.rp 1 fun R hR=>?_
 refine D.ag (.head _) ?_
 refine D.ah (db _ (hT.mono mup) (qtx mn) (dZ h1)) ?_
 refine D.q2 2 1 3 hR ?_
 refine G.cd (fun h3=>?_) fun h3=>?_
 ·exfalso
  rw [chk_ok h1] at h3
  exact absurd h3 (by decide)
 ·refine G.rp 1 fun R hR=>?_
  refine D.ag (.head _) ?_
  refine D.ps 3 ?_
  refine D.ag (.head _) ?_
  refine D.bd (fun _=>(db _ (hT.mono mup) (optS mxo) hml)) ?_
  refine D.ae ?_
  refine D.ay ?_
  refine D.q1 1 3 hR ?_
  refine G.cd (fun h3b=>?_) fun h3b=>?_
  ·exfalso
   simp only [] at h3b
   cases mxo with
   | none=>exact absurd h3b (by decide)
   | some q =>
    rw [show optS (some q)=qtx q from rfl,chk_ok (h2 q rfl)] at h3b
    simp at h3b
  ·refine G.z1 1 2 ?_
   refine G.rf ?_
   exact ⟨rfl,rfl⟩

def lessB (x:Lay):Bool:=match x.max with
 | none=>false
 | some m=>decide (m<x.min)
def layZ (pre:List Lay)(x:Lay):Int:=if bO x.unit=false then 8 else if 0<=idxF (isU x.unit) pre 0 then 9 else if x.min<0 then 3 else if lessB x then 6 else 0
def colF (l:List Lay):Nat->Int
 | 0=>0
 | n+1=>if colF l n≠0 then colF l n else layZ (l.take n) (l.getD n ⟨[],0,none⟩)
def colZ (l:List Lay):Int:=if l=[] then 13 else if 60<l.length then 4 else colF l l.length
theorem colF_stay {l:List Lay}{n:Nat}(h:colF l n≠0):∀ m,n<=m->colF l m=colF l n
 | 0,hm=>by rw [show n=0 by omega]
 | m+1,hm=>by
  rcases Nat.lt_or_ge m n with h1 | h1
  ·rw [show n=m+1 by omega]
  ·have ih:=colF_stay h m h1
   simp only [colF,ih]
   rw [if_pos h]
theorem lay_at {l:List Lay}{i:Nat}{x:Lay}(h:l[i]?=some x):l.getD i ⟨[],0,none⟩=x:=by rw [List.getD_eq_getElem?_getD,h,Option.getD_some]
theorem col_step {l:List Lay}{i:Nat}{x:Lay}(h0:colF l i=0)(hx:l[i]?=some x):colF l (i+1)=layZ (l.take i) x:=by
 simp only [colF,h0]
 rw [if_neg (by decide),lay_at hx]
theorem col_err {l:List Lay}{i:Nat}{x:Lay}{z:Int}(h0:colF l i=0)(hx:l[i]?=some x)(hz:layZ (l.take i) x=z)(hne:z≠0)(hl:¬ 60<l.length):colZ l=z:=by
 have hi:=(List.getElem?_eq_some_iff.1 hx).1
 have h1:=col_step h0 hx
 unfold colZ
 rw [if_neg (fun e=>by rw [e] at hi;simp at hi),if_neg hl,colF_stay (n:=i+1) (by rw [h1,hz];exact hne) l.length (by omega),h1,hz]
theorem cmp_opt (C:Mem)(hT:Tabs C)(mo:Option Rat)(mn:Rat)(h1:QB 22 mn)(h2:∀ q,mo=some q->QB 22 q)(h:(!((⟨(optS mo).toArray⟩:ByteArray).data.toList == (⟨#[]⟩:ByteArray).data.toList))=true) :
  Gives cx.P 116 [strV (optS mo),strV (qtx mn)] C (.int .i64 (cmpQ (mo.getD 0) mn)):=by
 rw [opt_nil] at h
 cases mo with
 | none=>cases h
 | some q=>exact fb C hT q mn 22 (by decide) (by decide) (h2 q rfl) h1
theorem less_opt (x:Lay):(x.max.isSome && decide (cmpQ (x.max.getD 0) x.min<0))=lessB x:=by
 unfold lessB
 cases x.max with
 | none=>rfl
 | some q =>
  show (true && decide (cmpQ q x.min<0))=decide (q<x.min)
  unfold cmpQ
  by_cases h:q<x.min
  ·simp [h]
  ·rw [if_neg h,decide_eq_false h]
   split <;> rfl
theorem neg_sgn (q:Rat):decide (sgnZ q.num<0)=decide (q<0):=by
 rw [decide_eq_decide,<- qnum_neg]
 rcases cU q.num with h | h | h <;> omega
theorem colCheck_fn (C:Mem)(hT:Tabs C)(v:Value)(l:List Lay)(hv:Sl C 3 v (l.map encL))(hl:∀ x∈l,LayR x)(hll:l.length<=1000000):Gives cx.P 74 [v] C (.int .i64 (colZ l)):=by
 obtain ⟨A0,c0,rfl,hc1,hc2,_⟩:=id hv
 have hmx:maxLen<=9223372036854775807:=by simp [maxLen]
 simp only [List.length_map] at hv hc1 ⊢
 refine Fn.it (by kernel_rfl) Tryz.func74 57 fun w0=>?_
 refine G.z1 1 0 ?_
 refine G.z2 4 0 6 ?_
 refine G.cd (fun h6=>?_) fun h6=>?_
 ·have h0:l=[]:=by
   have h:((l.length:Nat):Int)=0:=by simpa using h6
   exact List.eq_nil_of_length_eq_zero (by omega)
  refine G.z1 1 2 ?_
  refine G.rf ?_
  exact ⟨by rw [h0];rfl,rfl⟩
 ·have h0:l≠[]:=by
   intro e
   rw [e] at h6
   exact absurd h6 (by decide)
  refine G.z2 4 0 10 ?_
  refine G.cd (fun h10=>?_) fun h10=>?_
  ·have h60:60<l.length:=by
    simp only [decide_eq_true_eq] at h10
    omega
   refine G.z1 1 2 ?_
   refine G.rf ?_
   exact ⟨by unfold colZ;rw [if_neg h0,if_pos h60],rfl⟩
  ·have h60:¬ 60<l.length:=by
    simp only [decide_eq_false_iff_not] at h10
    omega
   refine G.z4 3 0 14 15 16 ?_
   refine G.loop (fun fr C' L' μ=>∃ (i:Nat),(i<=l.length/\colF l i=0)/\fr=[(0,[],.slice A0 l.length c0),(14,[],.slice A0 l.length c0),(15,[],.int .i64 l.length),(16,[],.int .i64 i)]/\L'=[]/\μ=l.length-i) (h_4 0 14 15 16) ⟨0,⟨Nat.zero_le _,rfl⟩,rfl,rfl,rfl⟩ (fun fr C0' L0' m hle0 hI=>?_)
   obtain ⟨i,⟨hi,hno⟩,rfl,rfl,rfl⟩:=hI
   refine G.z5 1 0 14 15 16 17 ?_
   refine G.cd (fun h17=>?_) fun h17=>?_
   ·have hil:i<l.length:=by simpa using h17
    obtain ⟨x,hx⟩:∃ x,l[i]?=some x:=⟨l[i],List.getElem?_eq_getElem hil⟩
    obtain ⟨hr1,hr2,hr3⟩:=hl x (List.mem_of_getElem? hx)
    have hsub:=Sl.sub hv (l:=0) (h:=i) (m:=c0) (Nat.zero_le _) (by simp;omega) (by omega) (Nat.le_refl _)
    rw [List.drop_zero,<- List.map_take] at hsub
    refine G.rp 1 fun R hR=>?_
    refine D.ap (hv.mono mup) rfl rfl rfl rfl rfl rfl rfl rfl rfl rfl (by omega) (bl hx) (fun _=>rfl) (fun p19 hp19=>?_)
    refine D.aa hp19 ?_
    refine D.aq (fun b4=>?_)
    refine D.ae ?_
    refine D.aj (j:=0) ?_
    refine D.e6 0 3 4 14 15 16 hR ?_
    refine G.rg fun R hR=>?_
    refine D.ag (.head _) ?_
    refine D.ah (layer_fn _ (hT.mono mup) x ⟨hr1,hr2,hr3⟩) ?_
    refine D.q7 1 0 3 4 5 14 15 16 hR ?_
    refine G.z8 2 0 3 4 5 14 15 16 24 ?_
    refine G.cd (fun h24=>?_) fun h24=>?_
    ·exact absurd h24 (by decide)
    ·refine G.rp 1 fun R hR=>?_
     refine D.ag (.head _) ?_
     refine D.af (fh _ x.unit (by omega)) rfl rfl rfl rfl rfl rfl rfl (fun _=>rfl) ?_
     refine D.q7 2 0 3 4 14 15 16 26 hR ?_
     refine G.cd (fun h26=>?_) fun h26=>?_
     ·have hnm:bO x.unit=false:=by simpa using h26
      refine G.z1 1 2 ?_
      refine G.rf ?_
      exact ⟨by rw [col_err (z:=8) hno hx (by unfold layZ;rw [if_pos hnm]) (by decide) h60],rfl⟩
     ·have hnm:¬ bO x.unit=false:=by
       have h:bO x.unit=true:=by simpa using h26
       rw [h];decide
      refine G.aI [0,1,2,3,4,5,6,7] [(5,1)] rfl (by kernel_rfl) (fun R hB hR=>?_)
      refine D.ps 2 ?_
      refine D.fw 0 i c0 rfl rfl rfl rfl rfl rfl rfl rfl rfl rfl rfl rfl (fun _=>⟨.inl ⟨rfl,rfl⟩,.inr ⟨_,rfl⟩,.inl ⟨rfl,rfl⟩,by omega,by omega,by omega⟩) rfl rfl ?_
      refine D.ae ?_
      refine D.ag (.head _) ?_
      refine D.bd (fun _=>(colAt_fn _ _ (l.take i) x.unit (hsub.mono mup))) ?_
      refine D.q6 2 0 4 14 15 16 31 hR ?_
      refine G.cd (fun h31=>?_) fun h31=>?_
      ·have hd:0<=idxF (isU x.unit) (l.take i) 0:=by simpa using h31
       refine G.z1 1 2 ?_
       refine G.rf ?_
       exact ⟨by rw [col_err (z:=9) hno hx (by unfold layZ;rw [if_neg hnm,if_pos hd]) (by decide) h60],rfl⟩
      ·have hd:¬ 0<=idxF (isU x.unit) (l.take i) 0:=by simpa using h31
       refine G.rp 1 fun R hR=>?_
       refine D.ag (.head _) ?_
       refine D.af (rsign_fn _ x.min (Nat.le_trans (dZ hr1) (by decide))) rfl rfl rfl rfl rfl rfl rfl (fun _=>rfl) ?_
       refine D.q6 2 0 4 14 15 16 39 hR ?_
       refine G.cd (fun h39=>?_) fun h39=>?_
       ·have hs:x.min<0:=by
         rw [neg_sgn] at h39
         exact of_decide_eq_true h39
        refine G.z1 1 2 ?_
        refine G.rf ?_
        exact ⟨by rw [col_err (z:=3) hno hx (by unfold layZ;rw [if_neg hnm,if_neg hd,if_pos hs]) (by decide) h60],rfl⟩
       ·have hs:¬ x.min<0:=by
         rw [neg_sgn] at h39
         exact of_decide_eq_false h39
        refine G.rp 1 fun R hR=>?_
        refine D.ag (.head _) ?_
        refine D.ps 3 ?_
        refine D.ag (.head _) ?_
        refine D.ae ?_
        refine D.ag (.head _) ?_
        refine D.aD (fun hg=>(cmp_opt _ (hT.mono mup) x.max x.min hr1 hr2 (by exact hg.1))) rfl rfl rfl rfl rfl rfl rfl rfl rfl ?_
        refine D.ae ?_
        refine D.ay ?_
        refine D.q5 1 0 14 15 16 44 hR ?_
        refine G.cd (fun h44=>?_) fun h44=>?_
        ·have ho:lessB x=true:=by
          rw [<- less_opt,<- opt_nil]
          exact h44
         refine G.z1 1 2 ?_
         refine G.rf ?_
         exact ⟨by rw [col_err (z:=6) hno hx (by unfold layZ;rw [if_neg hnm,if_neg hd,if_neg hs,if_pos ho]) (by decide) h60],rfl⟩
        ·have ho:lessB x=false:=by
          rw [<- less_opt,<- opt_nil]
          exact h44
         have hnx:colF l (i+1)=0:=by rw [col_step hno hx];unfold layZ;rw [if_neg hnm,if_neg hd,if_neg hs,ho];rfl
         refine G.rg fun R hR=>?_
         refine D.am _ ?_
         refine D.q4 1 0 14 15 16 hR ?_
         refine G.dropAll ?_
         refine G.au (m':=l.length-(i+1)) (by omega) hle0 (h_4 0 14 15 16) ⟨i+1,⟨by omega,hnx⟩,rfl,rfl,rfl⟩
   ·have hil:i=l.length:=by
     have:¬ i<l.length:=by simpa using h17
     omega
    refine G.z1 1 2 ?_
    refine G.rf ?_
    refine ⟨?_,rfl⟩
    rw [hil] at hno
    unfold colZ
    rw [if_neg h0,if_neg h60,hno]
theorem colIndex_fn (C:Mem)(hT:Tabs C)(v:Value)(l:List Lay)(u:Str)(hv:Sl C 3 v (l.map encL))(hl:∀ x∈l,LayR x)(hz:colZ l=0)(i:Nat)(hi:idxF (isU u) l 0=(i:Nat)):Gives cx.P 88 [v,strV u] C (.tuple #[.int .i64 (i:Nat),.bool true,.int .i64 0]):=by
 have hll:l.length<=1000000:=by
  unfold colZ at hz
  split at hz
  ·cases hz
  ·split at hz
   ·cases hz
   ·omega
 refine Fn.it (by kernel_rfl) Tryz.func88 20 fun w0=>?_
 refine G.z2 3 0 1 ?_
 refine G.rp 1 fun R hR=>?_
 refine D.af (by have h:=colCheck_fn _ (hT.mono mup) v l (hv.mono mup) hl hll;rw [hz] at h;exact h) rfl rfl rfl rfl rfl rfl rfl (fun _=>rfl) ?_
 refine D.q3 1 0 1 7 hR ?_
 refine G.z4 2 0 1 7 12 ?_
 refine G.cd (fun h12=>?_) fun h12=>?_
 ·exact absurd h12 (by decide)
 ·refine G.rp 2 fun R hR=>?_
  refine D.af (by have h:=colAt_fn _ v l u (hv.mono mup);rw [hi] at h;exact h) rfl rfl rfl rfl rfl rfl rfl (fun _=>rfl) ?_
  refine D.q1 1 8 hR ?_
  refine G.z2 2 8 18 ?_
  refine G.cd (fun h18=>?_) fun h18=>?_
  ·refine G.z3 4 4 5 6 ?_
   refine G.aA (G.dropAll (G.eU rfl rfl rfl rfl ?_))
   exact ⟨rfl,rfl⟩
  ·exfalso
   simp only [decide_eq_false_iff_not] at h18
   omega

structure Obs where
 kind:Int
 name:Str
 x:Str
 y:Str
 depth:Str
 upper:Str
 lower:Str
 nx:Str
 ny:Str
 nz:Str
def encO (o:Obs):List Value:=[.int .i64 o.kind,strV o.name,strV o.x,strV o.y,strV o.depth,strV o.upper,strV o.lower,strV o.nx,strV o.ny,strV o.nz]
structure ObsR (o:Obs):Prop where
 name:o.name.length<=999998
 x:o.x.length<=999998
 y:o.y.length<=999998
 depth:o.depth.length<=999998
 upper:o.upper.length<=999998
 lower:o.lower.length<=999998
 nx:o.nx.length<=999998
 ny:o.ny.length<=999998
 nz:o.nz.length<=999998
def nameBad (o:Obs):Bool:=(!bO o.name || !bO o.upper) || ((!(o.kind == 1)) && !bO o.lower)
def numBad (o:Obs):Bool:=(!(aR o.x && aR o.y) || ((o.kind == 2) && !aR o.depth)) || ((o.kind == 3) && !(aR o.nx && aR o.ny && aR o.nz))
def formBad (o:Obs):Bool:=(((o.kind == 1) && !(o.lower == [])) || ((!(o.kind == 2)) && !(o.depth == []))) || ((!(o.kind == 3)) && !(decide (o.nx=[]/\o.ny=[]/\o.nz=[])))
def cK (o:Obs):Int:=if o.kind<1∨3<o.kind then 12 else if nameBad o then 8 else if numBad o then 2 else if formBad o then 7 else 0
theorem nil3 (a b c:Str):(!((a == []) && ((b == []) && ((c == []) && true))))=!decide (a=[]/\b=[]/\c=[]):=by
 cases a <;> cases b <;> cases c <;> rfl
theorem chk_ne' (b:Bool):(chkZ b != 0)=!b:=by cases b <;> rfl
theorem shape_fn (C:Mem)(hT:Tabs C)(o:Obs)(ho:ObsR o):Gives cx.P 134 [.agg ⟨encO o⟩] C (.int .i64 (cK o)):=by
 have h1:=ho.name
 have h2:=ho.upper
 have h3:=ho.lower
 refine Fn.it (by kernel_rfl) Tryz.func134 87 fun w0=>?_
 refine G.rg fun R hR=>?_
 refine D.aE (fun b1=>?_)
 refine D.q1 1 1 hR ?_
 refine G.freeze 0 rfl (fun C1 hle1 hb1=>?_)
 refine G.rp 1 fun R hR=>?_
 refine D.aa (bkT hb1 1) ?_
 refine D.ps 3 ?_
 refine D.aY rfl rfl rfl rfl rfl rfl (fun _=>PtrTo.blockT (Mem.get hb1 mup) _ 1) rfl rfl rfl ?_
 refine D.ae ?_
 refine D.aB ?_
 refine D.e2 1 10 hR ?_
 refine G.cd (fun h10=>?_) fun h10=>?_
 ·have hk:o.kind<1∨3<o.kind:=by simpa using h10
  refine G.z1 1 2 ?_
  refine G.rf ?_
  exact ⟨by unfold cK;rw [if_pos hk],rfl⟩
 ·have hk:¬ (o.kind<1∨3<o.kind):=by simpa using h10
  refine G.rp 1 fun R hR=>?_
  refine D.aa (bkT hb1 1) ?_
  refine D.af (fh _ o.name (by omega)) rfl rfl rfl rfl rfl rfl rfl (fun _=>rfl) ?_
  refine D.ps 3 ?_
  refine D.aY rfl rfl rfl rfl rfl rfl (fun _=>PtrTo.blockT (Mem.get hb1 mup) _ 1) rfl rfl rfl ?_
  refine D.aD (fun _=>(fh _ o.upper (by omega))) rfl rfl rfl rfl rfl rfl rfl rfl rfl ?_
  refine D.ae ?_
  refine D.aB ?_
  refine D.ps 2 ?_
  refine D.aY rfl rfl rfl rfl rfl rfl (fun _=>PtrTo.blockT (Mem.get hb1 mup) _ 1) rfl rfl rfl ?_
  refine D.ps 3 ?_
  refine D.aY rfl rfl rfl rfl rfl rfl (fun _=>PtrTo.blockT (Mem.get hb1 mup) _ 1) rfl rfl rfl ?_
  refine D.aD (fun _=>(fh _ o.lower (by omega))) rfl rfl rfl rfl rfl rfl rfl rfl rfl ?_
  refine D.ae ?_
  refine D.ay ?_
  refine D.aB ?_
  refine D.e2 1 31 hR ?_
  refine G.cd (fun h31=>?_) fun h31=>?_
  ·have hn:nameBad o=true:=h31
   refine G.z1 1 2 ?_
   refine G.rf ?_
   exact ⟨by unfold cK;rw [if_neg hk,if_pos hn],rfl⟩
  ·have hn:¬ nameBad o=true:=by rw [show nameBad o=false from h31];decide
   refine G.rp 1 fun R hR=>?_
   refine D.aa (bkT hb1 2) ?_
   refine D.ah (ft _ (hT.mono mup) o.x o.y ho.x ho.y) ?_
   refine D.ps 3 ?_
   refine D.aY rfl rfl rfl rfl rfl rfl (fun _=>PtrTo.blockT (Mem.get hb1 mup) _ 1) rfl rfl rfl ?_
   refine D.ps 3 ?_
   refine D.aY rfl rfl rfl rfl rfl rfl (fun _=>PtrTo.blockT (Mem.get hb1 mup) _ 1) rfl rfl rfl ?_
   refine D.bd (fun _=>(db _ (hT.mono mup) o.depth ho.depth)) ?_
   refine D.ae ?_
   refine D.ay ?_
   refine D.aB ?_
   refine D.ps 2 ?_
   refine D.aY rfl rfl rfl rfl rfl rfl (fun _=>PtrTo.blockT (Mem.get hb1 mup) _ 1) rfl rfl rfl ?_
   refine D.ps 3 ?_
   refine D.aY rfl rfl rfl rfl rfl rfl (fun _=>PtrTo.blockT (Mem.get hb1 mup) _ 3) rfl rfl rfl ?_
   refine D.bd (fun _=>(checkVector_fn _ (hT.mono mup) o.nx o.ny o.nz ho.nx ho.ny ho.nz)) ?_
   refine D.ae ?_
   refine D.ay ?_
   refine D.aB ?_
   refine D.e2 1 57 hR ?_
   refine G.cd (fun h57=>?_) fun h57=>?_
   ·have hq:numBad o=true:=by
     simp only [chk_ne'] at h57
     exact h57
    refine G.z1 1 2 ?_
    refine G.rf ?_
    exact ⟨by unfold cK;rw [if_neg hk,if_neg hn,if_pos hq],rfl⟩
   ·have hq:¬ numBad o=true:=by
     simp only [chk_ne'] at h57
     rw [show numBad o=false from h57];decide
    refine G.rp 1 fun R hR=>?_
    refine D.aa (bkT hb1 1) ?_
    refine D.ps 3 ?_
    refine D.aY rfl rfl rfl rfl rfl rfl (fun _=>PtrTo.blockT (Mem.get hb1 mup) _ 1) rfl rfl rfl ?_
    refine D.ae ?_
    refine D.ay ?_
    refine D.ps 2 ?_
    refine D.aY rfl rfl rfl rfl rfl rfl (fun _=>PtrTo.blockT (Mem.get hb1 mup) _ 1) rfl rfl rfl ?_
    refine D.ps 3 ?_
    refine D.aY rfl rfl rfl rfl rfl rfl (fun _=>PtrTo.blockT (Mem.get hb1 mup) _ 1) rfl rfl rfl ?_
    refine D.ae ?_
    refine D.ay ?_
    refine D.aB ?_
    refine D.ps 2 ?_
    refine D.aY rfl rfl rfl rfl rfl rfl (fun _=>PtrTo.blockT (Mem.get hb1 mup) _ 1) rfl rfl rfl ?_
    refine D.ps 3 ?_
    refine D.aY rfl rfl rfl rfl rfl rfl (fun _=>PtrTo.blockT (Mem.get hb1 mup) _ 3) rfl rfl rfl ?_
    refine D.ak [strV [],strV [],strV []] ?_
    refine D.neAgg (!decide (o.nx=[]/\o.ny=[]/\o.nz=[])) (by kernel_rfl) rfl rfl rfl rfl rfl rfl rfl rfl (fun _=>(nil3 o.nx o.ny o.nz)) rfl rfl ?_
    refine D.ay ?_
    refine D.aB ?_
    refine D.e1 86 hR ?_
    refine G.cd (fun h86=>?_) fun h86=>?_
    ·have hf:formBad o=true:=h86
     refine G.z1 1 2 ?_
     refine G.rf ?_
     exact ⟨by unfold cK;rw [if_neg hk,if_neg hn,if_neg hq,if_pos hf],rfl⟩
    ·have hf:¬ formBad o=true:=by rw [show formBad o=false from h86];decide
     refine G.z1 1 2 ?_
     refine G.rf ?_
     exact ⟨by unfold cK;rw [if_neg hk,if_neg hn,if_neg hq,if_neg hf],rfl⟩

noncomputable def bg (s:Str):Rat:=if h:aR s=true then (rat_of h).choose else 0
theorem bU {s:Str}(h:aR s=true):s=qtx (bg s)/\QB 23 (bg s):=by
 unfold bg
 rw [dif_pos h]
 exact (rat_of h).choose_spec
theorem dw {q:Rat}(h:aR (qtx q)=true):bg (qtx q)=q:=(qtx_eq (bU h).1).symm
noncomputable def ptO (o:Obs):Pt:=(bg o.x,bg o.y)
noncomputable def conB (pts:List Pt)(tris:List Tri)(o:Obs):Bool:=decide (locL pts tris (ptO o)≠[])
def unkB (col:List Lay)(o:Obs):Bool:=decide (idxF (isU o.upper) col 0<0) || ((!(o.kind == 1)) && decide (idxF (isU o.lower) col 0<0))
def ordB (col:List Lay)(o:Obs):Bool:=(!(o.kind == 1)) && decide (idxF (isU o.upper) col 0<=idxF (isU o.lower) col 0)
noncomputable def depB (o:Obs):Bool:=(o.kind == 2) && decide (bg o.depth<0)
def zerB (o:Obs):Bool:=(o.kind == 3) && decide (o.nz=[48])
noncomputable def eM (pts:List Pt)(tris:List Tri)(col:List Lay)(o:Obs):Int :=
 if cK o≠0 then cK o else if conB pts tris o=false then 28 else if unkB col o then 10 else if ordB col o then 6 else if depB o then 3 else if zerB o then 17 else 0
theorem shape_nums {o:Obs}(h:cK o=0):aR o.x=true/\aR o.y=true/\(o.kind=2->aR o.depth=true):=by
 unfold cK at h
 split at h
 ·cases h
 split at h
 ·cases h
 split at h
 ·cases h
 rename_i hq
 have hq':numBad o=false:=by simpa using hq
 unfold numBad at hq'
 rw [Bool.or_eq_false_iff,Bool.or_eq_false_iff] at hq'
 obtain ⟨⟨h1,h2⟩,_⟩:=hq'
 have h3:(aR o.x && aR o.y)=true:=by simpa using h1
 rw [Bool.and_eq_true] at h3
 refine ⟨h3.1,h3.2,fun hk=>?_⟩
 rw [hk] at h2
 simpa using h2
theorem ptO_ok {o:Obs}(h:cK o=0):ptV (ptO o)=.agg ⟨[strV o.x,strV o.y]⟩/\QP 23 (ptO o)/\PtR (ptO o):=by
 obtain ⟨h1,h2,_⟩:=shape_nums h
 obtain ⟨e1,q1⟩:=bU h1
 obtain ⟨e2,q2⟩:=bU h2
 refine ⟨?_,⟨q1,q2⟩, ?_, ?_⟩
 ·unfold ptV encP ptO;rw [<- e1,<- e2]
 ·unfold ptO;rw [<- e1];exact h1
 ·unfold ptO;rw [<- e2];exact h2
theorem ci {k z:Int}(h:(k == z)=true):k=z:=by simpa using h
theorem sign_dep (C:Mem)(s:Str)(h:aR s=true)(hl:s.length<=999998):Gives cx.P 133 [strV s] C (.int .i64 (sgnZ (bg s).num)):=by
 have e:=(bU h).1
 have h2:=rsign_fn C (bg s) (by rw [<- e];omega)
 rwa [<- e] at h2
theorem over_fn (C:Mem)(hT:Tabs C)(mv cv:Value)(pts:List Pt)(tris:List Tri)(col:List Lay)(o:Obs)(hm:MeshIn C mv pts tris)(hG:Good pts tris)(hc:Sl C 3 cv (col.map encL))(ho:ObsR o) :
  Gives cx.P 75 [mv,cv,.agg ⟨encO o⟩] C (.int .i64 (eM pts tris col o)):=by
 have hm0:=hm
 obtain ⟨v1,v2,rfl,h1,h2⟩:=id hm.ex
 refine Fn.it (by kernel_rfl) Tryz.func75 79 fun w0=>?_
 refine G.rg fun R hR=>?_
 refine D.aE (fun b3=>?_)
 refine D.aE (fun b5=>?_)
 refine D.q3 1 1 3 5 hR ?_
 refine G.freeze 1 rfl (fun C3 hle3 hb3=>?_)
 refine G.freeze 0 rfl (fun C5 hle5 hb5=>?_)
 refine G.rg fun R hR=>?_
 refine D.aa (bkT hb5 10) ?_
 refine D.ah (shape_fn _ (hT.mono mup) o ho) ?_
 refine D.q4 1 1 3 5 7 hR ?_
 refine G.z5 2 1 3 5 7 15 ?_
 refine G.cd (fun h15=>?_) fun h15=>?_
 ·have hs:cK o≠0:=by
   intro e
   rw [e] at h15
   exact absurd h15 (by decide)
  refine G.z1 2 6 ?_
  refine G.rf ?_
  exact ⟨by unfold eM;rw [if_pos hs],rfl⟩
 ·have hs:cK o=0:=by simpa using h15
  have hs':¬ cK o≠0:=fun h=>h hs
  obtain ⟨hpe,hpq,hpr⟩:=ptO_ok hs
  have hdp:=(shape_nums hs).2.2
  refine G.rg fun R hR=>?_
  refine D.aa (PtrTo.block (Mem.get hb3 mup) _) ?_
  refine D.ae ?_
  refine D.aa (bkT hb5 2) ?_
  refine D.af (by have h:=contains_fn C5 (hT.mono mup) _ pts tris (ptO o) (hm0.mono mup) hG hpq hpr;rw [hpe] at h;exact h) rfl rfl rfl rfl rfl rfl rfl (fun _=>rfl) ?_
  refine D.q4 5 1 5 8 9 hR ?_
  refine G.rp 5 fun R hR=>?_
  refine D.aB ?_
  refine D.e3 1 5 29 hR ?_
  refine G.cd (fun h29=>?_) fun h29=>?_
  ·have hcn:conB pts tris o=false:=by
    have h:(!conB pts tris o)=true:=h29
    simpa using h
   refine G.z1 1 6 ?_
   refine G.rf ?_
   exact ⟨by unfold eM;rw [if_neg hs',if_pos hcn],rfl⟩
  ·have hcn:¬ conB pts tris o=false:=by
    have h:(!conB pts tris o)=false:=h29
    have h2:conB pts tris o=true:=by simpa using h
    rw [h2];decide
   refine G.aI [0,1,2,3,4,5,6,7,8,9] [(3,1),(7,1)] rfl (by kernel_rfl) (fun R hB hR=>?_)
   refine D.ps 2 ?_
   refine D.aa (bkT hb5 1) ?_
   refine D.bd (fun _=>(bookIdx_fn _ _ col o.upper (hc.mono mup))) ?_
   refine D.ps 2 ?_
   refine D.aa (bkT hb5 1) ?_
   refine D.bd (fun _=>(bookIdx_fn _ _ col o.lower (hc.mono mup))) ?_
   refine D.q3 2 5 10 11 hR ?_
   refine G.rp 4 fun R hR=>?_
   refine D.aY rfl rfl rfl rfl rfl rfl (fun _=>PtrTo.blockT (Mem.get hb5 mup) _ 1) rfl rfl rfl ?_
   refine D.ps 4 ?_
   refine D.ay ?_
   refine D.aB ?_
   refine D.q4 1 5 10 11 38 hR ?_
   refine G.cd (fun h38=>?_) fun h38=>?_
   ·have hu:unkB col o=true:=h38
    refine G.z1 1 6 ?_
    refine G.rf ?_
    exact ⟨by unfold eM;rw [if_neg hs',if_neg hcn,if_pos hu],rfl⟩
   ·have hu:¬ unkB col o=true:=by rw [show unkB col o=false from h38];decide
    refine G.rp 1 fun R hR=>?_
    refine D.aa (bkT hb5 1) ?_
    refine D.ps 5 ?_
    refine D.ay ?_
    refine D.q2 1 5 50 hR ?_
    refine G.cd (fun h50=>?_) fun h50=>?_
    ·have hor:ordB col o=true:=h50
     refine G.z1 1 6 ?_
     refine G.rf ?_
     exact ⟨by unfold eM;rw [if_neg hs',if_neg hcn,if_neg hu,if_pos hor],rfl⟩
    ·have hor:¬ ordB col o=true:=by rw [show ordB col o=false from h50];decide
     refine G.rp 1 fun R hR=>?_
     refine D.aa (bkT hb5 1) ?_
     refine D.ps 3 ?_
     refine D.aY rfl rfl rfl rfl rfl rfl (fun _=>PtrTo.blockT (Mem.get hb5 mup) _ 1) rfl rfl rfl ?_
     refine D.aD (fun hg=>(sign_dep _ o.depth (hdp (by exact ci hg.1)) ho.depth)) rfl rfl rfl rfl rfl rfl rfl rfl rfl ?_
     refine D.ae ?_
     refine D.ay ?_
     refine D.q2 1 5 59 hR ?_
     refine G.cd (fun h59=>?_) fun h59=>?_
     ·have hd:depB o=true:=by
       rw [neg_sgn] at h59
       exact h59
      refine G.z1 1 6 ?_
      refine G.rf ?_
      exact ⟨by unfold eM;rw [if_neg hs',if_neg hcn,if_neg hu,if_neg hor,if_pos hd],rfl⟩
     ·have hd:¬ depB o=true:=by
       rw [neg_sgn] at h59
       rw [show depB o=false from h59];decide
      refine G.rp 1 fun R hR=>?_
      refine D.aa (bkT hb5 1) ?_
      refine D.ps 4 ?_
      refine D.aY rfl rfl rfl rfl rfl rfl (fun _=>PtrTo.blockT (Mem.get hb5 mup) _ 1) rfl rfl rfl ?_
      refine D.ae ?_
      refine D.ay ?_
      refine D.q1 1 69 hR ?_
      refine G.cd (fun h69=>?_) fun h69=>?_
      ·have hz:zerB o=true:=by
        unfold zerB
        rw [<- strEq]
        exact h69
       refine G.z1 1 6 ?_
       refine G.rf ?_
       exact ⟨by unfold eM;rw [if_neg hs',if_neg hcn,if_neg hu,if_neg hor,if_neg hd,if_pos hz],rfl⟩
      ·have hz:¬ zerB o=true:=by
        unfold zerB
        rw [<- strEq]
        intro h
        rw [show ((o.kind == 3) && ((⟨o.nz.toArray⟩:ByteArray).data.toList == (⟨([48]:Str).toArray⟩:ByteArray).data.toList))=false from h69] at h
        cases h
       refine G.z1 1 6 ?_
       refine G.rf ?_
       exact ⟨by unfold eM;rw [if_neg hs',if_neg hcn,if_neg hu,if_neg hor,if_neg hd,if_neg hz],rfl⟩

structure Bk where
 pts:List Pt
 tris:List Tri
 terr:List Str
 col:List Lay
 obs:List Obs
structure BookIn (C:Mem)(bv:Value)(B:Bk):Prop where
 ex:∃ v1 v2 tv cv ov,bv=.agg ⟨[v1,v2,tv,cv,ov]⟩/\Sl C 2 v1 (B.pts.map encP)/\Sl C 3 v2 (B.tris.map encT)/\Sl C 1 tv (B.terr.map dM)/\Sl C 3 cv (B.col.map encL)/\Sl C 10 ov (B.obs.map encO)
theorem BookIn.mono {C D:Mem}{bv:Value}{B:Bk}(h:BookIn C bv B)(hl:C.le D):BookIn D bv B:=by
 obtain ⟨v1,v2,tv,cv,ov,h1,h2,h3,h4,h5,h6⟩:=h.ex
 exact ⟨v1,v2,tv,cv,ov,h1,h2.mono hl,h3.mono hl,h4.mono hl,h5.mono hl,h6.mono hl⟩
structure BookR (B:Bk):Prop where
 terr:∀ s∈B.terr,s.length<=999998
 col:∀ x∈B.col,LayR x
 lcol:B.col.length<=1000000
 obs:∀ o∈B.obs,ObsR o
noncomputable def obZ (B:Bk)(pre:List Obs)(o:Obs):Int:=if eM B.pts B.tris B.col o≠0 then eM B.pts B.tris B.col o else if o.name∈pre.map Obs.name then 9 else 0
def noObs:Obs:=⟨0,[],[],[],[],[],[],[],[],[]⟩
noncomputable def obsF (B:Bk):Nat->Int
 | 0=>0
 | n+1=>if obsF B n≠0 then obsF B n else obZ B (B.obs.take n) (B.obs.getD n noObs)
noncomputable def eS (B:Bk):Int:=if fldZ B.pts.length B.terr≠0 then fldZ B.pts.length B.terr else if colZ B.col≠0 then colZ B.col else if 100<B.obs.length then 4 else obsF B B.obs.length
theorem obsF_stay {B:Bk}{n:Nat}(h:obsF B n≠0):∀ m,n<=m->obsF B m=obsF B n
 | 0,hm=>by rw [show n=0 by omega]
 | m+1,hm=>by
  rcases Nat.lt_or_ge m n with h1 | h1
  ·rw [show n=m+1 by omega]
  ·have ih:=obsF_stay h m h1
   simp only [obsF,ih]
   rw [if_pos h]
theorem obs_at {l:List Obs}{i:Nat}{x:Obs}(h:l[i]?=some x):l.getD i noObs=x:=by rw [List.getD_eq_getElem?_getD,h,Option.getD_some]
theorem obs_step {B:Bk}{i:Nat}{x:Obs}(h0:obsF B i=0)(hx:B.obs[i]?=some x):obsF B (i+1)=obZ B (B.obs.take i) x:=by
 simp only [obsF,h0]
 rw [if_neg (by decide),obs_at hx]
theorem obs_err {B:Bk}{i:Nat}{x:Obs}{z:Int}(h0:obsF B i=0)(hx:B.obs[i]?=some x)(hz:obZ B (B.obs.take i) x=z)(hne:z≠0):obsF B B.obs.length=z:=by
 have hi:=(List.getElem?_eq_some_iff.1 hx).1
 have h1:=obs_step h0 hx
 rw [obsF_stay (n:=i+1) (by rw [h1,hz];exact hne) B.obs.length (by omega),h1,hz]
def metO (l:List Obs):List (Str × Value):=l.map fun o=>(o.name,.bool true)
theorem metO_look (l:List Obs)(s:Str):lookV (.bool false) false (mget (metO l) s)=.bool (decide (s∈l.map Obs.name)):=by
 have hk:(metO l).map (·.1)=l.map Obs.name:=by unfold metO;rw [List.map_map];rfl
 cases h:mget (metO l) s with
 | none =>
  have h1:=bH.1 h
  rw [hk] at h1
  rw [decide_eq_false h1]
  rfl
 | some v =>
  have h1:=el h
  have h2:=List.mem_map_of_mem (f:=(·.1)) h1
  rw [hk] at h2
  obtain ⟨o,_,ho⟩:=List.mem_map.1 h1
  cases ho
  rw [decide_eq_true h2]
  rfl
theorem metO_new {l:List Obs}{o:Obs}(h:o.name ∉ l.map Obs.name):mset (metO l) o.name (.bool true)=metO (l++[o]):=by
 have hk:(metO l).map (·.1)=l.map Obs.name:=by unfold metO;rw [List.map_map];rfl
 rw [mset_new (by rw [bH,hk];exact h)]
 simp [metO]
theorem checkAll_fn (C:Mem)(hT:Tabs C)(bv:Value)(B:Bk)(hB:BookIn C bv B)(hG:Good B.pts B.tris)(hbR:BookR B) :
  Gives cx.P 34 [bv] C (.int .i64 (eS B)):=by
 obtain ⟨v1,v2,tv,cv,ov,rfl,h1,h2,h3,h4,h5⟩:=id hB.ex
 obtain ⟨A5,c5,rfl,hq5,hq6,_⟩:=id h5
 have hmx:maxLen<=9223372036854775807:=by simp [maxLen]
 simp only [List.length_map] at h5 hq5 ⊢
 have hm:MeshIn C (.agg ⟨[v1,v2]⟩) B.pts B.tris:=⟨v1,v2,rfl,h1,h2⟩
 refine Fn.it (by kernel_rfl) Tryz.func34 59 fun w0=>?_
 refine G.rg fun R hR=>?_
 refine D.aE (fun b1=>?_)
 refine D.q1 1 1 hR ?_;clear hR R
 refine G.freeze 0 rfl (fun C1 hle1 hb1=>?_)
 refine G.rp 1 fun R hR=>?_
 refine D.aa (bkT hb1 2) ?_
 refine D.ah (good_check _ (hT.mono mup) _ B.pts B.tris (hm.mono mup) hG) ?_
 refine D.q2 1 1 3 hR ?_;clear hR R
 refine G.z3 2 1 3 14 ?_
 refine G.cd (fun h14=>?_) fun h14=>?_
 ·exact absurd h14 (by decide)
 ·refine G.rp 1 fun R hR=>?_
  refine D.aa (bkT hb1 2) ?_
  refine D.ae ?_
  refine D.aa (bkT hb1 1) ?_
  refine D.ah (fieldCheck_fn _ (hT.mono mup) _ _ B.pts B.tris B.terr (hm.mono mup) hG (h3.mono mup) hbR.terr) ?_
  refine D.q2 1 1 4 hR ?_;clear hR R
  refine G.z3 2 1 4 22 ?_
  refine G.cd (fun h22=>?_) fun h22=>?_
  ·have hf:fldZ B.pts.length B.terr≠0:=by
    intro e
    rw [e] at h22
    exact absurd h22 (by decide)
   refine G.z1 2 2 ?_
   refine G.rf ?_
   exact ⟨by unfold eS;rw [if_pos hf],rfl⟩
  ·have hf:¬ fldZ B.pts.length B.terr≠0:=by
    have h:fldZ B.pts.length B.terr=0:=by simpa using h22
    exact fun h2=>h2 h
   refine G.rp 1 fun R hR=>?_
   refine D.aa (bkT hb1 1) ?_
   refine D.ah (colCheck_fn _ (hT.mono mup) _ B.col (h4.mono mup) hbR.col hbR.lcol) ?_
   refine D.q2 1 1 5 hR ?_;clear hR R
   refine G.z3 2 1 5 28 ?_
   refine G.cd (fun h28=>?_) fun h28=>?_
   ·have hc:colZ B.col≠0:=by
     intro e
     rw [e] at h28
     exact absurd h28 (by decide)
    refine G.z1 2 2 ?_
    refine G.rf ?_
    exact ⟨by unfold eS;rw [if_neg hf,if_pos hc],rfl⟩
   ·have hc:¬ colZ B.col≠0:=by
     have h:colZ B.col=0:=by simpa using h28
     exact fun h2=>h2 h
    refine G.rp 1 fun R hR=>?_
    refine D.aa (bkT hb1 1) ?_
    refine D.q2 2 1 33 hR ?_;clear hR R
    refine G.cd (fun h33=>?_) fun h33=>?_
    ·have hl:100<B.obs.length:=by
      simp only [decide_eq_true_eq] at h33
      omega
     refine G.z1 1 2 ?_
     refine G.rf ?_
     exact ⟨by unfold eS;rw [if_neg hf,if_neg hc,if_pos hl],rfl⟩
    ·have hl:¬ 100<B.obs.length:=by
      simp only [decide_eq_false_iff_not] at h33
      omega
     refine G.rg fun R hR=>?_
     refine D.makeMap keyS rfl rfl rfl rfl (fun _=>rfl) (fun b34=>?_)
     refine D.q2 1 1 6 hR ?_;clear hR R
     refine G.rp 1 fun R hR=>?_
     refine D.aa (bkT hb1 1) ?_
     refine D.q5 2 1 6 36 37 38 hR ?_;clear hR R
     refine G.loop (fun fr C' L' μ=>∃ (i:Nat),(i<=B.obs.length/\obsF B i=0)/\fr=[(1,[],.pointer (some ⟨b1,0,none⟩)),(6,[],.map (some b34)),(36,[],.slice A5 B.obs.length c5),(37,[],.int .i64 B.obs.length),(38,[],.int .i64 i)]/\L'=[.obj b34 (aF keyS.enc (metO (B.obs.take i)))]/\μ=B.obs.length-i) (h_5 1 6 36 37 38) ⟨0,⟨Nat.zero_le _,rfl⟩,rfl,rfl,rfl⟩ (fun fr C0' L0' m hle0 hI=>?_)
     obtain ⟨i,⟨hi,hno⟩,rfl,rfl,rfl⟩:=hI
     refine G.z6 1 1 6 36 37 38 39 ?_
     refine G.cd (fun h39=>?_) fun h39=>?_
     ·have hil:i<B.obs.length:=by simpa using h39
      obtain ⟨x,hx⟩:∃ x,B.obs[i]?=some x:=⟨B.obs[i],List.getElem?_eq_getElem hil⟩
      have hxr:=hbR.obs x (List.mem_of_getElem? hx)
      have htk:B.obs.take (i+1)=B.obs.take i++[x]:=by rw [List.take_add_one,hx];rfl
      refine G.rg fun R hR=>?_
      refine D.ap (h5.mono mup) rfl rfl rfl rfl rfl rfl rfl rfl rfl rfl (by omega) (bl hx) (fun _=>rfl) (fun p40 hp40=>?_)
      refine D.aa hp40 ?_
      refine D.aq (fun b8=>?_)
      refine D.aj (j:=0) ?_
      refine D.e6 1 6 8 36 37 38 hR ?_;clear hR R
      refine G.rp 1 fun R hR=>?_
      refine D.aa (bkT hb1 2) ?_
      refine D.ae ?_
      refine D.aa (bkT hb1 1) ?_
      refine D.ag (.head _) ?_
      refine D.ah (over_fn _ (hT.mono mup) _ _ B.pts B.tris B.col x (hm.mono mup) hG (h4.mono mup) hxr) ?_
      refine D.q7 1 1 6 8 9 36 37 38 hR ?_;clear hR R
      refine G.z8 2 1 6 8 9 36 37 38 49 ?_
      refine G.cd (fun h49=>?_) fun h49=>?_
      ·have ho:eM B.pts B.tris B.col x≠0:=by
        intro e
        rw [e] at h49
        exact absurd h49 (by decide)
       have he:=obs_err hno hx (z:=eM B.pts B.tris B.col x) (by unfold obZ;rw [if_pos ho]) ho
       refine G.z1 2 2 ?_
       refine G.rf ?_
       exact ⟨by unfold eS;rw [if_neg hf,if_neg hc,if_neg hl,he],rfl⟩
      ·have ho:¬ eM B.pts B.tris B.col x≠0:=by
        have h:eM B.pts B.tris B.col x=0:=by simpa using h49
        exact fun h2=>h2 h
       refine G.rp 2 fun R hR=>?_
       refine D.ag (.head _) ?_
       refine D.fH keyS (.tail _ (.head _)) rfl rfl rfl rfl rfl rfl rfl rfl (by kernel_rfl) rfl (metO_look (B.obs.take i) x.name) rfl rfl ?_
       refine D.e7 1 6 8 36 37 38 54 hR ?_;clear hR R
       refine G.cd (fun h54=>?_) fun h54=>?_
       ·have hin:x.name∈(B.obs.take i).map Obs.name:=of_decide_eq_true h54
        have he:=obs_err hno hx (z:=9) (by unfold obZ;rw [if_neg ho,if_pos hin]) (by decide)
        refine G.z1 1 2 ?_
        refine G.rf ?_
        exact ⟨by unfold eS;rw [if_neg hf,if_neg hc,if_neg hl,he],rfl⟩
       ·have hin:x.name ∉ (B.obs.take i).map Obs.name:=of_decide_eq_false h54
        have hnx:obsF B (i+1)=0:=by rw [obs_step hno hx];unfold obZ;rw [if_neg ho,if_neg hin]
        refine G.rp 2 fun R hR=>?_
        refine D.ag (.head _) ?_
        refine D.mapUpdate keyS (j:=1) rfl rfl rfl rfl rfl rfl rfl rfl rfl rfl (by kernel_rfl) ?_
        refine D.e5 1 6 36 37 38 hR ?_;clear hR R
        refine G.rg fun R hR=>?_
        refine D.am _ ?_
        refine D.q5 1 1 6 36 37 38 hR ?_;clear hR R
        refine G.cS 1 rfl ?_
        refine G.ba (L':=[.obj b34 (aF keyS.enc (metO (B.obs.take (i+1))))]) (by rw [htk,<- metO_new hin];rfl) ?_
        refine G.au (m':=B.obs.length-(i+1)) (by omega) mup (h_5 1 6 36 37 38) ⟨i+1,⟨by omega,hnx⟩,rfl,rfl,rfl⟩
     ·have hil:i=B.obs.length:=by
       have:¬ i<B.obs.length:=by simpa using h39
       omega
      refine G.z1 1 2 ?_
      refine G.rf ?_
      refine ⟨?_,rfl⟩
      rw [hil] at hno
      unfold eS
      rw [if_neg hf,if_neg hc,if_neg hl,hno]
theorem checkIndex_fn (C:Mem)(hT:Tabs C)(bv:Value)(B:Bk)(hB:BookIn C bv B)(hG:Good B.pts B.tris)(hbR:BookR B)(hz:eS B=0)(i:Nat)(hi:i<B.obs.length) :
  Gives cx.P 95 [bv,.int .i64 i] C (.int .i64 0):=by
 have hB0:=hB
 obtain ⟨v1,v2,tv,cv,ov,rfl,h1,h2,h3,h4,h5⟩:=id hB.ex
 obtain ⟨A5,c5,rfl,hq5,hq6,_⟩:=id h5
 have hmx:maxLen<=9223372036854775807:=by simp [maxLen]
 simp only [List.length_map] at h5 hq5 hB0 ⊢
 refine Fn.it (by kernel_rfl) Tryz.func95 20 fun w0=>?_
 refine G.rg fun R hR=>?_
 refine D.aE (fun b2=>?_)
 refine D.q2 1 1 2 hR ?_;clear hR R
 refine G.rg fun R hR=>?_
 refine D.ag (.head _) ?_
 refine D.af (by have h:=checkAll_fn _ (hT.mono mup) _ B (hB0.mono mup) hG hbR;rw [hz] at h;exact h) rfl rfl rfl rfl rfl rfl rfl (fun _=>rfl) ?_
 refine D.q3 1 1 2 5 hR ?_;clear hR R
 refine G.z4 2 1 2 5 9 ?_
 refine G.cd (fun h9=>?_) fun h9=>?_
 ·exact absurd h9 (by decide)
 ·refine G.rp 5 fun R hR=>?_
  refine D.ag (.head _) ?_
  refine D.ps 2 ?_
  refine D.aB ?_
  refine D.e1 19 hR ?_;clear hR R
  refine G.cd (fun h19=>?_) fun h19=>?_
  ·exfalso
   simp only [Bool.or_eq_true,decide_eq_true_eq] at h19
   omega
  ·refine G.z1 1 4 ?_
   refine G.rf ?_
   exact ⟨rfl,rfl⟩

noncomputable def hgtQ (o:Obs)(z:Rat):Rat:=if o.kind=2 then z-bg o.depth else z
structure ObsAt (o:Obs)(p:Pt):Prop where
 x:o.x=qtx p.1
 y:o.y=qtx p.2
 q:QP 23 p
 r:PtR p
 d:o.kind=2->aR o.depth=true
theorem obsAt_val {o:Obs}{p:Pt}(h:ObsAt o p):(.agg ⟨[strV o.x,strV o.y]⟩:Value)=ptV p:=by unfold ptV encP;rw [h.x,h.y]
structure Terr (B:Bk)(fs:List Rat):Prop where
 e:B.terr=fs.map qtx
 l:fs.length=B.pts.length
 q:∀ q∈fs,QB 22 q
theorem terr_r {B:Bk}{fs:List Rat}(h:Terr B fs):∀ q∈fs,aR (qtx q)=true:=fun q hq=>bf (h.q q hq)
theorem height_fn (C:Mem)(hT:Tabs C)(bv:Value)(B:Bk)(fs:List Rat)(o:Obs)(p:Pt)(z:Rat)(hB:BookIn C bv B)(hG:Good B.pts B.tris)(hF:Terr B fs)(hO:ObsAt o p)(hz:valV B.pts B.tris fs p=.tuple #[strV (qtx z),.int .i64 0])(hq:QB 22 z) :
  Gives cx.P 96 [bv,.agg ⟨encO o⟩] C (.tuple #[strV (qtx (hgtQ o z)),.int .i64 0]):=by
 obtain ⟨v1,v2,tv,cv,ov,rfl,h1,h2,h3,h4,h5⟩:=id hB.ex
 have hm:MeshIn C (.agg ⟨[v1,v2]⟩) B.pts B.tris:=⟨v1,v2,rfl,h1,h2⟩
 rw [hF.e,<- encQ_S1] at h3
 refine Fn.it (by kernel_rfl) Tryz.func96 31 fun w0=>?_
 refine G.rg fun R hR=>?_
 refine D.aE (fun b2=>?_)
 refine D.aE (fun b3=>?_)
 refine D.q2 2 2 3 hR ?_;clear hR R
 refine G.freeze 1 rfl (fun C2 hle2 hb2=>?_)
 refine G.freeze 0 rfl (fun C3 hle3 hb3=>?_)
 refine G.rp 1 fun R hR=>?_
 refine D.aa (bkT hb2 2) ?_
 refine D.ae ?_
 refine D.aa (bkT hb2 1) ?_
 refine D.ae ?_
 refine D.aa (bkT hb3 2) ?_
 refine D.af (by have h:=value_fn C3 (hT.mono mup) _ _ B.pts B.tris fs 22 (by decide) (by decide) (hm.mono mup) hG (h3.mono mup) hF.l hF.q (terr_r hF) p hO.q hO.r;rw [hz,<- obsAt_val hO] at h;exact h) rfl rfl rfl rfl rfl rfl rfl (fun _=>rfl) ?_
 refine D.q3 5 3 6 7 hR ?_;clear hR R
 refine G.rp 4 fun R hR=>?_
 refine D.aY rfl rfl rfl rfl rfl rfl (fun _=>PtrTo.blockT (Mem.get hb3 mup) _ 1) rfl rfl rfl ?_
 refine D.ae ?_
 refine D.ay ?_
 refine D.e4 3 6 7 24 hR ?_;clear hR R
 refine G.cd (fun h24=>?_) fun h24=>?_
 ·have hk:o.kind=2:=ci (Bool.and_eq_true_iff.1 h24).2
  obtain ⟨hd1,hd2⟩:=bU (hO.d hk)
  refine G.rp 2 fun R hR=>?_
  refine D.aa (bkT hb3 1) ?_
  refine D.af (by have h:=cR C3 (hT.mono mup) z (bg o.depth) 23 (by decide) (by decide) (hq.le (by decide)) hd2;rw [<- hd1] at h;exact h) rfl rfl rfl rfl rfl rfl rfl (fun _=>rfl) ?_
  refine D.q2 1 6 7 hR ?_;clear hR R
  refine G.z2 4 4 5 ?_
  refine G.aA (G.dropAll (G.aP rfl rfl rfl ?_))
  exact ⟨by unfold hgtQ;rw [if_pos hk],rfl⟩
 ·have hk:¬ o.kind=2:=by
   intro e
   rw [show ((((0:Int) == 0) && (o.kind == 2))=true) by rw [e];rfl] at h24
   cases h24
  refine G.z2 4 4 5 ?_
  refine G.aA (G.dropAll (G.aP rfl rfl rfl ?_))
  exact ⟨by unfold hgtQ;rw [if_neg hk],rfl⟩
theorem heightX_fn (C:Mem)(hT:Tabs C)(bv:Value)(B:Bk)(fs:List Rat)(i:Nat)(o:Obs)(p:Pt)(z:Rat)(hB:BookIn C bv B)(hG:Good B.pts B.tris)(hbR:BookR B)(hbz:eS B=0)(hF:Terr B fs)(ho:B.obs[i]?=some o)(hO:ObsAt o p)(hz:valV B.pts B.tris fs p=.tuple #[strV (qtx z),.int .i64 0])(hq:QB 22 z)(hq2:QB 22 (hgtQ o z)) :
  Gives cx.P 47 [bv,.int .i64 i] C (.tuple #[strV (qtx (hgtQ o z)),.int .i64 0]):=by
 have hB0:=hB
 have hil:=(List.getElem?_eq_some_iff.1 ho).1
 obtain ⟨v1,v2,tv,cv,ov,rfl,h1,h2,h3,h4,h5⟩:=id hB.ex
 obtain ⟨A5,c5,rfl,hq5,hq6,_⟩:=id h5
 have hmx:maxLen<=9223372036854775807:=by simp [maxLen]
 simp only [List.length_map] at h5 hq5 hB0 ⊢
 refine Fn.it (by kernel_rfl) Tryz.func47 36 fun w0=>?_
 refine G.rg fun R hR=>?_
 refine D.aE (fun b2=>?_)
 refine D.q2 2 1 2 hR ?_;clear hR R
 refine G.freeze 0 rfl (fun C2 hle2 hb2=>?_)
 refine G.rg fun R hR=>?_
 refine D.aa (bkT hb2 5) ?_
 refine D.ae ?_
 refine D.ah (checkIndex_fn _ (hT.mono mup) _ B (hB0.mono mup) hG hbR hbz i hil) ?_
 refine D.q3 1 1 2 6 hR ?_;clear hR R
 refine G.z4 2 1 2 6 13 ?_
 refine G.cd (fun h13=>?_) fun h13=>?_
 ·exact absurd h13 (by decide)
 ·refine G.aI [0,1,2,3,4,5,6,7,8,9,10,11] [(6,1)] rfl (by kernel_rfl) (fun R hB hR=>?_)
  refine D.aa (bkT hb2 5) ?_
  refine D.ae ?_
  refine D.aa (bkT hb2 1) ?_
  refine D.ae ?_
  refine D.ap (h5.mono mup) rfl rfl rfl rfl rfl rfl rfl rfl rfl rfl (by omega) (bl ho) (fun _=>rfl) (fun p20 hp20=>?_)
  refine D.aa hp20 ?_
  refine D.bd (fun _=>(height_fn _ (hT.mono mup) _ B fs o p z (hB0.mono mup) hG hF hO hz hq)) ?_
  refine D.ps 5 ?_
  refine D.e2 7 8 hR ?_;clear hR hB R
  refine G.rp 4 fun R hR=>?_
  refine D.bd (fun _=>(db _ (hT.mono mup) _ (dZ hq2))) ?_
  refine D.ae ?_
  refine D.ay ?_
  refine D.e3 7 8 31 hR ?_;clear hR R
  refine G.cd (fun h31=>?_) fun h31=>?_
  ·exfalso
   rw [chk_ok hq2] at h31
   exact absurd h31 (by decide)
  ·refine G.z3 2 7 8 33 ?_
   refine G.cd (fun h33=>?_) fun h33=>?_
   ·exact absurd h33 (by decide)
   ·refine G.z2 3 4 5 ?_
    refine G.aA (G.dropAll (G.aP rfl rfl rfl ?_))
    exact ⟨rfl,rfl⟩
def surfN (lo hi:Int)(n:Nat):List Nat:=(List.range n).filter fun k:Nat=>decide (lo<=(k:Int)/\(k:Int)<hi)
def surfLo (col:List Lay)(o:Obs):Int:=if o.kind=1 then idxF (isU o.upper) col 0-1 else idxF (isU o.lower) col 0
def surfHi (col:List Lay)(o:Obs):Int:=if o.kind=1 then idxF (isU o.upper) col 0+1 else idxF (isU o.upper) col 0
def bi (col:List Lay)(o:Obs):List Nat:=surfN (surfLo col o) (surfHi col o) (col.length-1)
theorem surf_end {lo hi:Int}{n i:Nat}(h1:max lo 0<=(i:Int))(h2:(i:Int)<=max (max lo 0) (min hi n))(h3:min hi (n:Int)<=(i:Int)):(List.range i).filter (fun k:Nat=>decide (lo<=(k:Int)))=surfN lo hi n:=by
 unfold surfN
 have hs:∀ m:Nat,(List.range (i+m)).filter (fun k:Nat=>decide (lo<=(k:Int)/\(k:Int)<hi/\k<n))=(List.range i).filter (fun k:Nat=>decide (lo<=(k:Int)/\(k:Int)<hi/\k<n)):=by
  intro m
  induction m with
  | zero=>rfl
  | succ m ih =>
   rw [show i+(m+1)=i+m+1 by omega,List.range_succ,List.filter_append,ih,List.filter_cons]
   rw [if_neg (by simp only [decide_eq_true_eq];omega)]
   simp
 have e1:(List.range i).filter (fun k:Nat=>decide (lo<=(k:Int)))=(List.range i).filter (fun k:Nat=>decide (lo<=(k:Int)/\(k:Int)<hi/\k<n)):=by
  refine List.filter_congr (fun k hk=>?_)
  rw [List.mem_range] at hk
  rw [decide_eq_decide]
  omega
 have e2:(List.range n).filter (fun k:Nat=>decide (lo<=(k:Int)/\(k:Int)<hi))=(List.range n).filter (fun k:Nat=>decide (lo<=(k:Int)/\(k:Int)<hi/\k<n)):=by
  refine List.filter_congr (fun k hk=>?_)
  rw [List.mem_range] at hk
  rw [decide_eq_decide]
  omega
 rw [e1,e2]
 rcases Nat.le_total i n with hle | hle
 ·obtain ⟨m,rfl⟩:=Nat.exists_eq_add_of_le hle
  exact (hs m).symm
 ·have hs2:∀ m:Nat,(List.range (n+m)).filter (fun k:Nat=>decide (lo<=(k:Int)/\(k:Int)<hi/\k<n))=(List.range n).filter (fun k:Nat=>decide (lo<=(k:Int)/\(k:Int)<hi/\k<n)):=by
   intro m
   induction m with
   | zero=>rfl
   | succ m ih =>
    rw [show n+(m+1)=n+m+1 by omega,List.range_succ,List.filter_append,ih,List.filter_cons]
    rw [if_neg (by simp only [decide_eq_true_eq];omega)]
    simp
  obtain ⟨m,rfl⟩:=Nat.exists_eq_add_of_le hle
  exact hs2 m
theorem idxF_range {α:Type}(p:α->Bool)(l:List α):-1<=idxF p l 0/\idxF p l 0<=(l.length:Int):=by
 rcases idxF_cases p l with ⟨h,_⟩ | ⟨i,x,h,h2,_⟩
 ·omega
 ·have:=(List.getElem?_eq_some_iff.1 h2).1
  omega
theorem surfaces_fn (C:Mem)(_hT:Tabs C)(bv:Value)(B:Bk)(o:Obs)(hB:BookIn C bv B)(hbl:B.col.length<=1000)(hb0:B.col≠[]) :
  Pur cx.P 97 [bv,.agg ⟨encO o⟩] C fun u D=>Sl D 1 u ((bi B.col o).map encN):=by
 obtain ⟨v1,v2,tv,cv,ov,rfl,h1,h2,h3,h4,h5⟩:=id hB.ex
 obtain ⟨A4,c4,rfl,hq5,hq6,_⟩:=id h4
 have hmx:maxLen<=9223372036854775807:=by simp [maxLen]
 have hcp:=List.length_pos_iff.2 hb0
 have hr1:=idxF_range (isU o.lower) B.col
 have hr2:=idxF_range (isU o.upper) B.col
 obtain ⟨lw,hlw⟩:∃ z,idxF (isU o.lower) B.col 0=z:=⟨_,rfl⟩
 obtain ⟨up,hup⟩:∃ z,idxF (isU o.upper) B.col 0=z:=⟨_,rfl⟩
 obtain ⟨lo,hlo⟩:∃ z,surfLo B.col o=z:=⟨_,rfl⟩
 obtain ⟨hi,hhi⟩:∃ z,surfHi B.col o=z:=⟨_,rfl⟩
 obtain ⟨n,hn⟩:∃ n,B.col.length-1=n:=⟨_,rfl⟩
 unfold bi
 rw [hlo,hhi,hn]
 unfold surfLo at hlo
 unfold surfHi at hhi
 rw [hlw] at hr1 hlo
 rw [hup] at hr2 hlo hhi
 simp only [List.length_map] at h4 hq5 ⊢
 have hlob:-2<=lo/\lo<=1000:=by rw [<- hlo];split <;> omega
 have hhib:-2<=hi/\hi<=1001:=by rw [<- hhi];split <;> omega
 refine Fn.it (by kernel_rfl) Tryz.func97 43 fun w0=>?_
 refine G.rg fun R hR=>?_
 refine D.aE (fun b2=>?_)
 refine D.aE (fun b3=>?_)
 refine D.q2 1 2 3 hR ?_;clear hR R
 refine G.freeze 1 rfl (fun C2 hle2 hb2=>?_)
 refine G.freeze 0 rfl (fun C3 hle3 hb3=>?_)
 refine G.aI [0,1,2,3,4,5,6,7,8,9,10,11] [(4,1),(9,1)] rfl (by kernel_rfl) (fun R hB hR=>?_)
 refine D.ae ?_
 refine D.aa (bkT hb2 1) ?_
 refine D.ae ?_
 refine D.aa (bkT hb3 1) ?_
 refine D.aD (fun _=>(by have h:=bookIdx_fn C3 _ B.col o.lower (h4.mono mup);rw [hlw] at h;exact h)) rfl rfl rfl rfl rfl rfl rfl rfl rfl ?_
 refine D.ae ?_
 refine D.aa (bkT hb2 1) ?_
 refine D.ae ?_
 refine D.aa (bkT hb3 1) ?_
 refine D.aD (fun _=>(by have h:=bookIdx_fn C3 _ B.col o.upper (h4.mono mup);rw [hup] at h;exact h)) rfl rfl rfl rfl rfl rfl rfl rfl rfl ?_
 refine D.ps 2 ?_
 refine D.e4 2 3 5 6 hR ?_;clear hR hB R
 refine G.rp 1 fun R hR=>?_
 refine D.aa (bkT hb3 1) ?_
 refine D.q4 1 2 5 6 21 hR ?_;clear hR R
 refine G.cut (fun fr C' L' μ=>(True)/\fr=[(2,[],.pointer (some ⟨b2,0,none⟩)),(5,[],.int .i64 lo),(6,[],.int .i64 hi)]/\L'=[]) ?_ (fun fr C21 L21 μ hle21 hI=>?_)
 ·refine G.cd (fun h21=>?_) fun h21=>?_
  ·have hk:o.kind=1:=ci h21
   rw [if_pos hk] at hlo hhi
   subst hlo hhi
   refine G.rp 1 fun R hR=>?_
   refine D.am _ ?_
   refine D.ae ?_
   refine D.am _ ?_
   refine D.q3 2 2 5 6 hR ?_;clear hR R
   refine G.ax 0 (Mem.le.refl _) (h_3 2 5 6) ⟨trivial,rfl,rfl⟩
  ·have hk:¬ o.kind=1:=by
    intro e
    rw [show ((o.kind == 1)=true) by rw [e];rfl] at h21
    cases h21
   rw [if_neg hk] at hlo hhi
   subst hlo hhi
   refine G.ax 0 (Mem.le.refl _) (h_3 2 5 6) ⟨trivial,rfl,rfl⟩
 ·obtain ⟨_,rfl,rfl⟩:=hI
  refine G.z4 1 2 5 6 7 ?_
  obtain ⟨i0,hi0⟩:∃ i0:Nat,max lo 0=(i0:Int):=⟨(max lo 0).toNat,by omega⟩
  refine G.rp 1 fun R hR=>?_
  refine D.max (((i0:Nat):Int)) rfl rfl rfl rfl rfl rfl hi0 rfl rfl ?_
  refine D.q4 1 2 6 7 8 hR ?_;clear hR R
  refine G.nilArr 3 1 ?_
  refine G.loop (fun fr C' L' μ=>∃ (i:Nat)(out:List Nat)(w:Value),(max lo 0<=(i:Int)/\(i:Int)<=max (max lo 0) (min hi n)/\out=(List.range i).filter (fun k:Nat=>decide (lo<=(k:Int))))/\fr=[(2,[],.pointer (some ⟨b2,0,none⟩)),(6,[],.int .i64 hi),(7,[],w),(8,[],.int .i64 i)]/\L'=[.arr w 3 1 out.length (out.map encN).flatten]/\μ=2000-i) (h_4 2 6 7 8) ⟨i0,[],_,⟨by omega,by omega,by
   symm
   rw [List.filter_eq_nil_iff]
   intro k hk
   rw [List.mem_range] at hk
   simp only [decide_eq_true_eq]
   omega⟩,rfl,rfl,rfl⟩ (fun fr C0' L0' m hle0 hI=>?_)
  obtain ⟨i,out,w,⟨hi1,hi2,hout⟩,rfl,rfl,rfl⟩:=hI
  refine G.rp 3 fun R hR=>?_
  refine D.aa (bkT hb2 1) ?_
  refine D.ae ?_
  refine D.am _ ?_
  refine D.min ((min hi (n:Int))) rfl rfl rfl rfl rfl rfl (by omega) rfl rfl ?_
  refine D.q5 1 2 6 7 8 35 hR ?_;clear hR R
  refine G.cd (fun h35=>?_) fun h35=>?_
  ·have hlt:(i:Int)<min hi (n:Int):=of_decide_eq_true h35
   have hol:out.length<=i:=by
    rw [hout]
    exact Nat.le_trans (List.length_filter_le _ _) (by simp)
   have hnew:(List.range (i+1)).filter (fun k:Nat=>decide (lo<=(k:Int)))=out++[i]:=by
    rw [List.range_succ,List.filter_append,<- hout,List.filter_cons,if_pos (by simp only [decide_eq_true_eq];omega)]
    rfl
   refine G.rp 2 fun R hR=>?_
   refine D.ai [encN i] (fun p40 C40 hle40 hs40=>?_)
   refine D.append (j:=0) rfl rfl rfl rfl rfl rfl rfl rfl rfl rfl rfl hs40 rfl (by simp only [List.length_singleton,maxLen];omega) (by simp only [List.length_singleton];omega) (fun _=>rfl) (fun v41=>?_)
   refine D.q4 1 2 6 7 8 hR ?_;clear hR R
   refine G.rp 1 fun R hR=>?_
   refine D.am _ ?_
   refine D.q4 1 2 6 7 8 hR ?_;clear hR R
   refine G.ba (L':=[.arr v41 3 1 (out++[i]).length ((out++[i]).map encN).flatten]) (by simp [encN]) ?_
   refine G.au (m':=2000-(i+1)) (by omega) mup (h_4 2 6 7 8) ⟨i+1,out++[i],v41,⟨by omega,by omega,hnew.symm⟩,rfl,rfl,rfl⟩
  ·have hge:min hi (n:Int)<=(i:Int):=by
    have:=of_decide_eq_false h35
    omega
   refine G.z1 2 4 ?_
   refine G.freezeArr 0 (out.map encN) rfl rfl (by intro r hr;obtain ⟨y,_,rfl⟩:=List.mem_map.1 hr;rfl) (by simp) (fun Cg hg hsl3=>?_)
   refine G.rf ?_
   exact ⟨rfl,by rw [<- surf_end hi1 hi2 hge,<- hout];exact hsl3⟩
theorem surfacesX_fn (C:Mem)(hT:Tabs C)(bv:Value)(B:Bk)(i:Nat)(o:Obs)(hB:BookIn C bv B)(hG:Good B.pts B.tris)(hbR:BookR B)(hbz:eS B=0)(ho:B.obs[i]?=some o) :
  Pur cx.P 48 [bv,.int .i64 i] C fun u D=>∃ v,u=.tuple #[v,.int .i64 0]/\Sl D 1 v ((bi B.col o).map encN):=by
 have hB0:=hB
 have hil:=(List.getElem?_eq_some_iff.1 ho).1
 have hcz:colZ B.col=0:=by
  unfold eS at hbz
  split at hbz
  ·rename_i h;exact absurd hbz h
  ·split at hbz
   ·rename_i h;exact absurd hbz h
   ·rename_i h;exact Classical.byContradiction h
 have hc0:B.col≠[]:=by
  intro e
  rw [e] at hcz
  exact absurd hcz (by decide)
 have hc60:B.col.length<=1000:=by
  unfold colZ at hcz
  rw [if_neg hc0] at hcz
  split at hcz
  ·exact absurd hcz (by decide)
  ·omega
 obtain ⟨v1,v2,tv,cv,ov,rfl,h1,h2,h3,h4,h5⟩:=id hB.ex
 obtain ⟨A5,c5,rfl,hq5,hq6,_⟩:=id h5
 have hmx:maxLen<=9223372036854775807:=by simp [maxLen]
 simp only [List.length_map] at h5 hq5 hB0 ⊢
 refine Fn.it (by kernel_rfl) Tryz.func48 20 fun w0=>?_
 refine G.rg fun R hR=>?_
 refine D.aE (fun b2=>?_)
 refine D.q2 2 1 2 hR ?_;clear hR R
 refine G.freeze 0 rfl (fun C2 hle2 hb2=>?_)
 refine G.rg fun R hR=>?_
 refine D.aa (bkT hb2 5) ?_
 refine D.ae ?_
 refine D.ah (checkIndex_fn _ (hT.mono mup) _ B (hB0.mono mup) hG hbR hbz i hil) ?_
 refine D.q3 1 1 2 6 hR ?_;clear hR R
 refine G.z4 2 1 2 6 11 ?_
 refine G.cd (fun h11=>?_) fun h11=>?_
 ·exact absurd h11 (by decide)
 ·refine G.aI [0,1,2,3,4,5,6,7,8] [] rfl (by kernel_rfl) (fun R hB hR=>?_)
  refine D.aa (bkT hb2 5) ?_
  refine D.ae ?_
  refine D.aa (bkT hb2 1) ?_
  refine D.ae ?_
  refine D.ap (h5.mono mup) rfl rfl rfl rfl rfl rfl rfl rfl rfl rfl (by omega) (bl ho) (fun _=>rfl) (fun p17 hp17=>?_)
  refine D.aa hp17 ?_
  refine D.aU (surfaces_fn _ (hT.mono mup) _ B o (hB0.mono mup) hc60 hc0) (fun v19 C19 hle19 hq19=>?_)
  refine D.ps 2 ?_
  refine D.e2 4 5 hR ?_;clear hR hB R
  refine G.aA (G.dropAll (G.aP rfl rfl rfl ?_))
  exact ⟨rfl,_,rfl,hq19⟩

theorem mul_gives (x y:Nat)(hx:x<18446744073709551616)(hy:y<18446744073709551616)(C:Mem):Gives cx.P 187 [.int .u64 x,.int .u64 y] C (.tuple #[.int .u64 ((x*y / 18446744073709551616:Nat):Int),.int .u64 ((x*y % 18446744073709551616:Nat):Int)]) :=
 Gives.ofCalls (by kernel_rfl) (fun w=>Any.bits_Mul Tryz.mul x y hx hy w) C

theorem dY {a:Value}{n k m:Nat}{tl:List Value}(_hn:k+m<=n)(hk:m<=k)(_htl:tl.length=n-k) :
  ar (List.replicate k a++tl) ((List.replicate k a++tl).take m) k=List.replicate (k+m) a++tl.drop m:=by
 have h1:(List.replicate k a++tl).take m=List.replicate m a:=by
  rw [List.take_append_of_le_length (by simpa using hk),List.take_replicate,Nat.min_eq_left hk]
 have h2:(List.replicate k a++tl).take k=List.replicate k a:=by
  rw [List.take_append_of_le_length (by simp),List.take_replicate,Nat.min_self]
 have h3:(List.replicate k a++tl).drop (k+m)=tl.drop m:=by
  rw [List.drop_append,List.length_replicate,List.drop_eq_nil_of_le (by simp),List.nil_append]
  congr 1;omega
 unfold ar
 rw [h1,h2,List.length_replicate,h3,List.replicate_append_replicate]

theorem zrow_rep (a:Value)(n:Nat):zrow [a] n=List.replicate n a:=by
 rw [dv]
 induction n with
 | zero=>rfl
 | succ n ih=>rw [List.replicate_succ,List.flatten_cons,ih,List.replicate_succ];rfl
theorem mul_one_gives (n:Nat)(hn:n<18446744073709551616)(C:Mem):Gives cx.P 187 [.int .u64 (1:Int),.int .u64 n] C (.tuple #[.int .u64 0,.int .u64 n]):=by
 have h:=mul_gives 1 n (by omega) hn C
 have e1:1*n / 18446744073709551616=0:=by omega
 have e2:1*n % 18446744073709551616=n:=by omega
 rw [e1,e2] at h
 exact h
theorem repeatR_fn (C:Mem)(v:Value)(n:Nat)(s:Str)(hv:Sl C 1 v [[strV s]])(hn:n<=1000000):Jog.Fn cx.P 138 [v,.int .i64 n] C [] fun u _C' L'=>∃ b,u=.slice (some ⟨b,0,none⟩) n n/\L'=[.arr u 54 1 n (List.replicate n (strV s))]:=by
 have hv0:=hv
 obtain ⟨A,c,rfl,_⟩:=hv0
 refine Fn.it (by kernel_rfl) Tryz.func138 48 fun w0=>?_
 refine G.z2 1 0 1 ?_
 refine G.z3 2 0 1 10 ?_
 refine G.cd (fun h10=>?_) fun h10=>?_
 ·simp at h10;omega
 ·refine G.rp 2 fun R hR=>?_
  refine D.cY (c:=1) rfl rfl rfl rfl rfl rfl rfl rfl rfl (fun _=>rfl) ?_
  refine D.ae ?_
  refine D.cY (c:=(n:Int)) rfl rfl rfl rfl rfl rfl rfl rfl (by rw [IntKind.wrap_u64];omega) (fun _=>rfl) ?_
  refine D.af (mul_one_gives n (by omega) _) rfl rfl rfl rfl rfl rfl rfl (fun _=>rfl) ?_
  refine D.q3 5 0 5 6 hR ?_
  refine G.rp 5 fun R hR=>?_
  refine D.aB ?_
  refine D.e3 0 6 26 hR ?_
  refine G.cd (fun h26=>?_) fun h26=>?_
  ·simp at h26;omega
  ·refine G.rp 1 fun R hR=>?_
   refine D.cY (c:=(n:Int)) rfl rfl rfl rfl rfl rfl rfl rfl (by rw [IntKind.wrap_i64];omega) (fun _=>rfl) ?_
   refine D.cO rfl rfl rfl rfl rfl rfl rfl rfl rfl (Nat.le_refl _) (by show 16*n<=281474976710656;omega) (by simp only [maxLen];omega) (fun _=>rfl) (fun b30=>?_)
   refine D.q2 1 0 7 hR ?_
   refine G.rp 2 fun R hR=>?_
   refine D.copyC (j:=0) (q:=min 1 n) rfl rfl rfl rfl rfl rfl rfl rfl rfl rfl rfl rfl hv rfl rfl (by rw [cQ];show 0+min 1 n*1<=n*1;omega) (fun _=>rfl) ?_
   refine D.q2 1 7 8 hR ?_
   have hst0:ar (zrow [strV []] n) (([[strV s]]:List (List Value)).take (min 1 n)).flatten 0=List.replicate (min 1 n) (strV s)++List.replicate (n-min 1 n) (strV []):=by
    rw [zrow_rep]
    cases n with
    | zero=>rfl
    | succ n=>rw [show min 1 (n+1)=1 by omega,List.replicate_succ];rfl
   refine G.ba (L':=[.arr (.slice (some ⟨b30,0,none⟩) n n) 54 1 n (List.replicate (min 1 n) (strV s)++List.replicate (n-min 1 n) (strV []))]) (by rw [<- hst0];rfl) ?_
   refine G.loop (fun fr C' L' μ=>∃ (k:Nat),(k<=n/\min 1 n<=k)/\fr=[(7,[],.slice (some ⟨b30,0,none⟩) n n),(8,[],.int .i64 k)]/\L'=[.arr (.slice (some ⟨b30,0,none⟩) n n) 54 1 n (List.replicate k (strV s)++List.replicate (n-k) (strV []))]/\μ=n-k) (h_2 7 8) ⟨min 1 n,⟨Nat.min_le_right _ _,Nat.le_refl _⟩,rfl,rfl,rfl⟩ (fun fr C0' L0' m hle0 hI=>?_)
   obtain ⟨k,⟨hk,hk1⟩,rfl,rfl,rfl⟩:=hI
   refine G.z3 4 7 8 37 ?_
   refine G.cd (fun h37=>?_) fun h37=>?_
   ·simp only [decide_eq_true_eq] at h37
    have hkn:k<n:=by omega
    have hk2:1<=k:=by omega
    refine G.aI [0,1,2,3,4,5,6,7,8,9] [] rfl (by kernel_rfl) (fun R hB hR=>?_)
    refine D.ps 3 ?_
    refine D.fw k n n rfl rfl rfl rfl rfl rfl rfl rfl rfl rfl rfl rfl (fun _=>⟨.inr ⟨_,rfl⟩,.inl ⟨rfl,rfl⟩,.inl ⟨rfl,rfl⟩,hk,Nat.le_refl _,Nat.le_refl _⟩) rfl rfl ?_
    refine D.ps 2 ?_
    refine D.fw 0 k n rfl rfl rfl rfl rfl rfl rfl rfl rfl rfl rfl rfl (fun _=>⟨.inl ⟨rfl,rfl⟩,.inr ⟨_,rfl⟩,.inl ⟨rfl,rfl⟩,Nat.zero_le _,hk,Nat.le_refl _⟩) rfl rfl ?_
    refine D.copyS (j:=0) (off:=k) (g0:=b30) (dl:=n-k) (dc:=n-k) (sl:=k-0) (sc:=n-0) (q:=min k (n-k)) rfl rfl rfl rfl rfl rfl rfl rfl (by show some (Value.slice (if n=k then some (⟨b30,0,none⟩:Addr) else (some (⟨b30,0,none⟩:Addr)).map (·.add (k*1))) (n-k) (n-k))=_;rw [if_neg (by omega)];simp [Addr.add_lit]) (by show some (Value.slice (if n=0 then some (⟨b30,0,none⟩:Addr) else (some (⟨b30,0,none⟩:Addr)).map (·.add (0*1))) (k-0) (n-0))=_;split <;> simp [Addr.add_lit]) rfl rfl (by simp [oneB,strV]) (by simp;omega) (fun _=>rfl) ?_
    refine D.cg (((k+min k (n-k):Nat):Int)) rfl rfl rfl rfl (by omega) (by omega) (by omega) rfl rfl ?_
    refine D.q2 1 7 8 hR ?_
    refine G.ba (L':=[.arr (.slice (some ⟨b30,0,none⟩) n n) 54 1 n (List.replicate (k+min k (n-k)) (strV s)++List.replicate (n-(k+min k (n-k))) (strV []))]) (by rw [dY (n:=n) (by omega) (Nat.min_le_left _ _) (by simp),List.drop_replicate,Nat.sub_sub];rfl) ?_
    refine G.au (m':=n-(k+min k (n-k))) (by omega) hle0 (h_2 7 8) ⟨k+min k (n-k),⟨by omega,by omega⟩,rfl,rfl,rfl⟩
   ·simp only [decide_eq_false_iff_not] at h37
    have hkn:k=n:=by omega
    subst hkn
    refine G.z1 2 4 ?_
    refine G.aA (G.fin1 rfl rfl ?_)
    exact ⟨b30,rfl,by simp⟩
theorem repeatF_fn (C:Mem)(v:Value)(n:Nat)(s:Str)(hv:Sl C 1 v [[strV s]])(hn:n<=1000000):Jog.Fn cx.P 140 [v,.int .i64 n] C [] fun u _C' L'=>∃ b,u=.slice (some ⟨b,0,none⟩) n n/\L'=[.arr u 54 1 n (List.replicate n (strV s))]:=by
 have hv0:=hv
 obtain ⟨A,c,rfl,_⟩:=hv0
 refine Fn.it (by kernel_rfl) Tryz.func140 48 fun w0=>?_
 refine G.z2 1 0 1 ?_
 refine G.z3 2 0 1 10 ?_
 refine G.cd (fun h10=>?_) fun h10=>?_
 ·simp at h10;omega
 ·refine G.rp 2 fun R hR=>?_
  refine D.cY (c:=1) rfl rfl rfl rfl rfl rfl rfl rfl rfl (fun _=>rfl) ?_
  refine D.ae ?_
  refine D.cY (c:=(n:Int)) rfl rfl rfl rfl rfl rfl rfl rfl (by rw [IntKind.wrap_u64];omega) (fun _=>rfl) ?_
  refine D.af (mul_one_gives n (by omega) _) rfl rfl rfl rfl rfl rfl rfl (fun _=>rfl) ?_
  refine D.q3 5 0 5 6 hR ?_
  refine G.rp 5 fun R hR=>?_
  refine D.aB ?_
  refine D.e3 0 6 26 hR ?_
  refine G.cd (fun h26=>?_) fun h26=>?_
  ·simp at h26;omega
  ·refine G.rp 1 fun R hR=>?_
   refine D.cY (c:=(n:Int)) rfl rfl rfl rfl rfl rfl rfl rfl (by rw [IntKind.wrap_i64];omega) (fun _=>rfl) ?_
   refine D.cO rfl rfl rfl rfl rfl rfl rfl rfl rfl (Nat.le_refl _) (by show 16*n<=281474976710656;omega) (by simp only [maxLen];omega) (fun _=>rfl) (fun b30=>?_)
   refine D.q2 1 0 7 hR ?_
   refine G.rp 2 fun R hR=>?_
   refine D.copyC (j:=0) (q:=min 1 n) rfl rfl rfl rfl rfl rfl rfl rfl rfl rfl rfl rfl hv rfl rfl (by rw [cQ];show 0+min 1 n*1<=n*1;omega) (fun _=>rfl) ?_
   refine D.q2 1 7 8 hR ?_
   have hst0:ar (zrow [strV []] n) (([[strV s]]:List (List Value)).take (min 1 n)).flatten 0=List.replicate (min 1 n) (strV s)++List.replicate (n-min 1 n) (strV []):=by
    rw [zrow_rep]
    cases n with
    | zero=>rfl
    | succ n=>rw [show min 1 (n+1)=1 by omega,List.replicate_succ];rfl
   refine G.ba (L':=[.arr (.slice (some ⟨b30,0,none⟩) n n) 54 1 n (List.replicate (min 1 n) (strV s)++List.replicate (n-min 1 n) (strV []))]) (by rw [<- hst0];rfl) ?_
   refine G.loop (fun fr C' L' μ=>∃ (k:Nat),(k<=n/\min 1 n<=k)/\fr=[(7,[],.slice (some ⟨b30,0,none⟩) n n),(8,[],.int .i64 k)]/\L'=[.arr (.slice (some ⟨b30,0,none⟩) n n) 54 1 n (List.replicate k (strV s)++List.replicate (n-k) (strV []))]/\μ=n-k) (h_2 7 8) ⟨min 1 n,⟨Nat.min_le_right _ _,Nat.le_refl _⟩,rfl,rfl,rfl⟩ (fun fr C0' L0' m hle0 hI=>?_)
   obtain ⟨k,⟨hk,hk1⟩,rfl,rfl,rfl⟩:=hI
   refine G.z3 4 7 8 37 ?_
   refine G.cd (fun h37=>?_) fun h37=>?_
   ·simp only [decide_eq_true_eq] at h37
    have hkn:k<n:=by omega
    have hk2:1<=k:=by omega
    refine G.aI [0,1,2,3,4,5,6,7,8,9] [] rfl (by kernel_rfl) (fun R hB hR=>?_)
    refine D.ps 3 ?_
    refine D.fw k n n rfl rfl rfl rfl rfl rfl rfl rfl rfl rfl rfl rfl (fun _=>⟨.inr ⟨_,rfl⟩,.inl ⟨rfl,rfl⟩,.inl ⟨rfl,rfl⟩,hk,Nat.le_refl _,Nat.le_refl _⟩) rfl rfl ?_
    refine D.ps 2 ?_
    refine D.fw 0 k n rfl rfl rfl rfl rfl rfl rfl rfl rfl rfl rfl rfl (fun _=>⟨.inl ⟨rfl,rfl⟩,.inr ⟨_,rfl⟩,.inl ⟨rfl,rfl⟩,Nat.zero_le _,hk,Nat.le_refl _⟩) rfl rfl ?_
    refine D.copyS (j:=0) (off:=k) (g0:=b30) (dl:=n-k) (dc:=n-k) (sl:=k-0) (sc:=n-0) (q:=min k (n-k)) rfl rfl rfl rfl rfl rfl rfl rfl (by show some (Value.slice (if n=k then some (⟨b30,0,none⟩:Addr) else (some (⟨b30,0,none⟩:Addr)).map (·.add (k*1))) (n-k) (n-k))=_;rw [if_neg (by omega)];simp [Addr.add_lit]) (by show some (Value.slice (if n=0 then some (⟨b30,0,none⟩:Addr) else (some (⟨b30,0,none⟩:Addr)).map (·.add (0*1))) (k-0) (n-0))=_;split <;> simp [Addr.add_lit]) rfl rfl (by simp [oneB,strV]) (by simp;omega) (fun _=>rfl) ?_
    refine D.cg (((k+min k (n-k):Nat):Int)) rfl rfl rfl rfl (by omega) (by omega) (by omega) rfl rfl ?_
    refine D.q2 1 7 8 hR ?_
    refine G.ba (L':=[.arr (.slice (some ⟨b30,0,none⟩) n n) 54 1 n (List.replicate (k+min k (n-k)) (strV s)++List.replicate (n-(k+min k (n-k))) (strV []))]) (by rw [dY (n:=n) (by omega) (Nat.min_le_left _ _) (by simp),List.drop_replicate,Nat.sub_sub];rfl) ?_
    refine G.au (m':=n-(k+min k (n-k))) (by omega) hle0 (h_2 7 8) ⟨k+min k (n-k),⟨by omega,by omega⟩,rfl,rfl,rfl⟩
   ·simp only [decide_eq_false_iff_not] at h37
    have hkn:k=n:=by omega
    subst hkn
    refine G.z1 2 4 ?_
    refine G.aA (G.fin1 rfl rfl ?_)
    exact ⟨b30,rfl,by simp⟩

theorem ef (C:Mem)(s p:Nat)(h:s*p<=100000):Jog.Fn cx.P 83 [eJ s p] C [] fun u _C' L'=>∃ b,u=.slice (some ⟨b,0,none⟩) (s*p:Nat) (s*p:Nat)/\L'=[.arr u 54 1 (s*p) (List.replicate (s*p) (strV [48]))]:=by
 refine Fn.it (by kernel_rfl) Tryz.func83 7 fun w0=>?_
 refine G.rg fun R hR=>?_
 refine D.aE (fun b1=>?_)
 refine D.q1 1 1 hR ?_
 refine G.aO [(3,3)] rfl (fun R hR=>?_)
 refine D.ai [[strV [48]]] (fun p3 C3 hle3 hs3=>?_)
 refine D.ag (.head _) ?_
 refine D.af (scount_fn _ s p (by omega)) rfl rfl rfl rfl rfl rfl rfl (fun _=>rfl) ?_
 refine D.call (repeatR_fn _ _ (s*p) [48] (hs3.mono mup) (by omega)) rfl (.inr (by decide)) rfl rfl rfl rfl rfl rfl (List.Perm.refl _) (fun _=>rfl) (fun v6 C6 L6 hle6 hq6=>?_)
 refine D.q1 1 2 hR ?_
 obtain ⟨b,rfl,rfl⟩:=hq6
 refine G.cS 1 rfl ?_
 refine G.aA (G.fin1 rfl rfl ?_)
 exact ⟨b,rfl,rfl⟩

def ofE (z:Int)(s p:Nat):Int:=if z≠0 then z else if 60<s*p then 4 else 0
def ofS (e:Int)(s p:Nat):Value:=if e=0 then eJ s p else eJ 0 0
structure BookZ (C:Mem)(bv:Value)(B:Bk)(z:Int):Prop where
 i:BookIn C bv B
 ch:∀ D:Mem,C.le D->Gives cx.P 34 [bv] D (.int .i64 z)
 ne:z=0->B.col≠[]
 lc:B.col.length<=1000
 lp:B.pts.length<=400
theorem BookZ.mono {C D:Mem}{bv:Value}{B:Bk}{z:Int}(h:BookZ C bv B z)(hl:C.le D):BookZ D bv B z:=⟨h.i.mono hl,fun E hE=>h.ch E (fun b o hb=>hE b o (hl b o hb)),h.ne,h.lc,h.lp⟩
def bs (B:Bk):Nat:=B.col.length-1
def bp (B:Bk):Nat:=B.pts.length
theorem sp_le {C:Mem}{bv:Value}{B:Bk}{z:Int}(h:BookZ C bv B z):bs B*bp B<=400000:=by
 have h1:=h.lc
 have h2:=h.lp
 have:bs B*bp B<=1000*400:=Nat.mul_le_mul (by unfold bs;omega) (by unfold bp;omega)
 omega
theorem of_fn (C:Mem)(bv:Value)(B:Bk)(z:Int)(hZ:BookZ C bv B z):Gives cx.P 39 [bv] C (.tuple #[ofS (ofE z (bs B) (bp B)) (bs B) (bp B),.int .i64 (ofE z (bs B) (bp B))]):=by
 obtain ⟨v1,v2,tv,cv,ov,rfl,h1,h2,h3,h4,h5⟩:=id hZ.i.ex
 obtain ⟨A1,c1,rfl,hq1,hq2,_⟩:=id h1
 obtain ⟨A4,c4,rfl,hq3,hq4,_⟩:=id h4
 have hsp:=sp_le hZ
 have hlc:=hZ.lc
 have hch:=hZ.ch
 have hmx:maxLen<=9223372036854775807:=by simp [maxLen]
 simp only [List.length_map] at hch ⊢
 refine Fn.it (by kernel_rfl) Tryz.func39 26 fun w0=>?_
 refine G.rg fun R hR=>?_
 refine D.aE (fun b1=>?_)
 refine D.aq (fun b2=>?_)
 refine D.q2 1 1 2 hR ?_
 refine G.freeze 1 rfl (fun C1 hle1 hb1=>?_)
 refine G.rg fun R hR=>?_
 refine D.aa (bkT hb1 5) ?_
 refine D.ah (hch _ mup) ?_
 refine D.q3 1 1 2 4 hR ?_
 refine G.z4 2 1 2 4 9 ?_
 refine G.cd (fun h9=>?_) fun h9=>?_
 ·have hz:z≠0:=by
   intro e
   rw [e] at h9
   exact absurd h9 (by decide)
  have he:ofE z (bs B) (bp B)=z:=by unfold ofE;rw [if_pos hz]
  refine G.rg fun R hR=>?_
  refine D.ak [.int .i64 0,.int .i64 0] ?_
  refine D.ae ?_
  refine D.aj (j:=0) ?_
  refine D.q2 1 2 3 hR ?_
  refine G.aA (G.finC2 (.head _) rfl rfl rfl rfl rfl ?_)
  exact ⟨by rw [he];unfold ofS;rw [if_neg hz];rfl,rfl⟩
 ·have hz:z=0:=by simpa using h9
  have hcp:=List.length_pos_iff.2 (hZ.ne hz)
  have hbs:bs B+1=B.col.length:=by unfold bs;omega
  refine G.rp 1 fun R hR=>?_
  refine D.aa (bkT hb1 1) ?_
  refine D.ae ?_
  refine D.cg (((bs B:Nat):Int)) rfl rfl rfl rfl (by omega) (by omega) (by omega) rfl rfl ?_
  refine D.ps 2 ?_
  refine D.aa (bkT hb1 1) ?_
  refine D.ae ?_
  refine D.ak [.int .i64 (bs B:Nat),.int .i64 (bp B:Nat)] ?_
  refine D.aq (fun b5=>?_)
  refine D.aj (j:=0) ?_
  refine D.e2 2 5 hR ?_
  refine G.rg fun R hR=>?_
  refine D.ag (.head _) ?_
  refine D.af (scount_fn _ (bs B) (bp B) (by omega)) rfl rfl rfl rfl rfl rfl rfl (fun _=>rfl) ?_
  refine D.q3 1 2 5 23 hR ?_
  refine G.cd (fun h23=>?_) fun h23=>?_
  ·have hgt:60<bs B*bp B:=by
    have:=of_decide_eq_true h23
    omega
   have he:ofE z (bs B) (bp B)=4:=by unfold ofE;rw [hz,if_neg (by decide),if_pos hgt]
   refine G.rg fun R hR=>?_
   refine D.ak [.int .i64 0,.int .i64 0] ?_
   refine D.aj (j:=1) ?_
   refine D.q2 1 2 3 hR ?_
   refine G.aA (G.finC2 (.head _) rfl rfl rfl rfl rfl ?_)
   exact ⟨by rw [he];rfl,rfl⟩
  ·have hgt:¬ 60<bs B*bp B:=by
    have:=of_decide_eq_false h23
    omega
   have he:ofE z (bs B) (bp B)=0:=by unfold ofE;rw [hz,if_neg (by decide),if_neg hgt]
   refine G.rg fun R hR=>?_
   refine D.ag (.head _) ?_
   refine D.aj (j:=1) ?_
   refine D.q2 1 2 3 hR ?_
   refine G.aA (G.finC2 (.head _) rfl rfl rfl rfl rfl ?_)
   exact ⟨by rw [he];rfl,rfl⟩
theorem count_fn (C:Mem)(bv:Value)(B:Bk)(z:Int)(hZ:BookZ C bv B z):Gives cx.P 13 [bv] C (.tuple #[.int .i64 (if ofE z (bs B) (bp B)=0 then ((bs B*bp B:Nat):Int) else 0),.int .i64 (ofE z (bs B) (bp B))]):=by
 have hsp:=sp_le hZ
 have hZ0:=hZ
 obtain ⟨v1,v2,tv,cv,ov,rfl,h1,h2,h3,h4,h5⟩:=id hZ.i.ex
 obtain ⟨e,he⟩:∃ e,ofE z (bs B) (bp B)=e:=⟨_,rfl⟩
 have hof:∀ D:Mem,C.le D->Gives cx.P 39 [.agg ⟨[v1,v2,tv,cv,ov]⟩] D (.tuple #[ofS e (bs B) (bp B),.int .i64 e]):=fun D hD=>by have h:=of_fn D _ B z (hZ0.mono hD);rwa [he] at h
 rw [he]
 have hsv:ofS e (bs B) (bp B)=.agg ⟨[.int .i64 (if e=0 then ((bs B:Nat):Int) else 0),.int .i64 (if e=0 then ((bp B:Nat):Int) else 0)]⟩:=by unfold ofS eJ;split <;> rfl
 have hcn:∀ D:Mem,Gives cx.P 40 [.agg ⟨[.int .i64 (if e=0 then ((bs B:Nat):Int) else 0),.int .i64 (if e=0 then ((bp B:Nat):Int) else 0)]⟩] D (.int .i64 (if e=0 then ((bs B*bp B:Nat):Int) else 0)):=fun D=>by
  by_cases h:e=0
  ·rw [if_pos h,if_pos h,if_pos h];exact scount_fn D (bs B) (bp B) (by omega)
  ·rw [if_neg h,if_neg h,if_neg h];exact scount_fn D 0 0 (by omega)
 rw [hsv] at hof
 refine Fn.it (by kernel_rfl) Tryz.func13 14 fun w0=>?_
 refine G.rg fun R hR=>?_
 refine D.aE (fun b1=>?_)
 refine D.q1 2 1 hR ?_
 refine G.rg fun R hR=>?_
 refine D.ag (.head _) ?_
 refine D.ah (hof _ mup) ?_
 refine D.ps 3 ?_
 refine D.aq (fun b4=>?_)
 refine D.aj (j:=0) ?_
 refine D.q2 1 4 5 hR ?_
 refine G.rg fun R hR=>?_
 refine D.ag (.head _) ?_
 refine D.ah (hcn _) ?_
 refine D.q2 3 2 3 hR ?_
 refine G.aA (G.dropAll (G.aP rfl rfl rfl ?_))
 exact ⟨rfl,rfl⟩
theorem of_ok (C:Mem)(bv:Value)(B:Bk)(hZ:BookZ C bv B 0)(h60:bs B*bp B<=60):Gives cx.P 39 [bv] C (.tuple #[eJ (bs B) (bp B),.int .i64 0]):=by
 have h:=of_fn C bv B 0 hZ
 have e:ofE 0 (bs B) (bp B)=0:=by unfold ofE;rw [if_neg (by decide),if_neg (by omega)]
 rw [e] at h
 exact h
end Go.Proofs.YtmgkekjbbodicaaGreatDoor
