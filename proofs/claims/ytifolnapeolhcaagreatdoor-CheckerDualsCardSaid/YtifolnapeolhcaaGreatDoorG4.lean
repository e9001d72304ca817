/- Laws that the proofs of this seat share, part 4. -/
import Derived.Test.YtifolnapeolhcaaGreatDoorG3
import Derived.Test.YtifolnapeolhcaaGreatDoorShelf
import Derived.RangeFuncBox
import Derived.RangeFuncLeaves
import Derived.Shelf.Abstract
import Derived.WalkKit
import Derived.OwnWalkIn
import Derived.TacticsInMore
import Derived.LoopNIn
import Derived.LoopIn
import Derived.Test.YtifolnapeolhcaaGreatDoorProg
set_option maxHeartbeats 4000000
namespace Go.Proofs.YtifolnapeolhcaaGreatDoor
open Go Go.Jog
set_option maxRecDepth 100000

abbrev qU (g c n:Nat):Value:=.slice (some ⟨g,0,none⟩) n c
theorem zrow_U (n:Nat):zrow ([.int .u64 0]:List Value) n=((List.replicate n 0).map encU).flatten:=by
 rw [bR,List.map_replicate];rfl
theorem g9_set_ne {l:List Nat}{i j z:Nat}(h:i≠j):g9 (l.set i z) j=g9 l j:=by
 unfold g9;rw [List.getD_eq_getElem?_getD,List.getD_eq_getElem?_getD,List.getElem?_set_ne h]
theorem g9_zeros (n j:Nat):g9 (List.replicate n 0) j=0:=by
 unfold g9;rw [List.getD_eq_getElem?_getD,List.getElem?_replicate];split <;> rfl
theorem times_fn (C:Mem)(va vb:Value)(a b:List Nat)(ha:Sl C 1 va (a.map encU))(hb:Sl C 1 vb (b.map encU))(hda:Dig9 a)(hdb:Dig9 b)(hla:a.length<=1000000)(hlb:b.length<=1000000) :
  Pur cx.P 139 [va,vb] C fun u C'=>NineC C' u (val9 a*val9 b):=by
 obtain ⟨A0,c0,rfl,_⟩:=id ha
 obtain ⟨B0,d0,rfl,_⟩:=id hb
 simp only [List.length_map] at ha hb ⊢
 have hB:=B9v
 obtain ⟨N,hN⟩:∃ N,a.length+b.length+1=N:=⟨_,rfl⟩
 refine Fn.it kr_ Tryz.func139 79 fun w0=>?_
 refine G.z2 1 0 1 ?_
 refine G.rp 4 fun R hR=>?_
 refine D.cR (((a.length+b.length:Nat):Int)) rfl rfl rfl rfl om_ om_ om_ rfl rfl ?_
 refine D.cR (((N:Nat):Int)) rfl rfl rfl rfl om_ om_ om_ rfl rfl ?_
 refine D.bu rfl rfl rfl rfl rfl rfl rfl rfl rfl (Nat.le_refl _) (by show 8*N<=281474976710656;omega) (by simp only [maxLen];omega) fl_ (fun b18=>?_)
 refine D.q3 1 0 1 5 hR ?_;clear hR R
 refine G.z5 3 1 5 19 20 21 ?_
 refine G.aM (L':=[.arr (qU b18 N N) 197 1 N ((List.replicate N 0).map encU).flatten]) (by rw [<- zrow_U];rfl) ?_
 refine G.loop (fun fr C' L' μ=>∃ (i:Nat)(o:List Nat),(i<=a.length/\o.length=N/\Dig9 o/\val9 o=val9 (a.take i)*val9 b/\∀ j,i+b.length<=j->g9 o j=0)/\fr=[(1,[],.slice B0 b.length d0),(5,[],qU b18 N N),(19,[],.slice A0 a.length c0),(20,[],.int .i64 a.length),(21,[],.int .i64 i)]/\L'=[.arr (qU b18 N N) 197 1 N (o.map encU).flatten]/\μ=a.length-i) (h_5 1 5 19 20 21) ⟨0,List.replicate N 0,⟨Nat.zero_le _,List.length_replicate,(fun x hx=>by rw [List.eq_of_mem_replicate hx];decide),by rw [val9_zeros (fun x hx=>List.eq_of_mem_replicate hx)];simp [val9],fun j _=>g9_zeros _ j⟩,rfl,rfl,rfl⟩ (fun fr C0' L0' m hle0 hI=>?_)
 obtain ⟨i,o,⟨hi,hol,hod,hval,hz⟩,rfl,rfl,rfl⟩:=hI
 refine G.z6 1 1 5 19 20 21 22 ?_
 refine G.cd (fun h22=>?_) fun h22=>?_
 ·have hil:i<a.length:=by simpa using h22
  have hx:=g9_lt hda i
  refine G.rp 1 fun R hR=>?_
  refine D.ak (ha.mono mup) rfl rfl rfl rfl rfl rfl rfl rfl rfl rfl om_ (g9_row (i:=i) hil) fl_ (fun p24 hp24=>?_)
  refine D.ac hp24 ?_
  refine D.q7 2 1 5 6 7 19 20 21 hR ?_;clear hR R
  refine G.z8 1 1 5 6 7 8 19 20 21 ?_
  refine G.z11 3 1 5 6 7 8 19 20 21 26 27 28 ?_
  refine G.loop (fun fr C' L' μ=>∃ (k:Nat)(q:List Nat)(c:Nat),(k<=b.length/\q.length=N/\Dig9 q/\c<B9/\val9 q+B9 ^ (i+k)*c=val9 o+B9 ^ i*(g9 a i*val9 (b.take k))/\∀ j,i+b.length<=j->g9 q j=0)/\fr=[(1,[],.slice B0 b.length d0),(5,[],qU b18 N N),(6,[],.int .i64 i),(7,[],.int .u64 (g9 a i)),(8,[],.int .u64 c),(19,[],.slice A0 a.length c0),(20,[],.int .i64 a.length),(21,[],.int .i64 i),(26,[],.slice B0 b.length d0),(27,[],.int .i64 b.length),(28,[],.int .i64 k)]/\L'=[.arr (qU b18 N N) 197 1 N (q.map encU).flatten]/\μ=b.length-k) (h_11 1 5 6 7 8 19 20 21 26 27 28) ⟨0,o,0,⟨Nat.zero_le _,hol,hod,by decide,by simp [val9],hz⟩,rfl,rfl,rfl⟩ (fun fr C1' L1' m hle1 hI=>?_)
  obtain ⟨k,q,c,⟨hk,hql,hqd,hc,hqv,hqz⟩,rfl,rfl,rfl⟩:=hI
  refine G.z12 1 1 5 6 7 8 19 20 21 26 27 28 29 ?_
  refine G.cd (fun h29=>?_) fun h29=>?_
  ·have hkl:k<b.length:=by simpa using h29
   have hy:=g9_lt hdb k
   have ho:=g9_lt hqd (i+k)
   have hget:q[i+k]?=some (g9 q (i+k)):=g9_get om_
   have hbound:=mul9_bound hc hx hy ho
   rw [show B9*B9=1000000000000000000 from rfl] at hbound
   refine G.rp 1 fun R hR=>?_
   refine D.ak (hb.mono mup) rfl rfl rfl rfl rfl rfl rfl rfl rfl rfl om_ (g9_row (i:=k) hkl) fl_ (fun p31 hp31=>?_)
   refine D.ac hp31 ?_
   refine D.q13 2 1 5 6 7 8 9 10 19 20 21 26 27 28 hR ?_;clear hR R
   refine G.rp 4 fun R hR=>?_
   refine D.cR (((i+k:Nat):Int)) rfl rfl rfl rfl om_ om_ om_ rfl rfl ?_
   refine D.aD ((i+k)*1) rfl rfl rfl rfl rfl rfl rfl rfl rfl rfl (fun _=>⟨by omega,by omega,rfl⟩) rfl rfl ?_
   refine D.aT (.head _) rfl rfl rfl rfl rfl rfl (fun _=>(by rw [bU cY hget];rfl)) rfl rfl ?_
   refine D.ps 2 ?_
   refine D.int (((g9 a i*g9 b k:Nat):Int)) rfl rfl rfl rfl (by rw [<- Int.natCast_mul,IntKind.wrap_u64];omega) rfl rfl ?_
   refine D.int (((g9 q (i+k)+g9 a i*g9 b k:Nat):Int)) rfl rfl rfl rfl (by rw [IntKind.wrap_u64];omega) rfl rfl ?_
   refine D.int (((c+g9 a i*g9 b k+g9 q (i+k):Nat):Int)) rfl rfl rfl rfl (by rw [IntKind.wrap_u64];omega) rfl rfl ?_
   refine D.q12 1 1 5 6 7 8 9 19 20 21 26 27 28 hR ?_;clear hR R
   refine G.rp 3 fun R hR=>?_
   refine D.cR (((i+k:Nat):Int)) rfl rfl rfl rfl om_ om_ om_ rfl rfl ?_
   refine D.ae ?_
   refine D.remN (c+g9 a i*g9 b k+g9 q (i+k)) (B9) rfl rfl rfl rfl rfl rfl om_ rfl rfl ?_
   refine D.aD ((i+k)*1) rfl rfl rfl rfl rfl rfl rfl rfl rfl rfl (fun _=>⟨by omega,by omega,rfl⟩) rfl rfl ?_
   refine D.aE (j:=0) rfl rfl rfl rfl rfl rfl rfl rfl rfl rfl rfl (by show (i+k)*1+1<=_;rw [aW cY,hql];omega) ?_
   refine D.e11 1 5 6 7 8 19 20 21 26 27 28 hR ?_;clear hR R
   refine G.rp 1 fun R hR=>?_
   refine D.quoN (c+g9 a i*g9 b k+g9 q (i+k)) (B9) rfl rfl rfl rfl rfl rfl om_ (.inr ⟨rfl,by omega⟩) rfl rfl ?_
   refine D.q11 1 1 5 6 7 8 19 20 21 26 27 28 hR ?_;clear hR R
   refine G.rg fun R hR=>?_
   refine D.aq _ ?_
   refine D.q11 1 1 5 6 7 8 19 20 21 26 27 28 hR ?_;clear hR R
   refine G.aM (L':=[.arr (qU b18 N N) 197 1 N ((q.set (i+k) ((c+g9 a i*g9 b k+g9 q (i+k)) % B9)).map encU).flatten]) (by rw [<- aL cY _ (by omega:i+k<q.length)];rfl) ?_
   refine G.ap (m':=b.length-(k+1)) om_ mup (h_11 1 5 6 7 8 19 20 21 26 27 28) ⟨k+1,q.set (i+k) ((c+g9 a i*g9 b k+g9 q (i+k)) % B9),(c+g9 a i*g9 b k+g9 q (i+k)) / B9,⟨by omega,by simp [hql],hqd.set (Nat.mod_lt _ (by decide)),carry9_lt hc hx hy ho,mul9_step hget rfl hqv,fun j hj=>by rw [g9_set_ne om_];exact hqz j hj⟩,rfl,rfl,rfl⟩
  ·have hkl:k=b.length:=by
    have:¬ k<b.length:=by simpa using h29
    omega
   refine G.rp 3 fun R hR=>?_
   refine D.cR (((i+b.length:Nat):Int)) rfl rfl rfl rfl om_ om_ om_ rfl rfl ?_
   refine D.q7 1 1 5 8 11 19 20 21 hR ?_;clear hR R
   refine G.loop (fun fr C' L' μ=>∃ (m:Nat)(q2:List Nat)(c2:Nat),(i+b.length<=m/\m<=i+b.length+1/\q2.length=N/\Dig9 q2/\c2<B9/\(m=i+b.length+1->c2=0)/\(m=i+b.length->g9 q2 m=0)/\val9 q2+B9 ^ m*c2=val9 o+B9 ^ i*(g9 a i*val9 b)/\∀ j,i+b.length+1<=j->g9 q2 j=0)/\fr=[(1,[],.slice B0 b.length d0),(5,[],qU b18 N N),(8,[],.int .u64 c2),(11,[],.int .i64 m),(19,[],.slice A0 a.length c0),(20,[],.int .i64 a.length),(21,[],.int .i64 i)]/\L'=[.arr (qU b18 N N) 197 1 N (q2.map encU).flatten]/\μ=2-(m-(i+b.length))) (h_7 1 5 8 11 19 20 21) ⟨i+b.length,q,c,⟨Nat.le_refl _,by omega,hql,hqd,hc,fun h=>by omega,fun _=>hqz _ (Nat.le_refl _),by rw [hkl,List.take_length] at hqv;exact hqv,fun j hj=>hqz j om_⟩,rfl,rfl,rfl⟩ (fun fr C2' L2' m hle2 hI=>?_)
   obtain ⟨m,q2,c2,⟨hm1,hm2,hql2,hqd2,hc2,hcz,hqm,hqv2,hqz2⟩,rfl,rfl,rfl⟩:=hI
   refine G.z8 2 1 5 8 11 19 20 21 60 ?_
   refine G.cd (fun h60=>?_) fun h60=>?_
   ·have hc0:0<c2:=by
     have:(0:Int)<(c2:Int):=by simpa using h60
     omega
    have hm3:m=i+b.length:=by
     rcases Nat.lt_or_ge m (i+b.length+1) with h | h
     ·omega
     ·have:=hcz om_;omega
    have hg0:=hqm hm3
    have hget2:q2[m]?=some (g9 q2 m):=g9_get om_
    refine G.rp 3 fun R hR=>?_
    refine D.aD (m*1) rfl rfl rfl rfl rfl rfl rfl rfl rfl rfl (fun _=>⟨by omega,by omega,rfl⟩) rfl rfl ?_
    refine D.aT (.head _) rfl rfl rfl rfl rfl rfl (fun _=>(by rw [bU cY hget2];rfl)) rfl rfl ?_
    refine D.int (((c2+g9 q2 m:Nat):Int)) rfl rfl rfl rfl (by rw [IntKind.wrap_u64];omega) rfl rfl ?_
    refine D.q7 1 1 5 8 11 19 20 21 hR ?_;clear hR R
    refine G.rp 3 fun R hR=>?_
    refine D.remN (c2+g9 q2 m) (B9) rfl rfl rfl rfl rfl rfl om_ rfl rfl ?_
    refine D.aD (m*1) rfl rfl rfl rfl rfl rfl rfl rfl rfl rfl (fun _=>⟨by omega,by omega,rfl⟩) rfl rfl ?_
    refine D.aE (j:=0) rfl rfl rfl rfl rfl rfl rfl rfl rfl rfl rfl (by show m*1+1<=_;rw [aW cY,hql2];omega) ?_
    refine D.e7 1 5 8 11 19 20 21 hR ?_;clear hR R
    refine G.rp 1 fun R hR=>?_
    refine D.quoN (c2+g9 q2 m) (B9) rfl rfl rfl rfl rfl rfl om_ (.inr ⟨rfl,by omega⟩) rfl rfl ?_
    refine D.q7 1 1 5 8 11 19 20 21 hR ?_;clear hR R
    refine G.rp 1 fun R hR=>?_
    refine D.aq _ ?_
    refine D.q7 1 1 5 8 11 19 20 21 hR ?_;clear hR R
    have hcm:(c2+g9 q2 m) % B9=c2:=by rw [hg0,Nat.add_zero];exact Nat.mod_eq_of_lt hc2
    have hcd:(c2+g9 q2 m) / B9=0:=by rw [hg0,Nat.add_zero];exact Nat.div_eq_of_lt hc2
    refine G.aM (L':=[.arr (qU b18 N N) 197 1 N ((q2.set m c2).map encU).flatten]) (by rw [hcm,<- aL cY _ (by omega:m<q2.length)];rfl) ?_
    rw [hcd]
    refine G.ap (m':=2-(m+1-(i+b.length))) om_ mup (h_7 1 5 8 11 19 20 21) ⟨m+1,q2.set m c2,0,⟨by omega,by omega,by simp [hql2],hqd2.set hc2,by decide,fun _=>rfl,fun h=>by omega,by
     have h1:=val9_set (z:=c2) hget2
     rw [hg0] at h1
     omega,fun j hj=>by rw [g9_set_ne om_];exact hqz2 j hj⟩,rfl,rfl,rfl⟩
   ·have hc0:c2=0:=by
     have:¬ (0:Int)<(c2:Int):=by simpa using h60
     omega
    refine G.rg fun R hR=>?_
    refine D.aq _ ?_
    refine D.q5 1 1 5 19 20 21 hR ?_;clear hR R
    refine G.ap (m':=a.length-(i+1)) om_ mup (h_5 1 5 19 20 21) ⟨i+1,q2,⟨by omega,hql2,hqd2,by
     rw [hc0,Nat.mul_zero,Nat.add_zero] at hqv2
     rw [val9_tk,Nat.add_mul,<- hval,Nat.mul_assoc]
     exact hqv2,fun j hj=>hqz2 j om_⟩,rfl,rfl,rfl⟩
 ·have hil:i=a.length:=by
   have:¬ i<a.length:=by simpa using h22
   omega
  refine G.aA [(1,3)] rfl (fun R hR=>?_)
  refine D.ae ?_
  refine D.call (ek _ _ o hol) rfl (.inr (by decide)) rfl rfl rfl rfl rfl rfl (List.Perm.refl _) fl_ (fun v78 C78 L78 hle78 hq78=>?_)
  obtain ⟨rfl,hu⟩:=hq78
  refine D.q1 1 4 hR ?_;clear hR R
  refine G.rf ?_
  refine ⟨rfl,cut9 o,eV hod, ?_,hu⟩
  rw [eU,hval,hil,List.take_length]

theorem can9_short {l:List Nat}(h:Can9 l){m:Nat}(hv:val9 l<B9 ^ m):l.length<=m:=by
 rcases Nat.lt_or_ge m l.length with h1 | h1
 ·have h2:=can9_low h om_
  have h3:B9 ^ m<=B9 ^ (l.length-1):=Nat.pow_le_pow_right (by decide) om_
  omega
 ·exact h1
theorem NineC.get {C:Mem}{v:Value}{n:Nat}(h:NineC C v n){m:Nat}(hn:n<B9 ^ m):∃ l,Can9 l/\val9 l=n/\l.length<=m/\Sl C 1 v (l.map encU):=by
 obtain ⟨l,h1,h2,h3⟩:=h
 exact ⟨l,h1,h2,can9_short h1 (by rw [h2];exact hn),h3⟩
theorem NineC.zero (C:Mem):NineC C (.slice none 0 0) 0:=⟨[],⟨(fun x hx=>(by cases hx)),by simp⟩,rfl,Sl.nil C 1⟩
theorem NineC.form {C:Mem}{v:Value}{n:Nat}(h:NineC C v n):∃ A m c,v=.slice A m c:=by
 obtain ⟨l,_,_,A,c,h,_⟩:=h
 exact ⟨A,_,c,h⟩
theorem cI {m n k:Nat}(h:m<B9 ^ n)(hk:n<=k):m<B9 ^ k:=Nat.lt_of_lt_of_le h (Nat.pow_le_pow_right (by decide) hk)
theorem order_n (C:Mem){u v:Value}{m n:Nat}(hu:NineC C u m)(hv:NineC C v n):Gives cx.P 137 [u,v] C (.int .i64 (ordZ m n)):=by
 obtain ⟨a,h1,h2,h3⟩:=hu
 obtain ⟨b,h4,h5,h6⟩:=hv
 rw [<- h2,<- h5]
 exact order9_fn C u v a b h3 h6 h1 h4
theorem plus_n (C:Mem){u v:Value}{m n k:Nat}(hu:NineC C u m)(hv:NineC C v n)(hm:m<B9 ^ k)(hn:n<B9 ^ k)(hk:k<=1000000):Pur cx.P 135 [u,v] C fun w D=>NineC D w (m+n):=by
 obtain ⟨a,h1,h2,h3,h4⟩:=hu.get hm
 obtain ⟨b,h5,h6,h7,h8⟩:=hv.get hn
 rw [<- h2,<- h6]
 exact plus_fn C u v a b h4 h8 h1.1 h5.1 om_ om_
theorem minus_n (C:Mem){u v:Value}{m n k:Nat}(hu:NineC C u m)(hv:NineC C v n)(hm:m<B9 ^ k)(hle:n<=m)(hk:k<=1000000):Pur cx.P 138 [u,v] C fun w D=>NineC D w (m-n):=by
 obtain ⟨a,h1,h2,h3,h4⟩:=hu.get hm
 obtain ⟨b,h5,h6,h7⟩:=hv
 rw [<- h2,<- h6]
 refine minus_fn C u v a b h4 h7 h1.1 h5.1 om_ ?_ om_
 rcases Nat.lt_or_ge a.length b.length with h | h
 ·have:=len9_lt h1.1 h5 h;omega
 ·exact h
theorem times_n (C:Mem){u v:Value}{m n k:Nat}(hu:NineC C u m)(hv:NineC C v n)(hm:m<B9 ^ k)(hn:n<B9 ^ k)(hk:k<=1000000):Pur cx.P 139 [u,v] C fun w D=>NineC D w (m*n):=by
 obtain ⟨a,h1,h2,h3,h4⟩:=hu.get hm
 obtain ⟨b,h5,h6,h7,h8⟩:=hv.get hn
 rw [<- h2,<- h6]
 exact times_fn C u v a b h4 h8 h1.1 h5.1 om_ om_
theorem trim_n (C:Mem){u:Value}{l:List Nat}(hd:Dig9 l)(hu:Sl C 1 u (l.map encU)):Pur cx.P 167 [u] C fun w D=>NineC D w (val9 l) :=
 (trim9_fn C u l hu).mono fun _w _D _L' _ ⟨h1,h2⟩=>⟨h1,cut9 l,eV hd,eU l,h2⟩
theorem small_n (C:Mem){u:Value}{m d k:Nat}(hu:NineC C u m)(hm:m<B9 ^ k)(hd:d<B9)(hk:k<=999999):Pur cx.P 195 [u,.int .u64 d] C fun w D=>NineC D w (m*d):=by
 obtain ⟨A,n,c,rfl⟩:=hu.form
 refine Fn.it kr_ Tryz.func195 10 fun w0=>?_
 refine G.z2 1 0 1 ?_
 refine G.rp 2 fun R hR=>?_
 refine D.af [encU d] (fun p7 C7 hle7 hs7=>?_)
 refine D.ax (trim_n _ (l:=[d]) (fun x hx=>by rw [List.mem_singleton.1 hx];exact hd) hs7) rfl rfl rfl rfl rfl rfl rfl fl_ (fun v8 C8 hle8 hq8=>?_)
 refine D.ax (times_n (k:=k+1) _ (hu.mono mup) hq8 (cI hm om_) (by show d+B9*0<_;rw [Nat.pow_succ];have:0<B9 ^ k:=Nat.pow_pos (by decide);have h2:=Nat.mul_le_mul_right B9 this;omega) om_) rfl rfl rfl rfl rfl rfl rfl fl_ (fun v9 C9 hle9 hq9=>?_)
 refine D.q1 1 4 hR ?_
 refine G.rf ?_
 refine ⟨rfl, ?_⟩
 have e:val9 [d]=d:=by show d+B9*0=d;omega
 rw [e] at hq9
 exact hq9
open Go Go.Jog Go.RowKit Go.Shelf
attribute [local go_sem] Oper.semAt_some

set_option maxRecDepth 100000 in
theorem backU_in (l Bs b off len cap:Nat)(zs:Nat->Int)(hlen:len<1000000)(J:Nat->World->Prop)
  (hJ:∀ k W,J k W->W.cell? ⟨Bs,0,none⟩=some (.slice (some ⟨b,off,none⟩) len cap)/\∀ j,j<len->W.cell? ⟨b,off+j,none⟩=some (.int .u64 (zs j)))
  (hY:∀ k W,J k W->k<len->YieldAt Fence.wide 1 Tryz.prog l #[.int .i64 ((len-1-k:Nat):Int),.int .u64 (zs (len-1-k))] W fun e W'=>e=.returned (.bool true)/\J (k+1) W')
  (W:World) (h0:J 0 W) :
  CallsIn Fence.wide 2 Tryz.prog 200 #[.func (.yield l) #[] #[],.pointer (some ⟨Bs,0,none⟩)] W fun e W'=>(∃ v,e=.returned v)/\J len W':=by
 refine callsIn_of_wp Tryz.func200 rfl trivial ?_ rfl
 simp only [Tryz.ntmps200,List.size_toArray,List.length_cons,List.length_nil,Nat.reduceAdd,Nat.reduceSub,Array.replicate_succ,Array.replicate_zero,List.push_toArray,List.append_toArray,List.nil_append,List.cons_append]
 have hBs:=(hJ 0 W h0).1
 gi_wp2
 gi_loopw [3] (fun i wr=>∃ k:Nat,k<=len/\i=.int .i64 ((len:Int)-1-k)/\J k wr) (fun i _=>(intOf i+1).toNat)
 case atStart=>exact ⟨0,Nat.zero_le _,by simp,h0⟩
 case round =>
  obtain ⟨k,hk,rfl,hJs⟩:=hrel
  obtain ⟨hB2,hcx⟩:=hJ k wr hJs
  by_cases hlt:k<len
  ·obtain ⟨fn,tmps,assign,body,hy,hR⟩:=hY k wr hJs hlt
   have hcx':=hcx (len-1-k) om_
   have e1:((len-1-k:Nat):Int)=(len:Int)-1-k:=by omega
   rw [e1] at hy
   gi_wp2
   refine hR.mono ?_
   rintro e W3 ⟨rfl,hJ3⟩
   gi_wp2
   go_roundw
   case rel=>exact ⟨k+1,by omega,by congr 1;omega,hJ3⟩
   case measure=>simp [intOf];omega
  ·obtain rfl:k=len:=by omega
   gi_wp2
   go_end0
   exact ⟨⟨_,rfl⟩,hJs⟩

set_option maxRecDepth 100000 in
theorem backU_nil_in (l Bs:Nat)(A:Option Addr)(cap:Nat)(J:Nat->World->Prop)(W:World)(hBs:W.cell? ⟨Bs,0,none⟩=some (.slice A 0 cap))(h0:J 0 W) :
  CallsIn Fence.wide 2 Tryz.prog 200 #[.func (.yield l) #[] #[],.pointer (some ⟨Bs,0,none⟩)] W fun e W'=>(∃ v,e=.returned v)/\J 0 W':=by
 refine callsIn_of_wp Tryz.func200 rfl trivial ?_ rfl
 simp only [Tryz.ntmps200,List.size_toArray,List.length_cons,List.length_nil,Nat.reduceAdd,Nat.reduceSub,Array.replicate_succ,Array.replicate_zero,List.push_toArray,List.append_toArray,List.nil_append,List.cons_append]
 gi_wp2
 gi_loopw [3] (fun i wr=>i=.int .i64 (-1)/\J 0 wr) (fun _ _=>0)
 case atStart=>exact ⟨rfl,h0⟩
 case round =>
  obtain ⟨rfl,hJs⟩:=hrel
  gi_wp2
  go_end0
  exact ⟨⟨_,rfl⟩,hJs⟩

def backW (xs:List Nat):List (Value × Value):=(List.range xs.length).map fun k=>(.int .i64 ((xs.length-1-k:Nat):Int),.int .u64 ((xs.getD (xs.length-1-k) 0:Nat):Int))
theorem d2 (xs:List Nat):(backW xs).length=xs.length:=by simp [backW]
theorem backW_at {xs:List Nat}{k:Nat}(h:k<xs.length):(backW xs)[k]?=some (.int .i64 ((xs.length-1-k:Nat):Int),.int .u64 ((xs.getD (xs.length-1-k) 0:Nat):Int)):=by
 simp [backW,h]
theorem backU_iter (C:Mem)(b t:Nat)(v:Value)(xs:List Nat)(hb:C b=some (.cells ⟨[v]⟩ t (0,0)))(hv:Sl C 1 v (xs.map fun n:Nat=>[Value.int .u64 (n:Int)]))(hl:xs.length<1000000) :
  Iter Tryz.prog 200 #[.pointer (some ⟨b,0,none⟩)] C (backW xs):=by
 intro l J W hC hD hY h0
 obtain ⟨A,cap,rfl,hlc,_,_,hcells⟩:=hv
 rw [List.length_map] at *
 have hcell:∀ {W:World}{k:Nat},J k W->W.cell? ⟨b,0,none⟩=some (.slice A xs.length cap):=fun {W k} hj=>by
  simp [World.cell?,hC k W hj b _ hb]
 rw [d2]
 rcases Nat.eq_zero_or_pos xs.length with h | h
 ·have h1:=hcell h0
  rw [h] at h1 ⊢
  exact backU_nil_in l b A cap J W h1 h0
 ·obtain ⟨ad,rfl,hsp,_⟩:=hcells 0 _ (List.getElem?_eq_getElem (by simpa using h))
  obtain ⟨ab,ao,asp⟩:=ad
  simp only at hsp
  subst hsp
  refine backU_in l b ab ao xs.length cap (fun j=>((xs.getD j 0:Nat):Int)) hl J (fun k W hj=>⟨hcell hj,fun j hj2=>?_⟩) (fun k W hj hk=>hY k _ W hj (backW_at hk)) W h0
  have h3:(xs.map fun n:Nat=>[Value.int .u64 (n:Int)])[j]?=some [Value.int .u64 ((xs.getD j 0:Nat):Int)]:=by
   simp [hj2]
  obtain ⟨a2,h4,_,h5⟩:=hcells j _ h3
  cases h4
  have h6:=h5 0 _ rfl
  rw [Addr.add_lit] at h6
  obtain ⟨_,blk,t2,fz,h7,h8⟩:=h6
  simp only at h7
  simp only [World.cell?,hC k W hj ab _ h7]
  simpa using h8

theorem backU_fn (C:Mem)(A:Option Addr)(n c:Nat):Pur cx.P 169 [.slice A n c] C fun r C'=>∃ b,r=.func (.func 200) #[] #[.pointer (some ⟨b,0,none⟩)]/\C' b=some (.cells ⟨[.slice A n c]⟩ 207 (0,0)):=by
 refine Fn.it kr_ Tryz.func169 4 fun w0=>?_
 refine G.rg fun R hR=>?_
 refine D.aX (fun b1=>?_)
 refine D.q1 1 1 hR ?_
 refine G.z1 2 2 ?_
 refine G.freeze 0 rfl (fun Cf hf hb1=>?_)
 refine G.rf ?_
 exact ⟨rfl,_,rfl,hb1⟩


def encW (x:Nat):List Value:=[.int .u32 x]
theorem cE (x:Nat):(encW x).length=1:=rfl
def NatC (C:Mem)(v:Value)(n:Nat):Prop:=∃ l,CanD l/\valD l=n/\Sl C 1 v (l.map encW)
theorem NatC.mono {C D:Mem}{v:Value}{n:Nat}(h:NatC C v n)(hl:C.le D):NatC D v n:=by
 obtain ⟨l,h1,h2,h3⟩:=h
 exact ⟨l,h1,h2,h3.mono hl⟩
theorem trim_fn (C:Mem)(v:Value)(l:List Nat)(hv:Sl C 1 v (l.map encW)):Pur cx.P 122 [v] C fun u C'=>Sl C' 1 u ((trimD l).map encW):=by
 obtain ⟨A0,c0,rfl,hlc,_⟩:=id hv
 simp only [List.length_map] at hv hlc ⊢
 refine Fn.it kr_ Tryz.func122 21 fun w0=>?_
 refine G.z1 1 0 ?_
 refine G.loop (fun fr C' L' μ=>∃ (k:Nat)(A:Option Addr)(c:Nat),(k<=l.length/\Sl C' 1 (.slice A k c) ((l.take k).map encW)/\trimN l l.length=trimN l k)/\fr=[(0,[],.slice A k c)]/\L'=[]/\μ=k+1) (h_1 0) ⟨l.length,A0,c0,⟨Nat.le_refl _,by rw [List.take_length];exact hv,rfl⟩,rfl,rfl,rfl⟩ (fun fr C0' L0' m hle0 hI=>?_)
 obtain ⟨k,A,c,⟨hk,hs,ht⟩,rfl,rfl,rfl⟩:=hI
 obtain ⟨_,c9,hqe,hkc,_⟩:=id hs
 have hmx:maxLen<=9223372036854775807:=by simp [maxLen]
 have hkc2:k<=c:=by
  rw [List.length_map,List.length_take] at hkc
  injection hqe with h1 h2 h3
  omega
 have hrow:0<k->((l.take k).map encW)[((k:Int)-1).toNat]?=some (encW (gD l (k-1))):=fun h=>by
  rw [show ((k:Int)-1).toNat=k-1 by omega,List.getElem?_map,List.getElem?_take,if_pos om_,List.getElem?_eq_getElem (by omega:k-1<l.length)]
  unfold gD
  rw [List.getD_eq_getElem?_getD,List.getElem?_eq_getElem (by omega:k-1<l.length)];rfl
 refine G.rp 7 fun R hR=>?_
 refine D.aq _ ?_
 refine D.index rfl rfl rfl rfl rfl rfl rfl rfl rfl rfl (fun hg=>⟨hs,(by have h:decide ((0:Int)<(k:Int))=true:=hg.1;simp at h;omega),hrow (by have h:decide ((0:Int)<(k:Int))=true:=hg.1;simp at h;omega)⟩) fl_ rfl (fun p11 hp11=>?_)
 refine D.aK rfl rfl rfl rfl rfl rfl hp11 rfl rfl rfl ?_
 refine D.ae ?_
 refine D.au ?_
 refine D.e2 0 14 hR ?_
 refine G.cd (fun h14=>?_) fun h14=>?_
 ·have hk0:0<k/\gD l (k-1)=0:=by
   have:(0:Int)<(k:Int)/\((gD l (k-1):Nat):Int)=0:=by simpa using h14
   omega
  refine G.rp 3 fun R hR=>?_
  refine D.cR (((k-1:Nat):Int)) rfl rfl rfl rfl om_ om_ om_ rfl rfl ?_
  refine D.dq 0 (k-1) c rfl rfl rfl rfl rfl rfl rfl rfl rfl rfl rfl rfl (fun _=>⟨.inl ⟨rfl,rfl⟩,.inr ⟨_,rfl⟩,.inl ⟨rfl,rfl⟩,by omega,by omega,Nat.le_refl _⟩) rfl rfl ?_
  refine D.q1 1 0 hR ?_
  have hsub:=Sl.sub hs (l:=0) (h:=k-1) (m:=c) (Nat.zero_le _) (by simp;omega) om_ (Nat.le_refl _)
  have esub:(((l.take k).map encW).take (k-1)).drop 0=(l.take (k-1)).map encW:=by
   rw [List.drop_zero,<- List.map_take,List.take_take,Nat.min_eq_left om_]
  rw [esub] at hsub
  have etr:trimN l l.length=trimN l (k-1):=by
   rw [ht]
   obtain ⟨j,rfl⟩:∃ j,k=j+1:=⟨k-1,by omega⟩
   simp only [Nat.add_sub_cancel] at hk0 ⊢
   rw [trimN,if_pos]
   unfold gD at hk0
   rw [List.getD_eq_getElem?_getD,List.getElem?_eq_getElem om_] at hk0
   rw [List.getElem?_eq_getElem om_]
   exact congrArg some hk0.2
  refine G.ap (m':=k-1+1) om_ mup (h_1 0) ⟨k-1,_,c,⟨by omega,hsub.mono mup,etr⟩,rfl,rfl,rfl⟩
 ·have hk0:¬ (0<k/\gD l (k-1)=0):=fun hh=>by
   have h1:(decide ((0:Int)<(k:Int)) && (((gD l (k-1):Nat):Int) == 0))=true:=by
    rw [hh.2];simp;omega
   rw [h1] at h14
   cases h14
  refine G.z1 2 2 ?_
  refine G.rf ?_
  refine ⟨rfl, ?_⟩
  have e:trimN l k=k:=by
   cases k with
   | zero=>rfl
   | succ j =>
    simp only [Nat.add_sub_cancel] at hk0
    rw [trimN,if_neg]
    intro h
    refine hk0 ⟨by omega, ?_⟩
    unfold gD
    rw [List.getD_eq_getElem?_getD,h];rfl
  unfold trimD
  rw [ht,e]
  exact hs
def CmpRes (m n:Nat)(z:Int):Prop:=(z<0 ↔ m<n)/\(0<z ↔ n<m)/\-9223372036854775808<=z/\z<=9223372036854775807
theorem compare_fn (C:Mem)(va vb:Value)(a b:List Nat)(ha:Sl C 1 va (a.map encW))(hb:Sl C 1 vb (b.map encW))(hca:CanD a)(hcb:CanD b):Pur cx.P 69 [va,vb] C fun u _=>∃ z:Int,u=.int .i64 z/\CmpRes (valD a) (valD b) z:=by
 have hmx:maxLen<=9223372036854775807:=by simp [maxLen]
 obtain ⟨A0,c0,rfl,hla,hla2,_⟩:=id ha
 obtain ⟨B0,d0,rfl,hlb,hlb2,_⟩:=id hb
 simp only [List.length_map] at ha hb hla hlb ⊢
 refine Fn.it kr_ Tryz.func69 43 fun w0=>?_
 refine G.z2 1 0 1 ?_
 refine G.z3 5 0 1 10 ?_
 refine G.cd (fun h10=>?_) fun h10=>?_
 ·have hne:a.length≠b.length:=fun e=>by
   rw [e] at h10;simp at h10
  refine G.rp 4 fun R hR=>?_
  refine D.aq _ ?_
  refine D.q1 1 4 hR ?_
  refine G.rf ?_
  refine ⟨rfl,_,rfl, ?_⟩
  rcases Nat.lt_or_ge a.length b.length with h | h
  ·have:=len_lt hca.1 hcb h
   refine ⟨?_, ?_, ?_, ?_⟩ <;> omega
  ·have:=len_lt hcb.1 hca om_
   refine ⟨?_, ?_, ?_, ?_⟩ <;> omega
 ·have hlen:a.length=b.length:=by
   have:(a.length:Int)=b.length:=by simpa using h10
   omega
  refine G.rp 2 fun R hR=>?_
  refine D.aq _ ?_
  refine D.q3 1 0 1 5 hR ?_
  refine G.loop (fun fr C' L' μ=>∃ (k:Nat),(k<=a.length/\a.drop k=b.drop k)/\fr=[(0,[],.slice A0 a.length c0),(1,[],.slice B0 b.length d0),(5,[],.int .i64 ((k:Int)-1))]/\L'=[]/\μ=k+1) (h_3 0 1 5) ⟨a.length,⟨Nat.le_refl _,by rw [List.drop_length,hlen,List.drop_length]⟩,rfl,rfl,rfl⟩ (fun fr C0' L0' m hle0 hI=>?_)
  obtain ⟨k,⟨hk,he⟩,rfl,rfl,rfl⟩:=hI
  refine G.z4 2 0 1 5 20 ?_
  refine G.cd (fun h20=>?_) fun h20=>?_
  ·have hk0:0<k:=by
    have:(0:Int)<=(k:Int)-1:=by simpa using h20
    omega
   obtain ⟨j,rfl⟩:∃ j,k=j+1:=⟨k-1,by omega⟩
   obtain ⟨x,hx⟩:∃ x,a[j]?=some x:=⟨a[j],List.getElem?_eq_getElem om_⟩
   obtain ⟨y,hy⟩:∃ y,b[j]?=some y:=⟨b[j],List.getElem?_eq_getElem om_⟩
   have hrx:(a.map encW)[(((j+1:Nat):Int)-1).toNat]?=some (encW x):=by
    rw [show (((j+1:Nat):Int)-1).toNat=j by omega,List.getElem?_map,hx];rfl
   have hry:(b.map encW)[(((j+1:Nat):Int)-1).toNat]?=some (encW y):=by
    rw [show (((j+1:Nat):Int)-1).toNat=j by omega,List.getElem?_map,hy];rfl
   refine G.aH [0,1,2,3,4,5,6,7,8,9] [] rfl kr_ (fun R hB hR=>?_)
   refine D.ps 2 ?_
   refine D.ak (ha.mono mup) rfl rfl rfl rfl rfl rfl rfl rfl rfl rfl om_ hrx fl_ (fun p26 hp26=>?_)
   refine D.ac hp26 ?_
   refine D.ps 2 ?_
   refine D.ak (hb.mono mup) rfl rfl rfl rfl rfl rfl rfl rfl rfl rfl om_ hry fl_ (fun p30 hp30=>?_)
   refine D.ac hp30 ?_
   refine D.q4 2 0 1 5 23 hR ?_
   refine G.cd (fun h23=>?_) fun h23=>?_
   ·have hxy:x<y:=by
     have:(x:Int)<y:=by simpa using h23
     omega
    refine G.z1 1 4 ?_
    refine G.rf ?_
    refine ⟨rfl,_,rfl, ?_⟩
    have:=at_lt hca.1 hlen hx hy hxy he
    refine ⟨?_, ?_, ?_, ?_⟩ <;> omega
   ·have hxy:¬ x<y:=fun h=>by
     have:(x:Int)<y:=by omega
     simp [this] at h23
    refine G.aH [0,1,2,3,4,5,6,7,8,9] [] rfl kr_ (fun R hB hR=>?_)
    refine D.ps 2 ?_
    refine D.ak (ha.mono mup) rfl rfl rfl rfl rfl rfl rfl rfl rfl rfl om_ hrx fl_ (fun p36 hp36=>?_)
    refine D.ac hp36 ?_
    refine D.ps 2 ?_
    refine D.ak (hb.mono mup) rfl rfl rfl rfl rfl rfl rfl rfl rfl rfl om_ hry fl_ (fun p40 hp40=>?_)
    refine D.ac hp40 ?_
    refine D.q4 2 0 1 5 33 hR ?_
    refine G.cd (fun h33=>?_) fun h33=>?_
    ·have hyx:y<x:=by
      have:(y:Int)<x:=by simpa using h33
      omega
     refine G.z1 1 4 ?_
     refine G.rf ?_
     refine ⟨rfl,_,rfl, ?_⟩
     have:=at_lt hcb.1 hlen.symm hy hx hyx he.symm
     refine ⟨?_, ?_, ?_, ?_⟩ <;> omega
    ·have hyx:¬ y<x:=fun h=>by
      have:(y:Int)<x:=by omega
      simp [this] at h33
     refine G.rp 1 fun R hR=>?_
     refine D.aq _ ?_
     refine D.q3 1 0 1 5 hR ?_
     rw [show ((j+1:Nat):Int)-1-1=(j:Int)-1 by omega]
     refine G.ap (m':=j+1) om_ mup (h_3 0 1 5) ⟨j,⟨by omega,by
      have hxy2:x=y:=by omega
      rw [List.drop_eq_getElem_cons (by omega:j<a.length),List.drop_eq_getElem_cons (by omega:j<b.length),he,(List.getElem?_eq_some_iff.1 hx).2,(List.getElem?_eq_some_iff.1 hy).2,hxy2]⟩,rfl,rfl,rfl⟩
  ·have hk0:k=0:=by
    have:¬ (0:Int)<=(k:Int)-1:=by simpa using h20
    omega
   subst hk0
   refine G.z1 1 4 ?_
   refine G.rf ?_
   refine ⟨rfl,_,rfl, ?_⟩
   have:a=b:=by simpa using he
   subst this
   refine ⟨?_, ?_, ?_, ?_⟩ <;> omega

theorem add32_fn (C:Mem)(x y c:Nat)(hx:x<B32)(hy:y<B32)(hc:c<=1):Gives cx.P 124 [.int .u32 x,.int .u32 y,.int .u32 c] C (.tuple #[.int .u32 ((x+y+c) % B32:Nat),.int .u32 ((x+y+c) / B32:Nat)]):=by
 have hB:B32=4294967296:=rfl
 refine Fn.it kr_ Tryz.func124 22 fun w0=>?_
 refine G.z3 2 0 1 2 ?_
 refine G.rp 1 fun R hR=>?_
 refine D.bT (c:=(x:Int)) rfl rfl rfl rfl rfl rfl rfl rfl (by rw [IntKind.wrap_u64];omega) fl_ ?_
 refine D.ae ?_
 refine D.bT (c:=(y:Int)) rfl rfl rfl rfl rfl rfl rfl rfl (by rw [IntKind.wrap_u64];omega) fl_ ?_
 refine D.int (((x+y:Nat):Int)) rfl rfl rfl rfl (by rw [IntKind.wrap_u64];omega) rfl rfl ?_
 refine D.ae ?_
 refine D.bT (c:=(c:Int)) rfl rfl rfl rfl rfl rfl rfl rfl (by rw [IntKind.wrap_u64];omega) fl_ ?_
 refine D.int (((x+y+c:Nat):Int)) rfl rfl rfl rfl (by rw [IntKind.wrap_u64];omega) rfl rfl ?_
 refine D.q1 1 8 hR ?_;clear hR R
 refine G.rp 1 fun R hR=>?_
 refine D.bT (c:=(((x+y+c) % B32:Nat):Int)) rfl rfl rfl rfl rfl rfl rfl rfl (by rw [IntKind.wrap_u32];show _=(((x+y+c) % 4294967296:Nat):Int);omega) fl_ ?_
 refine D.q2 1 6 8 hR ?_;clear hR R
 refine G.rp 1 fun R hR=>?_
 refine D.shrU ((x+y+c)) (32) rfl rfl rfl rfl rfl rfl rfl rfl om_ rfl rfl ?_
 refine D.bT (c:=(((x+y+c) / B32:Nat):Int)) rfl rfl rfl rfl rfl rfl rfl rfl (by rw [IntKind.wrap_u32,show (2:Nat) ^ 32=4294967296 from rfl];show _=(((x+y+c) / 4294967296:Nat):Int);omega) fl_ ?_
 refine D.q2 1 6 7 hR ?_;clear hR R
 refine G.ay (G.dropAll (G.bg rfl rfl rfl ?_))
 exact ⟨rfl,rfl⟩
theorem trimO_fn (C:Mem)(v:Value)(l:List Nat){n:Nat}(hn:l.length=n):Jog.Fn cx.P 122 [v] C [.arr v 165 1 n (l.map encW).flatten] fun u C' L'=>L'=[]/\Sl C' 1 u ((trimD l).map encW) :=
 Jog.Fn.give (l.map encW) kr_ (by intro r hr;obtain ⟨y,_,rfl⟩:=List.mem_map.1 hr;rfl) (by rw [List.length_map,hn]) (fun C' _ hs=>trim_fn C' v l hs)
theorem nadd_fn (C:Mem)(va vb:Value)(a b:List Nat)(ha:Sl C 1 va (a.map encW))(hb:Sl C 1 vb (b.map encW))(hda:DigD a)(hdb:DigD b)(hla:a.length<=100000000)(hlb:b.length<=100000000) :
  Pur cx.P 68 [va,vb] C fun u C'=>NatC C' u (valD a+valD b):=by
 obtain ⟨A0,c0,rfl,_⟩:=id ha
 obtain ⟨B0,d0,rfl,_⟩:=id hb
 simp only [List.length_map] at ha hb ⊢
 refine Fn.it kr_ Tryz.func68 54 fun w0=>?_
 refine G.z2 1 0 1 ?_
 refine G.z3 5 0 1 15 ?_
 refine G.bW (fun fr C' L' μ=>∃ (la lb:List Nat)(A:Option Addr)(c:Nat)(B:Option Addr)(d:Nat),(Sl C' 1 (.slice A la.length c) (la.map encW)/\Sl C' 1 (.slice B lb.length d) (lb.map encW)/\lb.length<=la.length/\valD la+valD lb=valD a+valD b/\DigD la/\DigD lb/\la.length<=100000000)/\fr=[(0,[],.slice A la.length c),(1,[],.slice B lb.length d)]/\L'=[]) ?_ (fun fr C15 L15 μ hle15 hI=>?_)
 ·refine G.cd (fun h15=>?_) fun h15=>?_
  ·have h15':a.length<b.length:=by
    have:(a.length:Int)<b.length:=by simpa using h15
    omega
   refine G.z2 4 0 1 ?_
   refine G.ar 0 (Mem.le.refl _) (h_2 0 1) ⟨b,a,_,_,_,_,⟨hb.mono mup,ha.mono mup,by omega,by omega,hdb,hda,hlb⟩,rfl,rfl⟩
  ·have h15':¬ a.length<b.length:=fun h=>by
    have:(a.length:Int)<b.length:=by omega
    simp [this] at h15
   refine G.ar 0 (Mem.le.refl _) (h_2 0 1) ⟨a,b,_,_,_,_,⟨ha.mono mup,hb.mono mup,by omega,rfl,hda,hdb,hla⟩,rfl,rfl⟩
 ·obtain ⟨la ,lb ,A ,c ,B ,d,⟨hsa,hsb,hll,hvv,hdla,hdlb,hla8⟩,rfl,rfl⟩:=hI
  refine G.rp 2 fun R hR=>?_
  refine D.aq _ ?_
  refine D.bu rfl rfl rfl rfl rfl rfl rfl rfl rfl (Nat.zero_le _) (by show 4*(la.length+1)<=281474976710656;omega) (by simp only [maxLen];omega) fl_ (fun b21=>?_)
  refine D.q3 1 0 1 5 hR ?_
  refine G.z4 1 0 1 5 6 ?_
  refine G.z6 3 1 5 6 22 23 24 ?_
  refine G.loop (fun fr C' L' μ=>∃ (i:Nat)(out:List Nat)(cy:Nat)(w:Value),(i<=la.length/\out.length=i/\DigD out/\cy<=1/\valD out+B32 ^ i*cy=valD (la.take i)+valD (lb.take i))/\fr=[(1,[],.slice B lb.length d),(5,[],w),(6,[],.int .u32 cy),(22,[],.slice A la.length c),(23,[],.int .i64 la.length),(24,[],.int .i64 i)]/\L'=[.arr w 165 1 i (out.map encW).flatten]/\μ=la.length-i) (h_6 1 5 6 22 23 24) ⟨0,[],0,_,⟨Nat.zero_le _,rfl,(fun x hx=>(by cases hx)),by omega,rfl⟩,rfl,rfl,rfl⟩ (fun fr C0' L0' m hle0 hI=>?_)
  obtain ⟨i,out,cy,w,⟨hi,hol,hod,hcy,hval⟩,rfl,rfl,rfl⟩:=hI
  refine G.z7 1 1 5 6 22 23 24 25 ?_
  refine G.cd (fun h25=>?_) fun h25=>?_
  ·have hil:i<la.length:=by simpa using h25
   have hra:(la.map encW)[i]?=some (encW (gD la i)):=by rw [List.getElem?_map,List.getElem?_eq_getElem hil,dX (List.getElem?_eq_getElem hil)];rfl
   refine G.rp 1 fun R hR=>?_
   refine D.ak (hsa.mono mup) rfl rfl rfl rfl rfl rfl rfl rfl rfl rfl om_ hra fl_ (fun p27 hp27=>?_)
   refine D.ac hp27 ?_
   refine D.q8 2 1 5 6 7 8 22 23 24 hR ?_
   refine G.z9 1 1 5 6 7 8 9 22 23 24 ?_
   refine G.z10 4 1 5 6 7 8 9 22 23 24 32 ?_
   refine G.bW (fun fr C' L' μ=>(True)/\fr=[(1,[],.slice B lb.length d),(5,[],w),(6,[],.int .u32 cy),(8,[],.int .u32 (gD la i)),(9,[],.int .u32 (gD lb i)),(22,[],.slice A la.length c),(23,[],.int .i64 la.length),(24,[],.int .i64 i)]/\L'=[.arr w 165 1 i (out.map encW).flatten]) ?_ (fun fr C32 L32 μ hle32 hI=>?_)
   ·refine G.cd (fun h32=>?_) fun h32=>?_
    ·have hib:i<lb.length:=by simpa using h32
     have hrb:(lb.map encW)[i]?=some (encW (gD lb i)):=by rw [List.getElem?_map,List.getElem?_eq_getElem hib,dX (List.getElem?_eq_getElem hib)];rfl
     refine G.rp 2 fun R hR=>?_
     refine D.ak (hsb.mono mup) rfl rfl rfl rfl rfl rfl rfl rfl rfl rfl om_ hrb fl_ (fun p35 hp35=>?_)
     refine D.ac hp35 ?_
     refine D.q8 1 1 5 6 8 9 22 23 24 hR ?_
     refine G.ar 0 (Mem.le.refl _) (h_8 1 5 6 8 9 22 23 24) ⟨trivial,rfl,rfl⟩
    ·have hz:gD lb i=0:=by
      have h:¬ i<lb.length:=by simpa using h32
      unfold gD
      rw [List.getD_eq_getElem?_getD,List.getElem?_eq_none om_];rfl
     refine G.ar 0 (Mem.le.refl _) (h_8 1 5 6 8 9 22 23 24) ⟨trivial,by rw [hz];rfl,rfl⟩
   ·obtain ⟨htr,rfl,rfl⟩:=hI
    refine G.z8 1 1 5 6 8 9 22 23 24 ?_
    refine G.rp 3 fun R hR=>?_
    refine D.aj (add32_fn _ (gD la i) (gD lb i) cy (gD_lt hdla i) (gD_lt hdlb i) hcy) ?_
    refine D.q7 5 1 5 6 10 22 23 24 hR ?_
    refine G.rp 2 fun R hR=>?_
    refine D.af [encW ((gD la i+gD lb i+cy) % B32)] (fun p46 C46 hle46 hs46=>?_)
    refine D.append (j:=0) rfl rfl rfl rfl rfl rfl rfl rfl rfl rfl rfl hs46 rfl (by simp only [List.length_singleton,maxLen];omega) (by show (i+1)*4<=_;omega) fl_ (fun v47=>?_)
    refine D.q6 1 1 5 6 22 23 24 hR ?_
    refine G.rg fun R hR=>?_
    refine D.aq _ ?_
    refine D.q6 1 1 5 6 22 23 24 hR ?_
    refine G.aM (L':=[.arr v47 165 1 (i+1) ((out++[(gD la i+gD lb i+cy) % B32]).map encW).flatten]) (by simp [encW]) ?_
    refine G.ap (m':=la.length-(i+1)) om_ mup (h_6 1 5 6 22 23 24) ⟨i+1,out++[(gD la i+gD lb i+cy) % B32],(gD la i+gD lb i+cy) / B32,v47,⟨by omega,by simp [hol],hod.snoc (Nat.mod_lt _ (by decide)),carry_le (gD_lt hdla i) (gD_lt hdlb i) hcy,add_step hol hval⟩,rfl,rfl,rfl⟩
  ·have hil:i=la.length:=by
    have:¬ i<la.length:=by simpa using h25
    omega
   refine G.aA [(4,3)] rfl (fun R hR=>?_)
   refine D.ps 2 ?_
   refine D.af [encW cy] (fun p51 C51 hle51 hs51=>?_)
   refine D.append (j:=0) rfl rfl rfl rfl rfl rfl rfl rfl rfl rfl rfl hs51 rfl (by simp only [List.length_singleton,maxLen];omega) (by show (i+1)*4<=_;omega) fl_ (fun v52=>?_)
   refine D.call (trimO_fn _ _ (out++[cy]) (n:=i+1) (by simp [hol])) rfl (.inr (by decide)) rfl rfl rfl rfl rfl rfl (by rw [List.map_append,List.flatten_append];exact List.Perm.refl _) fl_ (fun v53 C53 L53 hle53 hq53=>?_)
   obtain ⟨rfl,hu⟩:=hq53
   refine D.q1 1 4 hR ?_
   refine G.rf ?_
   refine ⟨rfl,trimD (out++[cy]),eh (hod.snoc (Nat.lt_of_le_of_lt hcy (by decide))), ?_,hu⟩
   rw [eg,valD_snoc,hol,hval,hil,List.take_length,List.take_of_length_le hll,hvv]

theorem valD_odd (l:List Nat):valD l % 2=gD l 0 % 2:=by
 cases l with
 | nil=>rfl
 | cons x l =>
  show (x+4294967296*valD l) % 2=x % 2
  omega
theorem odd_fn (C:Mem)(v:Value)(l:List Nat)(hv:Sl C 1 v (l.map encW))(hd:DigD l):Gives cx.P 145 [v] C (.bool (decide (valD l % 2=1))):=by
 obtain ⟨A0,c0,rfl,_⟩:=id hv
 simp only [List.length_map] at hv ⊢
 have hg0:=gD_lt hd 0
 have hB:B32=4294967296:=rfl
 have hrow:0<l.length->(l.map encW)[(0:Int).toNat]?=some (encW (gD l 0)):=fun h=>by
  rw [show (0:Int).toNat=0 from rfl,List.getElem?_map,List.getElem?_eq_getElem h,dX (List.getElem?_eq_getElem h)];rfl
 refine Fn.it kr_ Tryz.func145 13 fun w0=>?_
 refine G.z1 1 0 ?_
 refine G.rp 5 fun R hR=>?_
 refine D.index rfl rfl rfl rfl rfl rfl rfl rfl rfl rfl (fun hg=>⟨hv,(by have h:decide ((0:Int)<(l.length:Int))=true:=hg.1;simp at h;omega),hrow (by have h:decide ((0:Int)<(l.length:Int))=true:=hg.1;simp at h;omega)⟩) fl_ rfl (fun p8 hp8=>?_)
 refine D.aK rfl rfl rfl rfl rfl rfl hp8 rfl rfl rfl ?_
 refine D.andW ((gD l 0)) (1) rfl rfl rfl rfl rfl rfl rfl rfl om_ om_ rfl rfl ?_
 refine D.ae ?_
 refine D.au ?_
 refine D.q1 1 2 hR ?_;clear hR R
 refine G.rf ?_
 refine ⟨?_,rfl⟩
 rw [valD_odd,Nat.and_one_is_mod]
 cases l with
 | nil=>rfl
 | cons x l =>
  have h1:decide ((0:Int)<((x::l).length:Nat))=true:=by simp
  rw [h1,Bool.true_and]
  congr 1
  rw [Bool.eq_iff_iff,beq_iff_eq,decide_eq_true_eq]
  omega

abbrev qW (b n c:Nat):Value:=.slice (some ⟨b,0,none⟩) n c
theorem half_or {x y:Nat}(hx:x<4294967296):x / 2 ^ 1 ||| y*2 ^ 31 % 4294967296=x / 2+y % 2*2147483648:=by
 have e:y*2 ^ 31 % 4294967296=2 ^ 31*(y % 2):=by omega
 rw [e,Nat.or_comm,<- Nat.two_pow_add_eq_or_of_lt om_]
 omega
theorem zrow_W (n:Nat):zrow [Value.int .u32 0] n=((List.replicate n 0).map encW).flatten:=by
 rw [bR,List.map_replicate];rfl
theorem set_take {l:List Nat}{i z:Nat}(h:i<l.length):(l.set i z).take (i+1)=l.take i++[z]:=by
 rw [List.take_add_one,List.take_set_of_le (Nat.le_refl _),List.getElem?_set_self h];rfl
theorem half_fn (C:Mem)(v:Value)(l:List Nat)(hv:Sl C 1 v (l.map encW))(hd:DigD l)(hl:l.length<=100000000):Pur cx.P 146 [v] C fun u C'=>NatC C' u (valD l / 2):=by
 obtain ⟨A0,c0,rfl,_⟩:=id hv
 simp only [List.length_map] at hv ⊢
 have hB:B32=4294967296:=rfl
 refine Fn.it kr_ Tryz.func146 41 fun w0=>?_
 refine G.z1 1 0 ?_
 refine G.rp 2 fun R hR=>?_
 refine D.bu rfl rfl rfl rfl rfl rfl rfl rfl rfl (Nat.le_refl _) (by show 4*l.length<=281474976710656;omega) (by simp only [maxLen];omega) fl_ (fun b8=>?_)
 refine D.q2 1 0 3 hR ?_;clear hR R
 refine G.z5 3 0 3 9 10 11 ?_
 refine G.aM (L':=[.arr (qW b8 l.length l.length) 165 1 l.length ((List.replicate l.length 0).map encW).flatten]) (by rw [<- zrow_W];rfl) ?_
 refine G.loop (fun fr C' L' μ=>∃ (i:Nat)(o:List Nat),(i<=l.length/\o.length=l.length/\DigD o/\2*valD (o.take i)+gD l 0 % 2=valD (l.take i)+B32 ^ i*(gD l i % 2))/\fr=[(0,[],.slice A0 l.length c0),(3,[],qW b8 l.length l.length),(9,[],.slice A0 l.length c0),(10,[],.int .i64 l.length),(11,[],.int .i64 i)]/\L'=[.arr (qW b8 l.length l.length) 165 1 l.length (o.map encW).flatten]/\μ=l.length-i) (h_5 0 3 9 10 11) ⟨0,List.replicate l.length 0,⟨Nat.zero_le _,List.length_replicate,(fun x hx=>by rw [List.eq_of_mem_replicate hx];decide),by simp [valD]⟩,rfl,rfl,rfl⟩ (fun fr C0' L0' m hle0 hI=>?_)
 obtain ⟨i,o,⟨hi,hol,hod,hval⟩,rfl,rfl,rfl⟩:=hI
 refine G.z6 1 0 3 9 10 11 12 ?_
 refine G.cd (fun h12=>?_) fun h12=>?_
 ·have hil:i<l.length:=by simpa using h12
  have hra:(l.map encW)[i]?=some (encW (gD l i)):=by rw [List.getElem?_map,List.getElem?_eq_getElem hil,dX (List.getElem?_eq_getElem hil)];rfl
  have hx:=gD_lt hd i
  have hy:=gD_lt hd (i+1)
  refine G.rp 1 fun R hR=>?_
  refine D.ak (hv.mono mup) rfl rfl rfl rfl rfl rfl rfl rfl rfl rfl om_ hra fl_ (fun p14 hp14=>?_)
  refine D.ac hp14 ?_
  refine D.q7 2 0 3 4 5 9 10 11 hR ?_;clear hR R
  refine G.rp 3 fun R hR=>?_
  refine D.shrW ((gD l i)) (1) rfl rfl rfl rfl rfl rfl rfl rfl om_ rfl rfl ?_
  refine D.aD (i*1) rfl rfl rfl rfl rfl rfl rfl rfl rfl rfl (fun _=>⟨by omega,by omega,rfl⟩) rfl rfl ?_
  refine D.aE (j:=0) rfl rfl rfl rfl rfl rfl rfl rfl rfl rfl rfl (by show i*1+1<=_;rw [aW cE,hol];omega) ?_
  refine D.e6 0 3 4 9 10 11 hR ?_;clear hR R
  refine G.aM (L':=[.arr (qW b8 l.length l.length) 165 1 l.length ((o.set i (gD l i / 2 ^ 1)).map encW).flatten]) (by rw [<- aL cE _ (by omega:i<o.length)];rfl) ?_
  refine G.rp 1 fun R hR=>?_
  refine D.aq _ ?_
  refine D.q7 3 0 3 4 9 10 11 25 hR ?_;clear hR R
  refine G.cd (fun h25=>?_) fun h25=>?_
  ·have hil2:i+1<l.length:=by
    have:(i:Int)+1<l.length:=by simpa using h25
    omega
   have hrb:(l.map encW)[((i:Int)+1).toNat]?=some (encW (gD l (i+1))):=by
    rw [show ((i:Int)+1).toNat=i+1 by omega,List.getElem?_map,List.getElem?_eq_getElem hil2,dX (List.getElem?_eq_getElem hil2)];rfl
   have hz:(o.set i (gD l i / 2 ^ 1))[i]?=some (gD l i / 2 ^ 1):=List.getElem?_set_self om_
   refine G.aH [0,1,2,3,4,5,6,7,8,9,10,11,12] [] rfl kr_ (fun R hB hR=>?_)
   refine D.ps 2 ?_
   refine D.aD (i*1) rfl rfl rfl rfl rfl rfl rfl rfl rfl rfl (fun _=>⟨by omega,by omega,rfl⟩) rfl rfl ?_
   refine D.aT (.head _) rfl rfl rfl rfl rfl rfl (fun _=>(by rw [bU cE hz];rfl)) rfl rfl ?_
   refine D.ps 2 ?_
   refine D.aq _ ?_
   refine D.ak (hv.mono mup) rfl rfl rfl rfl rfl rfl rfl rfl rfl rfl om_ hrb fl_ (fun p33 hp33=>?_)
   refine D.ac hp33 ?_
   refine D.shlW ((gD l (i+1))) (31) rfl rfl rfl rfl rfl rfl rfl rfl om_ rfl rfl ?_
   refine D.orW ((gD l i / 2 ^ 1)) ((gD l (i+1)*2 ^ 31 % 4294967296)) rfl rfl rfl rfl rfl rfl rfl rfl om_ om_ rfl rfl ?_
   refine D.aD (i*1) rfl rfl rfl rfl rfl rfl rfl rfl rfl rfl (fun _=>⟨by omega,by omega,rfl⟩) rfl rfl ?_
   refine D.aE (j:=0) rfl rfl rfl rfl rfl rfl rfl rfl rfl rfl rfl (by show i*1+1<=_;rw [aW cE,List.length_set,hol];omega) ?_
   refine D.e5 0 3 9 10 11 hR ?_;clear hR hB R
   refine G.rg fun R hR=>?_
   refine D.aq _ ?_
   refine D.q5 1 0 3 9 10 11 hR ?_;clear hR R
   rw [half_or hx]
   refine G.aM (L':=[.arr (qW b8 l.length l.length) 165 1 l.length (((o.set i (gD l i / 2 ^ 1)).set i (gD l i / 2+gD l (i+1) % 2*2147483648)).map encW).flatten]) (by rw [<- aL cE (l:=o.set i (gD l i / 2 ^ 1)) (i:=i) (gD l i / 2+gD l (i+1) % 2*2147483648) (by simp;omega)];rfl) ?_
   rw [List.set_set]
   refine G.ap (m':=l.length-(i+1)) om_ mup (h_5 0 3 9 10 11) ⟨i+1,o.set i (gD l i / 2+gD l (i+1) % 2*2147483648),⟨by omega,by simp [hol],hod.set om_,by rw [set_take om_];exact half_step (by rw [List.length_take];omega) hval⟩,rfl,rfl,rfl⟩
  ·have hz:gD l (i+1)=0:=by
    have h:¬ (i:Int)+1<l.length:=by simpa using h25
    unfold gD
    rw [List.getD_eq_getElem?_getD,List.getElem?_eq_none om_];rfl
   refine G.rg fun R hR=>?_
   refine D.aq _ ?_
   refine D.q5 1 0 3 9 10 11 hR ?_;clear hR R
   rw [show gD l i / 2 ^ 1=gD l i / 2+gD l (i+1) % 2*2147483648 by rw [hz];simp]
   refine G.ap (m':=l.length-(i+1)) om_ mup (h_5 0 3 9 10 11) ⟨i+1,o.set i (gD l i / 2+gD l (i+1) % 2*2147483648),⟨by omega,by simp [hol],hod.set om_,by rw [set_take om_];exact half_step (by rw [List.length_take];omega) hval⟩,rfl,rfl,rfl⟩
 ·have hil:i=l.length:=by
   have:¬ i<l.length:=by simpa using h12
   omega
  refine G.aA [(1,3)] rfl (fun R hR=>?_)
  refine D.ae ?_
  refine D.call (trimO_fn _ _ o hol) rfl (.inr (by decide)) rfl rfl rfl rfl rfl rfl (List.Perm.refl _) fl_ (fun v40 C40 L40 hle40 hq40=>?_)
  obtain ⟨rfl,hu⟩:=hq40
  refine D.q1 1 2 hR ?_;clear hR R
  refine G.rf ?_
  refine ⟨rfl,trimD o,eh hod, ?_,hu⟩
  have hg:gD l l.length=0:=by
   unfold gD
   rw [List.getD_eq_getElem?_getD,List.getElem?_eq_none (Nat.le_refl _)];rfl
  rw [hil,List.take_length,List.take_of_length_le om_,hg] at hval
  rw [eg]
  simp at hval
  omega

theorem sub32_fn (C:Mem)(x y c:Nat)(hx:x<B32)(hy:y<B32)(hc:c<=1):Gives cx.P 125 [.int .u32 x,.int .u32 y,.int .u32 c] C (.tuple #[.int .u32 (difD x y c:Nat),.int .u32 (borD x y c:Nat)]):=by
 have hB:B32=4294967296:=rfl
 have hd:=difD_lt hx hy hc
 have hxy:x ^^^ y<2 ^ 32:=Nat.xor_lt_two_pow (show x<2 ^ 32 from hx) (show y<2 ^ 32 from hy)
 have hx1:4294967295-x<2 ^ 32:=by omega
 have hx2:4294967295-(x ^^^ y)<2 ^ 32:=by omega
 have ha1:(4294967295-x) &&& y<2 ^ 32:=Nat.and_lt_two_pow _ (show y<2 ^ 32 from hy)
 have ha2:(4294967295-(x ^^^ y)) &&& difD x y c<2 ^ 32:=Nat.and_lt_two_pow _ (show difD x y c<2 ^ 32 from hd)
 refine Fn.it kr_ Tryz.func125 25 fun w0=>?_
 refine G.z3 2 0 1 2 ?_
 refine G.rp 2 fun R hR=>?_
 refine D.int ((((x+4294967296-y) % 4294967296:Nat):Int)) rfl rfl rfl rfl (by rw [IntKind.wrap_u32];omega) rfl rfl ?_
 refine D.ae ?_
 refine D.int (((difD x y c:Nat):Int)) rfl rfl rfl rfl (by rw [IntKind.wrap_u32];unfold difD borD;split <;> omega) rfl rfl ?_
 refine D.q3 1 0 1 6 hR ?_;clear hR R
 refine G.rp 1 fun R hR=>?_
 refine D.notW (x) rfl rfl rfl rfl rfl rfl om_ rfl rfl ?_
 refine D.ae ?_
 refine D.andW ((4294967295-x)) (y) rfl rfl rfl rfl rfl rfl rfl rfl om_ om_ rfl rfl ?_
 refine D.ps 2 ?_
 refine D.xorW (x) (y) rfl rfl rfl rfl rfl rfl rfl rfl om_ om_ rfl rfl ?_
 refine D.notW ((x ^^^ y)) rfl rfl rfl rfl rfl rfl om_ rfl rfl ?_
 refine D.ae ?_
 refine D.andW ((4294967295-(x ^^^ y))) ((difD x y c)) rfl rfl rfl rfl rfl rfl rfl rfl om_ om_ rfl rfl ?_
 refine D.orW (((4294967295-x) &&& y)) (((4294967295-(x ^^^ y)) &&& difD x y c)) rfl rfl rfl rfl rfl rfl rfl rfl om_ om_ rfl rfl ?_
 refine D.shrW ((((4294967295-x) &&& y) ||| ((4294967295-(x ^^^ y)) &&& difD x y c))) (31) rfl rfl rfl rfl rfl rfl rfl rfl om_ rfl rfl ?_
 refine D.q2 1 6 7 hR ?_;clear hR R
 refine G.ay (G.dropAll (G.bg rfl rfl rfl ?_))
 exact ⟨by rw [borrow_bit hx hy hc],rfl⟩
theorem nsub_fn (C:Mem)(va vb:Value)(a b:List Nat)(ha:Sl C 1 va (a.map encW))(hb:Sl C 1 vb (b.map encW))(hda:DigD a)(hdb:DigD b)(hla:a.length<=100000000)(hlb:b.length<=a.length)(hle:valD b<=valD a) :
  Pur cx.P 70 [va,vb] C fun u C'=>NatC C' u (valD a-valD b):=by
 obtain ⟨A0,c0,rfl,_⟩:=id ha
 obtain ⟨B0,d0,rfl,_⟩:=id hb
 simp only [List.length_map] at ha hb ⊢
 refine Fn.it kr_ Tryz.func70 43 fun w0=>?_
 refine G.z2 1 0 1 ?_
 refine G.rp 2 fun R hR=>?_
 refine D.bu rfl rfl rfl rfl rfl rfl rfl rfl rfl (Nat.zero_le _) (by show 4*a.length<=281474976710656;omega) (by simp only [maxLen];omega) fl_ (fun b13=>?_)
 refine D.q3 1 0 1 5 hR ?_
 refine G.z4 1 0 1 5 6 ?_
 refine G.z6 3 1 5 6 14 15 16 ?_
 refine G.loop (fun fr C' L' μ=>∃ (i:Nat)(out:List Nat)(cy:Nat)(w:Value),(i<=a.length/\out.length=i/\DigD out/\cy<=1/\valD out+valD (b.take i)=valD (a.take i)+B32 ^ i*cy)/\fr=[(1,[],.slice B0 b.length d0),(5,[],w),(6,[],.int .u32 cy),(14,[],.slice A0 a.length c0),(15,[],.int .i64 a.length),(16,[],.int .i64 i)]/\L'=[.arr w 165 1 i (out.map encW).flatten]/\μ=a.length-i) (h_6 1 5 6 14 15 16) ⟨0,[],0,_,⟨Nat.zero_le _,rfl,(fun x hx=>(by cases hx)),by omega,rfl⟩,rfl,rfl,rfl⟩ (fun fr C0' L0' m hle0 hI=>?_)
 obtain ⟨i,out,cy,w,⟨hi,hol,hod,hcy,hval⟩,rfl,rfl,rfl⟩:=hI
 refine G.z7 1 1 5 6 14 15 16 17 ?_
 refine G.cd (fun h17=>?_) fun h17=>?_
 ·have hil:i<a.length:=by simpa using h17
  have hra:(a.map encW)[i]?=some (encW (gD a i)):=by rw [List.getElem?_map,List.getElem?_eq_getElem hil,dX (List.getElem?_eq_getElem hil)];rfl
  refine G.rp 1 fun R hR=>?_
  refine D.ak (ha.mono mup) rfl rfl rfl rfl rfl rfl rfl rfl rfl rfl om_ hra fl_ (fun p19 hp19=>?_)
  refine D.ac hp19 ?_
  refine D.q8 2 1 5 6 7 8 14 15 16 hR ?_
  refine G.z9 1 1 5 6 7 8 9 14 15 16 ?_
  refine G.z10 4 1 5 6 7 8 9 14 15 16 24 ?_
  refine G.bW (fun fr C' L' μ=>(True)/\fr=[(1,[],.slice B0 b.length d0),(5,[],w),(6,[],.int .u32 cy),(8,[],.int .u32 (gD a i)),(9,[],.int .u32 (gD b i)),(14,[],.slice A0 a.length c0),(15,[],.int .i64 a.length),(16,[],.int .i64 i)]/\L'=[.arr w 165 1 i (out.map encW).flatten]) ?_ (fun fr C24 L24 μ hle24 hI=>?_)
  ·refine G.cd (fun h24=>?_) fun h24=>?_
   ·have hib:i<b.length:=by simpa using h24
    have hrb:(b.map encW)[i]?=some (encW (gD b i)):=by rw [List.getElem?_map,List.getElem?_eq_getElem hib,dX (List.getElem?_eq_getElem hib)];rfl
    refine G.rp 2 fun R hR=>?_
    refine D.ak (hb.mono mup) rfl rfl rfl rfl rfl rfl rfl rfl rfl rfl om_ hrb fl_ (fun p27 hp27=>?_)
    refine D.ac hp27 ?_
    refine D.q8 1 1 5 6 8 9 14 15 16 hR ?_
    refine G.ar 0 (Mem.le.refl _) (h_8 1 5 6 8 9 14 15 16) ⟨trivial,rfl,rfl⟩
   ·have hz:gD b i=0:=by
     have h:¬ i<b.length:=by simpa using h24
     unfold gD
     rw [List.getD_eq_getElem?_getD,List.getElem?_eq_none om_];rfl
    refine G.ar 0 (Mem.le.refl _) (h_8 1 5 6 8 9 14 15 16) ⟨trivial,by rw [hz];rfl,rfl⟩
  ·obtain ⟨htr,rfl,rfl⟩:=hI
   refine G.z8 1 1 5 6 8 9 14 15 16 ?_
   refine G.rp 3 fun R hR=>?_
   refine D.aj (sub32_fn _ (gD a i) (gD b i) cy (gD_lt hda i) (gD_lt hdb i) hcy) ?_
   refine D.q7 5 1 5 6 10 14 15 16 hR ?_
   refine G.rp 2 fun R hR=>?_
   refine D.af [encW (difD (gD a i) (gD b i) cy)] (fun p38 C38 hle38 hs38=>?_)
   refine D.append (j:=0) rfl rfl rfl rfl rfl rfl rfl rfl rfl rfl rfl hs38 rfl (by simp only [List.length_singleton,maxLen];omega) (by show (i+1)*4<=_;omega) fl_ (fun v39=>?_)
   refine D.q6 1 1 5 6 14 15 16 hR ?_
   refine G.rg fun R hR=>?_
   refine D.aq _ ?_
   refine D.q6 1 1 5 6 14 15 16 hR ?_
   refine G.aM (L':=[.arr v39 165 1 (i+1) ((out++[difD (gD a i) (gD b i) cy]).map encW).flatten]) (by simp [encW]) ?_
   refine G.ap (m':=a.length-(i+1)) om_ mup (h_6 1 5 6 14 15 16) ⟨i+1,out++[difD (gD a i) (gD b i) cy],borD (gD a i) (gD b i) cy,v39,⟨by omega,by simp [hol],hod.snoc (difD_lt (gD_lt hda i) (gD_lt hdb i) hcy),borD_le _ _ _,sub_step hdb hcy hol hval⟩,rfl,rfl,rfl⟩
 ·have hil:i=a.length:=by
   have:¬ i<a.length:=by simpa using h17
   omega
  refine G.aA [(1,3)] rfl (fun R hR=>?_)
  refine D.ae ?_
  refine D.call (trimO_fn _ _ out (n:=i) hol) rfl (.inr (by decide)) rfl rfl rfl rfl rfl rfl (List.Perm.refl _) fl_ (fun v42 C42 L42 hle42 hq42=>?_)
  obtain ⟨rfl,hu⟩:=hq42
  refine D.q1 1 4 hR ?_
  refine G.rf ?_
  refine ⟨rfl,trimD out,eh hod, ?_,hu⟩
  rw [hil,List.take_length,List.take_of_length_le hlb] at hval
  have h0:=valD_lt hod
  rw [hol,hil] at h0
  have hc0:cy=0:=by
   rcases Nat.le_one_iff_eq_zero_or_eq_one.1 hcy with h | h
   ·exact h
   ·rw [h,Nat.mul_one] at hval;omega
  rw [hc0,Nat.mul_zero] at hval
  rw [eg]
  omega

theorem gD_set_ne {l:List Nat}{i j z:Nat}(h:i≠j):gD (l.set i z) j=gD l j:=by
 unfold gD;rw [List.getD_eq_getElem?_getD,List.getD_eq_getElem?_getD,List.getElem?_set_ne h]
theorem gD_get {l:List Nat}{i:Nat}(h:i<l.length):l[i]?=some (gD l i):=by rw [List.getElem?_eq_getElem h,dX (List.getElem?_eq_getElem h)]
theorem gD_zeros (n j:Nat):gD (List.replicate n 0) j=0:=by
 unfold gD;rw [List.getD_eq_getElem?_getD,List.getElem?_replicate];split <;> rfl
theorem nmul_fn (C:Mem)(va vb:Value)(a b:List Nat)(ha:Sl C 1 va (a.map encW))(hb:Sl C 1 vb (b.map encW))(hda:DigD a)(hdb:DigD b)(hla:a.length<=10000000)(hlb:b.length<=10000000) :
  Pur cx.P 66 [va,vb] C fun u C'=>NatC C' u (valD a*valD b):=by
 obtain ⟨A0,c0,rfl,_⟩:=id ha
 obtain ⟨B0,d0,rfl,_⟩:=id hb
 simp only [List.length_map] at ha hb ⊢
 have hB:B32=4294967296:=rfl
 refine Fn.it kr_ Tryz.func66 67 fun w0=>?_
 refine G.z2 1 0 1 ?_
 refine G.rp 4 fun R hR=>?_
 refine D.cR (((a.length+b.length:Nat):Int)) rfl rfl rfl rfl om_ om_ om_ rfl rfl ?_
 refine D.bu rfl rfl rfl rfl rfl rfl rfl rfl rfl (Nat.le_refl _) (by show 4*(a.length+b.length)<=281474976710656;omega) (by simp only [maxLen];omega) fl_ (fun b16=>?_)
 refine D.q3 1 0 1 5 hR ?_;clear hR R
 refine G.z5 3 1 5 17 18 19 ?_
 refine G.aM (L':=[.arr (qW b16 (a.length+b.length) (a.length+b.length)) 165 1 (a.length+b.length) ((List.replicate (a.length+b.length) 0).map encW).flatten]) (by rw [<- zrow_W];rfl) ?_
 refine G.loop (fun fr C' L' μ=>∃ (i:Nat)(o:List Nat),(i<=a.length/\o.length=a.length+b.length/\DigD o/\valD o=valD (a.take i)*valD b/\∀ j,i+b.length<=j->gD o j=0)/\fr=[(1,[],.slice B0 b.length d0),(5,[],qW b16 (a.length+b.length) (a.length+b.length)),(17,[],.slice A0 a.length c0),(18,[],.int .i64 a.length),(19,[],.int .i64 i)]/\L'=[.arr (qW b16 (a.length+b.length) (a.length+b.length)) 165 1 (a.length+b.length) (o.map encW).flatten]/\μ=a.length-i) (h_5 1 5 17 18 19) ⟨0,List.replicate (a.length+b.length) 0,⟨Nat.zero_le _,List.length_replicate,(fun x hx=>by rw [List.eq_of_mem_replicate hx];decide),by rw [valD_zeros (fun x hx=>List.eq_of_mem_replicate hx)];simp [valD],fun j _=>gD_zeros _ j⟩,rfl,rfl,rfl⟩ (fun fr C0' L0' m hle0 hI=>?_)
 obtain ⟨i,o,⟨hi,hol,hod,hval,hz⟩,rfl,rfl,rfl⟩:=hI
 refine G.z6 1 1 5 17 18 19 20 ?_
 refine G.cd (fun h20=>?_) fun h20=>?_
 ·have hil:i<a.length:=by simpa using h20
  have hra:(a.map encW)[i]?=some (encW (gD a i)):=by rw [List.getElem?_map,List.getElem?_eq_getElem hil,dX (List.getElem?_eq_getElem hil)];rfl
  have hx:=gD_lt hda i
  refine G.rp 1 fun R hR=>?_
  refine D.ak (ha.mono mup) rfl rfl rfl rfl rfl rfl rfl rfl rfl rfl om_ hra fl_ (fun p22 hp22=>?_)
  refine D.ac hp22 ?_
  refine D.q7 2 1 5 6 7 17 18 19 hR ?_;clear hR R
  refine G.z8 1 1 5 6 7 8 17 18 19 ?_
  refine G.z11 3 1 5 6 7 8 17 18 19 24 25 26 ?_
  refine G.loop (fun fr C' L' μ=>∃ (k:Nat)(q:List Nat)(c:Nat),(k<=b.length/\q.length=a.length+b.length/\DigD q/\c<B32/\valD q+B32 ^ (i+k)*c=valD o+B32 ^ i*(gD a i*valD (b.take k))/\∀ j,i+b.length<=j->gD q j=0)/\fr=[(1,[],.slice B0 b.length d0),(5,[],qW b16 (a.length+b.length) (a.length+b.length)),(6,[],.int .i64 i),(7,[],.int .u32 (gD a i)),(8,[],.int .u64 c),(17,[],.slice A0 a.length c0),(18,[],.int .i64 a.length),(19,[],.int .i64 i),(24,[],.slice B0 b.length d0),(25,[],.int .i64 b.length),(26,[],.int .i64 k)]/\L'=[.arr (qW b16 (a.length+b.length) (a.length+b.length)) 165 1 (a.length+b.length) (q.map encW).flatten]/\μ=b.length-k) (h_11 1 5 6 7 8 17 18 19 24 25 26) ⟨0,o,0,⟨Nat.zero_le _,hol,hod,by decide,by simp [valD],hz⟩,rfl,rfl,rfl⟩ (fun fr C1' L1' m hle1 hI=>?_)
  obtain ⟨k,q,c,⟨hk,hql,hqd,hc,hqv,hqz⟩,rfl,rfl,rfl⟩:=hI
  refine G.z12 1 1 5 6 7 8 17 18 19 24 25 26 27 ?_
  refine G.cd (fun h27=>?_) fun h27=>?_
  ·have hkl:k<b.length:=by simpa using h27
   have hrb:(b.map encW)[k]?=some (encW (gD b k)):=by rw [List.getElem?_map,List.getElem?_eq_getElem hkl,dX (List.getElem?_eq_getElem hkl)];rfl
   have hy:=gD_lt hdb k
   have ho:=gD_lt hqd (i+k)
   have hget:q[i+k]?=some (gD q (i+k)):=gD_get om_
   have hbound:=mul_bound hc hx hy ho
   rw [show B32*B32=18446744073709551616 from rfl] at hbound
   refine G.rp 1 fun R hR=>?_
   refine D.ak (hb.mono mup) rfl rfl rfl rfl rfl rfl rfl rfl rfl rfl om_ hrb fl_ (fun p29 hp29=>?_)
   refine D.ac hp29 ?_
   refine D.q13 2 1 5 6 7 8 9 10 17 18 19 24 25 26 hR ?_;clear hR R
   refine G.rp 2 fun R hR=>?_
   refine D.bT (c:=((gD a i:Nat):Int)) rfl rfl rfl rfl rfl rfl rfl rfl (by rw [IntKind.wrap_u64];omega) fl_ ?_
   refine D.ae ?_
   refine D.bT (c:=((gD b k:Nat):Int)) rfl rfl rfl rfl rfl rfl rfl rfl (by rw [IntKind.wrap_u64];omega) fl_ ?_
   refine D.int (((gD a i*gD b k:Nat):Int)) rfl rfl rfl rfl (by rw [<- Int.natCast_mul,IntKind.wrap_u64];omega) rfl rfl ?_
   refine D.ps 3 ?_
   refine D.cR (((i+k:Nat):Int)) rfl rfl rfl rfl om_ om_ om_ rfl rfl ?_
   refine D.aD ((i+k)*1) rfl rfl rfl rfl rfl rfl rfl rfl rfl rfl (fun _=>⟨by omega,by omega,rfl⟩) rfl rfl ?_
   refine D.aT (.head _) rfl rfl rfl rfl rfl rfl (fun _=>(by rw [bU cE hget];rfl)) rfl rfl ?_
   refine D.bT (c:=((gD q (i+k):Nat):Int)) rfl rfl rfl rfl rfl rfl rfl rfl (by rw [IntKind.wrap_u64];omega) fl_ ?_
   refine D.int (((gD a i*gD b k+gD q (i+k):Nat):Int)) rfl rfl rfl rfl (by rw [IntKind.wrap_u64];omega) rfl rfl ?_
   refine D.int (((c+gD a i*gD b k+gD q (i+k):Nat):Int)) rfl rfl rfl rfl (by rw [IntKind.wrap_u64];omega) rfl rfl ?_
   refine D.q12 1 1 5 6 7 8 9 17 18 19 24 25 26 hR ?_;clear hR R
   refine G.rp 3 fun R hR=>?_
   refine D.cR (((i+k:Nat):Int)) rfl rfl rfl rfl om_ om_ om_ rfl rfl ?_
   refine D.ae ?_
   refine D.bT (c:=(((c+gD a i*gD b k+gD q (i+k)) % 4294967296:Nat):Int)) rfl rfl rfl rfl rfl rfl rfl rfl (by rw [IntKind.wrap_u32];omega) fl_ ?_
   refine D.aD ((i+k)*1) rfl rfl rfl rfl rfl rfl rfl rfl rfl rfl (fun _=>⟨by omega,by omega,rfl⟩) rfl rfl ?_
   refine D.aE (j:=0) rfl rfl rfl rfl rfl rfl rfl rfl rfl rfl rfl (by show (i+k)*1+1<=_;rw [aW cE,hql];omega) ?_
   refine D.e11 1 5 6 7 8 17 18 19 24 25 26 hR ?_;clear hR R
   refine G.rp 1 fun R hR=>?_
   refine D.shrU ((c+gD a i*gD b k+gD q (i+k))) (32) rfl rfl rfl rfl rfl rfl rfl rfl om_ rfl rfl ?_
   refine D.q11 1 1 5 6 7 8 17 18 19 24 25 26 hR ?_;clear hR R
   refine G.rg fun R hR=>?_
   refine D.aq _ ?_
   refine D.q11 1 1 5 6 7 8 17 18 19 24 25 26 hR ?_;clear hR R
   refine G.aM (L':=[.arr (qW b16 (a.length+b.length) (a.length+b.length)) 165 1 (a.length+b.length) ((q.set (i+k) ((c+gD a i*gD b k+gD q (i+k)) % B32)).map encW).flatten]) (by rw [<- aL cE _ (by omega:i+k<q.length)];rfl) ?_
   refine G.ap (m':=b.length-(k+1)) om_ mup (h_11 1 5 6 7 8 17 18 19 24 25 26) ⟨k+1,q.set (i+k) ((c+gD a i*gD b k+gD q (i+k)) % B32),(c+gD a i*gD b k+gD q (i+k)) / B32,⟨by omega,by simp [hql],hqd.set (Nat.mod_lt _ (by decide)),carry_lt hc hx hy ho,mul_step hget rfl hqv,fun j hj=>by rw [gD_set_ne om_];exact hqz j hj⟩,rfl,rfl,rfl⟩
  ·have hkl:k=b.length:=by
    have:¬ k<b.length:=by simpa using h27
    omega
   have hget:q[i+b.length]?=some 0:=by rw [<- hqz _ (Nat.le_refl _)];exact gD_get om_
   refine G.rp 4 fun R hR=>?_
   refine D.cR (((i+b.length:Nat):Int)) rfl rfl rfl rfl om_ om_ om_ rfl rfl ?_
   refine D.ae ?_
   refine D.bT (c:=((c:Nat):Int)) rfl rfl rfl rfl rfl rfl rfl rfl (by rw [IntKind.wrap_u32];omega) fl_ ?_
   refine D.aD ((i+b.length)*1) rfl rfl rfl rfl rfl rfl rfl rfl rfl rfl (fun _=>⟨by omega,by omega,rfl⟩) rfl rfl ?_
   refine D.aE (j:=0) rfl rfl rfl rfl rfl rfl rfl rfl rfl rfl rfl (by show (i+b.length)*1+1<=_;rw [aW cE,hql];omega) ?_
   refine D.e5 1 5 17 18 19 hR ?_;clear hR R
   refine G.rg fun R hR=>?_
   refine D.aq _ ?_
   refine D.q5 1 1 5 17 18 19 hR ?_;clear hR R
   refine G.aM (L':=[.arr (qW b16 (a.length+b.length) (a.length+b.length)) 165 1 (a.length+b.length) ((q.set (i+b.length) c).map encW).flatten]) (by rw [<- aL cE _ (by omega:i+b.length<q.length)];rfl) ?_
   refine G.ap (m':=a.length-(i+1)) om_ mup (h_5 1 5 17 18 19) ⟨i+1,q.set (i+b.length) c,⟨by omega,by simp [hql],hqd.set hc,by
    have h1:=valD_set (z:=c) hget
    rw [hkl,List.take_length] at hqv
    rw [valD_tk,Nat.add_mul,<- hval,Nat.mul_assoc]
    omega,fun j hj=>by rw [gD_set_ne om_];exact hqz j om_⟩,rfl,rfl,rfl⟩
 ·have hil:i=a.length:=by
   have:¬ i<a.length:=by simpa using h20
   omega
  refine G.aA [(1,3)] rfl (fun R hR=>?_)
  refine D.ae ?_
  refine D.call (trimO_fn _ _ o hol) rfl (.inr (by decide)) rfl rfl rfl rfl rfl rfl (List.Perm.refl _) fl_ (fun v66 C66 L66 hle66 hq66=>?_)
  obtain ⟨rfl,hu⟩:=hq66
  refine D.q1 1 4 hR ?_;clear hR R
  refine G.rf ?_
  refine ⟨rfl,trimD o,eh hod, ?_,hu⟩
  rw [eg,hval,hil,List.take_length]

theorem NatC.one {C:Mem}{v:Value}{l:List Nat}(hc:CanD l)(h:Sl C 1 v (l.map encW)):NatC C v (valD l):=⟨l,hc,rfl,h⟩
theorem natAdd {C:Mem}{u v:Value}{m n k:Nat}(hu:NatC C u m)(hv:NatC C v n)(hm:Sm k m)(hn:Sm k n)(hk:k<=10000000):Pur cx.P 68 [u,v] C fun w D=>NatC D w (m+n):=by
 obtain ⟨a,ha,rfl,hsa⟩:=hu
 obtain ⟨b,hb,rfl,hsb⟩:=hv
 exact nadd_fn C u v a b hsa hsb ha.1 hb.1 (by have:=hm.len ha;omega) (by have:=hn.len hb;omega)
theorem natSub {C:Mem}{u v:Value}{m n k:Nat}(hu:NatC C u m)(hv:NatC C v n)(hm:Sm k m)(hn:n<=m)(hk:k<=10000000):Pur cx.P 70 [u,v] C fun w D=>NatC D w (m-n):=by
 obtain ⟨a,ha,rfl,hsa⟩:=hu
 obtain ⟨b,hb,rfl,hsb⟩:=hv
 refine nsub_fn C u v a b hsa hsb ha.1 hb.1 (by have:=hm.len ha;omega) ?_ hn
 rcases Nat.lt_or_ge a.length b.length with h | h
 ·have:=len_lt ha.1 hb h;omega
 ·exact h
theorem natMul {C:Mem}{u v:Value}{m n j k:Nat}(hu:NatC C u m)(hv:NatC C v n)(hm:Sm j m)(hn:Sm k n)(hj:j<=10000000)(hk:k<=10000000):Pur cx.P 66 [u,v] C fun w D=>NatC D w (m*n):=by
 obtain ⟨a,ha,rfl,hsa⟩:=hu
 obtain ⟨b,hb,rfl,hsb⟩:=hv
 exact nmul_fn C u v a b hsa hsb ha.1 hb.1 (by have:=hm.len ha;omega) (by have:=hn.len hb;omega)
theorem natHalf {C:Mem}{u:Value}{m k:Nat}(hu:NatC C u m)(hm:Sm k m)(hk:k<=10000000):Pur cx.P 146 [u] C fun w D=>NatC D w (m / 2):=by
 obtain ⟨a,ha,rfl,hsa⟩:=hu
 exact half_fn C u a hsa ha.1 (by have:=hm.len ha;omega)
theorem natOdd {C:Mem}{u:Value}{m:Nat}(hu:NatC C u m):Gives cx.P 145 [u] C (.bool (decide (m % 2=1))):=by
 obtain ⟨a,ha,rfl,hsa⟩:=hu
 exact odd_fn C u a hsa ha.1
theorem natCmp {C:Mem}{u v:Value}{m n:Nat}(hu:NatC C u m)(hv:NatC C v n):Pur cx.P 69 [u,v] C fun w _=>∃ z:Int,w=.int .i64 z/\CmpRes m n z:=by
 obtain ⟨a,ha,rfl,hsa⟩:=hu
 obtain ⟨b,hb,rfl,hsb⟩:=hv
 exact compare_fn C u v a b hsa hsb ha hb
theorem NatC.form {C:Mem}{v:Value}{n:Nat}(h:NatC C v n):∃ A k c,v=.slice A k c/\(k=0 ↔ n=0)/\k<=9223372036854775807:=by
 obtain ⟨l,hl,rfl,hs⟩:=h
 obtain ⟨A,c,rfl,h1,h2,_⟩:=id hs
 refine ⟨A,l.length,c,by simp, ?_, ?_⟩
 ·rw [can_nil hl,List.length_eq_zero_iff]
 ·have hmx:maxLen<=9223372036854775807:=by simp [maxLen]
  simp only [List.length_map] at h1
  omega
theorem pow_sm {k m t x:Nat}(h:Sm k m)(hx:0<x)(hm:2 ^ t*x<=m):t<32*k:=by
 unfold Sm at h
 have e:B32 ^ k=2 ^ (32*k):=by rw [Nat.pow_mul]
 rw [e] at h
 have h1:2 ^ t*1<=2 ^ t*x:=Nat.mul_le_mul_left _ hx
 exact (Nat.pow_lt_pow_iff_right (by decide)).1 (by omega:2 ^ t<2 ^ (32*k))
theorem natGcd {C:Mem}{u v:Value}{m n k:Nat}(hu:NatC C u m)(hv:NatC C v n)(hm:Sm k m)(hn:Sm k n)(hk:k<=1000000)(hm0:0<m)(hn0:0<n):Pur cx.P 87 [u,v] C fun w D=>NatC D w (Nat.gcd m n):=by
 refine Fn.it kr_ Tryz.func87 50 fun w0=>?_
 refine G.z2 1 0 1 ?_
 refine G.z3 1 0 1 5 ?_
 refine G.loop (fun fr C' L' μ=>∃ (va vb:Value)(x y t:Nat),(NatC C' va x/\NatC C' vb y/\0<x/\0<y/\2 ^ t*Nat.gcd x y=Nat.gcd m n/\2 ^ t*x<=m/\x<=m/\y<=n)/\fr=[(0,[],va),(1,[],vb),(5,[],.int .i64 t)]/\L'=[]/\μ=x+1) (h_3 0 1 5) ⟨u,v,m,n,0,⟨hu,hv,hm0,hn0,by simp,by simp,Nat.le_refl _,Nat.le_refl _⟩,rfl,rfl,rfl⟩ (fun fr C0' L0' m hle0 hI=>?_)
 obtain ⟨va,vb,x,y,t,⟨hva,hvb,hx0,hy0,hg,hxm,hxm2,hyn⟩,rfl,rfl,rfl⟩:=hI
 have ht:=pow_sm hm hx0 hxm
 refine G.rp 1 fun R hR=>?_
 refine D.aj (natOdd (hva.mono mup)) ?_
 refine D.ps 3 ?_
 refine D.bn (fun _=>(natOdd (hvb.mono mup))) ?_
 refine D.ae ?_
 refine D.au ?_
 refine D.e4 0 1 5 13 hR ?_
 refine G.cd (fun h13=>?_) fun h13=>?_
 ·have hxe:x % 2=0/\y % 2=0:=by
   simp at h13;omega
  refine G.rp 1 fun R hR=>?_
  refine D.ax (natHalf (hva.mono mup) (hm.mono hxm2) om_) rfl rfl rfl rfl rfl rfl rfl fl_ (fun v15 C15 hle15 hq15=>?_)
  refine D.ae ?_
  refine D.ax (natHalf (hvb.mono mup) (hn.mono hyn) om_) rfl rfl rfl rfl rfl rfl rfl fl_ (fun v17 C17 hle17 hq17=>?_)
  refine D.q3 2 0 1 5 hR ?_
  refine G.rp 1 fun R hR=>?_
  refine D.aq _ ?_
  refine D.q3 1 0 1 5 hR ?_
  refine G.ap (m':=x / 2+1) om_ mup (h_3 0 1 5) ⟨v15,v17,x / 2,y / 2,t+1,⟨hq15.mono mup,hq17.mono mup,by omega,by omega,by rw [Nat.pow_succ,Nat.mul_assoc,<- gcd_even hxe.1 hxe.2];exact hg,by rw [Nat.pow_succ,Nat.mul_assoc,show 2*(x / 2)=x by omega];exact hxm,by omega,by omega⟩,rfl,rfl,rfl⟩
 ·have hxo:x % 2=1∨y % 2=1:=by
   simp at h13;omega
  have hgo:=gcd_odd hxo
  obtain ⟨g,hgd⟩:∃ g,Nat.gcd x y=g:=⟨_,rfl⟩
  rw [hgd] at hg hgo
  refine G.loop (fun fr C' L' μ=>∃ (wa wb:Value)(p q:Nat),(NatC C' wa p/\NatC C' wb q/\0<q/\Nat.gcd p q=g/\Sm k p/\Sm k q)/\fr=[(0,[],wa),(1,[],wb),(5,[],.int .i64 t)]/\L'=[]/\μ=p+q) (h_3 0 1 5) ⟨va,vb,x,y,⟨hva.mono mup,hvb.mono mup,hy0,hgd,hm.mono hxm2,hn.mono hyn⟩,rfl,rfl,rfl⟩ (fun fr C1' L1' m hle1 hI=>?_)
  obtain ⟨wa,wb,p,q,⟨hwa,hwb,hq0,hpq,hsp,hsq⟩,rfl,rfl,rfl⟩:=hI
  obtain ⟨A0,z0,c0,rfl,hz0,hz1⟩:=hwa.form
  refine G.z4 3 0 1 5 22 ?_
  refine G.cd (fun h22=>?_) fun h22=>?_
  ·have hp0:0<p:=by
    have:(0:Int)<(z0:Int):=by simpa using h22
    have:=mt hz0.2
    omega
   refine G.loop (fun fr C' L' μ=>∃ (wp:Value)(p2:Nat),(NatC C' wp p2/\0<p2/\p2<=p/\Nat.gcd p2 q=g)/\fr=[(0,[],wp),(1,[],wb),(5,[],.int .i64 t)]/\L'=[]/\μ=p2+1) (h_3 0 1 5) ⟨_,p,⟨hwa.mono mup,hp0,Nat.le_refl _,hpq⟩,rfl,rfl,rfl⟩ (fun fr C2' L2' m hle2 hI=>?_)
   obtain ⟨wp,p2,⟨hwp,hp20,hp2p,hp2g⟩,rfl,rfl,rfl⟩:=hI
   refine G.rp 1 fun R hR=>?_
   refine D.aj (natOdd (hwp.mono mup)) ?_
   refine D.q4 1 0 1 5 25 hR ?_
   refine G.cd (fun h25=>?_) fun h25=>?_
   ·have hpe:p2 % 2=0:=by
     simp at h25;omega
    refine G.rp 1 fun R hR=>?_
    refine D.ax (natHalf (hwp.mono mup) (hsp.mono hp2p) om_) rfl rfl rfl rfl rfl rfl rfl fl_ (fun v27 C27 hle27 hq27=>?_)
    refine D.q3 1 0 1 5 hR ?_
    refine G.ap (m':=p2 / 2+1) om_ mup (h_3 0 1 5) ⟨v27,p2 / 2,⟨hq27.mono mup,by omega,by omega,gcd_half hp2g hgo hpe⟩,rfl,rfl,rfl⟩
   ·refine G.loop (fun fr C' L' μ=>∃ (wq:Value)(q2:Nat),(NatC C' wq q2/\0<q2/\q2<=q/\Nat.gcd p2 q2=g)/\fr=[(0,[],wp),(1,[],wq),(5,[],.int .i64 t)]/\L'=[]/\μ=q2+1) (h_3 0 1 5) ⟨_,q,⟨hwb.mono mup,hq0,Nat.le_refl _,hp2g⟩,rfl,rfl,rfl⟩ (fun fr C3' L3' m hle3 hI=>?_)
    obtain ⟨wq,q2,⟨hwq,hq20,hq2q,hq2g⟩,rfl,rfl,rfl⟩:=hI
    refine G.rp 1 fun R hR=>?_
    refine D.aj (natOdd (hwq.mono mup)) ?_
    refine D.q4 1 0 1 5 30 hR ?_
    refine G.cd (fun h30=>?_) fun h30=>?_
    ·have hqe:q2 % 2=0:=by
      simp at h30;omega
     refine G.rp 1 fun R hR=>?_
     refine D.ax (natHalf (hwq.mono mup) (hsq.mono hq2q) om_) rfl rfl rfl rfl rfl rfl rfl fl_ (fun v32 C32 hle32 hq32=>?_)
     refine D.q3 1 0 1 5 hR ?_
     refine G.ap (m':=q2 / 2+1) om_ mup (h_3 0 1 5) ⟨v32,q2 / 2,⟨hq32.mono mup,by omega,by omega,by rw [Nat.gcd_comm];exact gcd_half (by rw [Nat.gcd_comm];exact hq2g) hgo hqe⟩,rfl,rfl,rfl⟩
    ·refine G.rp 2 fun R hR=>?_
     refine D.aS (natCmp (hwp.mono mup) (hwq.mono mup)) (fun v35 C35 hle35 hq35=>?_)
     obtain ⟨z,rfl,hz⟩:=hq35
     refine D.q4 1 0 1 5 36 hR ?_
     refine G.cd (fun h36=>?_) fun h36=>?_
     ·have hlt:p2<q2:=hz.1.1 (by simpa using h36)
      refine G.z3 4 0 1 5 ?_
      refine G.rp 2 fun R hR=>?_
      refine D.ax (natSub (hwq.mono mup) (hwp.mono mup) (hsq.mono hq2q) (Nat.le_of_lt hlt) om_) rfl rfl rfl rfl rfl rfl rfl fl_ (fun v41 C41 hle41 hq41=>?_)
      refine D.q3 1 0 1 5 hR ?_
      refine G.ap (m':=q2-p2+p2) om_ mup (h_3 0 1 5) ⟨v41,wp,q2-p2,p2,⟨hq41.mono mup,hwp.mono mup,hp20,gcd_sub (by rw [Nat.gcd_comm];exact hq2g) (Nat.le_of_lt hlt),hsq.mono om_,hsp.mono hp2p⟩,rfl,rfl,rfl⟩
     ·have hlt:q2<=p2:=by
       have h1:¬ z<0:=by simpa using h36
       have:=mt hz.1.2 h1
       omega
      refine G.rp 2 fun R hR=>?_
      refine D.ax (natSub (hwp.mono mup) (hwq.mono mup) (hsp.mono hp2p) hlt om_) rfl rfl rfl rfl rfl rfl rfl fl_ (fun v41 C41 hle41 hq41=>?_)
      refine D.q3 1 0 1 5 hR ?_
      refine G.ap (m':=p2-q2+q2) om_ mup (h_3 0 1 5) ⟨v41,wq,p2-q2,q2,⟨hq41.mono mup,hwq.mono mup,hq20,gcd_sub hq2g hlt,hsp.mono om_,hsq.mono hq2q⟩,rfl,rfl,rfl⟩
  ·have hp0:p=0:=by
    have:¬ (0:Int)<(z0:Int):=by simpa using h22
    exact hz0.1 om_
   have hqg:q=g:=by rw [<- hpq,hp0,Nat.gcd_zero_left]
   refine G.z3 2 1 42 43 ?_
   refine G.loop (fun fr C' L' μ=>∃ (i:Nat)(wr:Value),(i<=t/\NatC C' wr (2 ^ i*g))/\fr=[(1,[],wr),(42,[],.int .i64 t),(43,[],.int .i64 i)]/\L'=[]/\μ=t-i) (h_3 1 42 43) ⟨0,_,⟨Nat.zero_le _,by rw [Nat.pow_zero,Nat.one_mul,<- hqg];exact hwb.mono mup⟩,rfl,rfl,rfl⟩ (fun fr C4' L4' m hle4 hI=>?_)
   obtain ⟨i,wr,⟨hit,hwr⟩,rfl,rfl,rfl⟩:=hI
   refine G.z4 1 1 42 43 44 ?_
   refine G.cd (fun h44=>?_) fun h44=>?_
   ·have hit2:i<t:=by simpa using h44
    have hsm:Sm k (2 ^ i*g):=by
     refine hm.mono (Nat.le_trans ?_ (Nat.gcd_le_left n hm0))
     rw [<- hg]
     exact Nat.mul_le_mul_right _ (Nat.pow_le_pow_right (by decide) hit)
    refine G.rp 2 fun R hR=>?_
    refine D.ax (natAdd (hwr.mono mup) (hwr.mono mup) hsm hsm om_) rfl rfl rfl rfl rfl rfl rfl fl_ (fun v47 C47 hle47 hq47=>?_)
    refine D.q3 1 1 42 43 hR ?_
    refine G.rg fun R hR=>?_
    refine D.aq _ ?_
    refine D.q3 1 1 42 43 hR ?_
    refine G.ap (m':=t-(i+1)) om_ mup (h_3 1 42 43) ⟨i+1,v47,⟨by omega,by rw [Nat.pow_succ,show 2 ^ i*2*g=2 ^ i*g+2 ^ i*g by rw [Nat.mul_assoc,Nat.mul_left_comm];omega];exact hq47.mono mup⟩,rfl,rfl,rfl⟩
   ·have hit2:i=t:=by
     have:¬ i<t:=by simpa using h44
     omega
    refine G.z1 2 4 ?_
    refine G.rf ?_
    rw [<- hg,<- hit2]
    exact ⟨rfl,hwr.mono mup⟩

theorem natOne {C:Mem}{v:Value}(h:Sl C 1 v [[.int .u32 1]]):NatC C v 1:=⟨[1],⟨fun x hx=>by rw [List.mem_singleton.1 hx];decide,by decide⟩,rfl,h⟩
theorem natNil (C:Mem):NatC C (.slice none 0 0) 0:=⟨[],⟨(fun x hx=>(by cases hx)),by decide⟩,rfl,Sl.nil C 1⟩
theorem valD_top {a:List Nat}(ha:DigD a):valD a / 2 ^ (32*a.length)=0:=by
 refine Nat.div_eq_of_lt ?_
 have h:=valD_lt ha
 have e:B32 ^ a.length=2 ^ (32*a.length):=by rw [Nat.pow_mul]
 omega
theorem nover_fn {C:Mem}{ua v:Value}{a:List Nat}{b k:Nat}(hs:Sl C 1 ua (a.map encW))(hca:CanD a)(hv:NatC C v b)(hk:k<=1000000)(hl:a.length<=k)(hb:Sm k b)(hb0:0<b):Pur cx.P 123 [ua,v] C fun w D=>NatC D w (valD a / b):=by
 obtain ⟨A0,c0,rfl,_⟩:=id hs
 simp only [List.length_map] at hs ⊢
 have hB:B32=4294967296:=rfl
 have hda:=hca.1
 refine Fn.it kr_ Tryz.func123 54 fun w0=>?_
 refine G.z2 1 0 1 ?_
 refine G.rp 2 fun R hR=>?_
 refine D.bu rfl rfl rfl rfl rfl rfl rfl rfl rfl (Nat.le_refl _) (by show 4*a.length<=281474976710656;omega) (by simp only [maxLen];omega) fl_ (fun b10=>?_)
 refine D.q3 1 0 1 5 hR ?_;clear hR R
 refine G.z4 1 0 1 5 6 ?_
 refine G.rp 2 fun R hR=>?_
 refine D.cR (((32*a.length:Nat):Int)) rfl rfl rfl rfl om_ om_ om_ rfl rfl ?_
 refine D.aq _ ?_
 refine D.q5 1 0 1 5 6 7 hR ?_;clear hR R
 refine G.aM (L':=[.arr (qW b10 a.length a.length) 165 1 a.length ((List.replicate a.length 0).map encW).flatten]) (by rw [<- zrow_W];rfl) ?_
 refine G.loop (fun fr C' L' μ=>∃ (p:Nat)(wr:Value)(o:List Nat),(p<=32*a.length/\o.length=a.length/\DigD o/\NatC C' wr (valD a / 2 ^ p % b)/\valD o=2 ^ p*(valD a / 2 ^ p / b))/\fr=[(0,[],.slice A0 a.length c0),(1,[],v),(5,[],qW b10 a.length a.length),(6,[],wr),(7,[],.int .i64 ((p:Int)-1))]/\L'=[.arr (qW b10 a.length a.length) 165 1 a.length (o.map encW).flatten]/\μ=p+1) (h_5 0 1 5 6 7) ⟨32*a.length,_,List.replicate a.length 0,⟨Nat.le_refl _,List.length_replicate,(fun x hx=>by rw [List.eq_of_mem_replicate hx];decide),by rw [valD_top hda,Nat.zero_mod];exact natNil _,by rw [valD_top hda,Nat.zero_div,Nat.mul_zero];exact valD_zeros (fun x hx=>List.eq_of_mem_replicate hx)⟩,rfl,rfl,rfl⟩ (fun fr C0' L0' m hle0 hI=>?_)
 obtain ⟨p,wr,o,⟨hp,hol,hod,hwr,hov⟩,rfl,rfl,rfl⟩:=hI
 refine G.z6 2 0 1 5 6 7 16 ?_
 refine G.cd (fun h16=>?_) fun h16=>?_
 ·have hp0:0<p:=by
   have:(0:Int)<=(p:Int)-1:=by simpa using h16
   omega
  obtain ⟨j,rfl⟩:∃ j,p=j+1:=⟨p-1,by omega⟩
  rw [show ((j+1:Nat):Int)-1=(j:Int) by omega]
  have hjl:j / 32<a.length:=by omega
  have hra:(a.map encW)[((j / 32:Nat):Int).toNat]?=some (encW (gD a (j / 32))):=by rw [show ((j / 32:Nat):Int).toNat=j / 32 from rfl,List.getElem?_map,gD_get hjl];rfl
  have hx:=gD_lt hda (j / 32)
  have hbit:=bitD (p:=j) hda
  have hr1:valD a / 2 ^ (j+1) % b<b:=Nat.mod_lt _ hb0
  have hr2:Sm k (valD a / 2 ^ (j+1) % b):=hb.mono (Nat.le_of_lt hr1)
  have hbits:=over_bit (A:=valD a) (p:=j) hb0 hov rfl
  refine G.rp 2 fun R hR=>?_
  refine D.ax (natAdd (hwr.mono mup) (hwr.mono mup) hr2 hr2 om_) rfl rfl rfl rfl rfl rfl rfl fl_ (fun v21 C21 hle21 hq21=>?_)
  refine D.q5 1 0 1 5 6 7 hR ?_;clear hR R
  refine G.rp 2 fun R hR=>?_
  refine D.quoT ((j / 32:Nat):Int) rfl rfl rfl rfl rfl rfl om_ rfl (by rw [IntKind.wrap_i64];omega) rfl rfl ?_
  refine D.ak (hs.mono mup) rfl rfl rfl rfl rfl rfl rfl rfl rfl rfl om_ hra fl_ (fun p25 hp25=>?_)
  refine D.ac hp25 ?_
  refine D.ae ?_
  refine D.rem rfl rfl rfl rfl rfl rfl om_ om_ rfl rfl ?_
  refine D.shrW ((gD a (j / 32))) ((j % 32)) rfl rfl rfl rfl rfl rfl rfl rfl om_ rfl rfl ?_
  refine D.andW ((gD a (j / 32) / 2 ^ (j % 32))) (1) rfl rfl rfl rfl rfl rfl rfl rfl (Nat.lt_of_le_of_lt (Nat.div_le_self _ _) hx) om_ rfl rfl ?_
  refine D.q6 1 0 1 5 6 7 31 hR ?_;clear hR R
  refine G.bW (fun fr C' L' μ=>∃ (wq:Value),(NatC C' wq (2*(valD a / 2 ^ (j+1) % b)+valD a / 2 ^ j % 2))/\fr=[(0,[],.slice A0 a.length c0),(1,[],v),(5,[],qW b10 a.length a.length),(6,[],wq),(7,[],.int .i64 (j:Int))]/\L'=[.arr (qW b10 a.length a.length) 165 1 a.length (o.map encW).flatten]) ?_ (fun fr C31 L31 μ hle31 hI=>?_)
  ·refine G.cd (fun h31=>?_) fun h31=>?_
   ·have hb1:valD a / 2 ^ j % 2=1:=by
     rw [Nat.and_one_is_mod,hbit] at h31
     have:=of_decide_eq_true h31
     omega
    refine G.rp 1 fun R hR=>?_
    refine D.af [[.int .u32 1]] (fun p33 C33 hle33 hs33=>?_)
    refine D.ax (natAdd (hq21.mono mup) (natOne (hs33.mono mup)) (hr2.add hr2) (Sm.le (k:=1) (Sm.one (by decide)) om_) om_) rfl rfl rfl rfl rfl rfl rfl fl_ (fun v34 C34 hle34 hq34=>?_)
    refine D.q5 1 0 1 5 6 7 hR ?_;clear hR R
    refine G.ar 0 mup (h_5 0 1 5 6 7) ⟨v34,by rw [hb1,show 2*(valD a / 2 ^ (j+1) % b)=valD a / 2 ^ (j+1) % b+valD a / 2 ^ (j+1) % b by omega];exact hq34.mono mup,rfl,rfl⟩
   ·have hb1:valD a / 2 ^ j % 2=0:=by
     rw [Nat.and_one_is_mod,hbit] at h31
     have:=of_decide_eq_false h31
     omega
    refine G.ar 0 mup (h_5 0 1 5 6 7) ⟨v21,by rw [hb1,show 2*(valD a / 2 ^ (j+1) % b)=valD a / 2 ^ (j+1) % b+valD a / 2 ^ (j+1) % b by omega];exact hq21.mono mup,rfl,rfl⟩
  ·obtain ⟨wq,hwq,rfl,rfl⟩:=hI
   have hr3:Sm (k+1) (2*(valD a / 2 ^ (j+1) % b)+valD a / 2 ^ j % 2):=(hb.add hb).mono om_
   refine G.rp 2 fun R hR=>?_
   refine D.aS (natCmp (hwq.mono mup) (hv.mono mup)) (fun v37 C37 hle37 hq37=>?_)
   obtain ⟨z,rfl,hz⟩:=hq37
   refine D.q6 1 0 1 5 6 7 38 hR ?_;clear hR R
   refine G.cd (fun h38=>?_) fun h38=>?_
   ·have hge:b<=2*(valD a / 2 ^ (j+1) % b)+valD a / 2 ^ j % 2:=by
     have h0:(0:Int)<=z:=by simpa using h38
     have:=mt hz.1.2 om_
     omega
    refine G.rp 2 fun R hR=>?_
    refine D.ax (natSub (hwq.mono mup) (hv.mono mup) hr3 hge om_) rfl rfl rfl rfl rfl rfl rfl fl_ (fun v41 C41 hle41 hq41=>?_)
    refine D.q5 1 0 1 5 6 7 hR ?_;clear hR R
    have ho:=gD_lt hod (j / 32)
    have hget:o[j / 32]?=some (gD o (j / 32)):=gD_get om_
    have hfree:gD o (j / 32) % 2 ^ (j % 32+1)=0:=part_free hod ⟨_,hov⟩
    have h2r:2 ^ (j % 32)<4294967296:=Nat.lt_of_lt_of_le (Nat.pow_lt_pow_right (by decide) (Nat.mod_lt j (by decide:0<32))) (by decide)
    refine G.aH [0,1,2,3,4,5,6,7,8,9,10] [] rfl kr_ (fun R hB hR=>?_)
    refine D.ps 2 ?_
    refine D.quoT ((j / 32:Nat):Int) rfl rfl rfl rfl rfl rfl om_ rfl (by rw [IntKind.wrap_i64];omega) rfl rfl ?_
    refine D.aD ((j / 32)*1) rfl rfl rfl rfl rfl rfl rfl rfl rfl rfl (fun _=>⟨by omega,by omega,rfl⟩) rfl rfl ?_
    refine D.aT (.head _) rfl rfl rfl rfl rfl rfl (fun _=>(by rw [bU cE hget];rfl)) rfl rfl ?_
    refine D.ae ?_
    refine D.rem rfl rfl rfl rfl rfl rfl om_ om_ rfl rfl ?_
    refine D.shlW (1) ((j % 32)) rfl rfl rfl rfl rfl rfl rfl rfl om_ rfl rfl ?_
    refine D.orW ((gD o (j / 32))) ((1*2 ^ (j % 32) % 4294967296)) rfl rfl rfl rfl rfl rfl rfl rfl om_ om_ rfl rfl ?_
    refine D.aD ((j / 32)*1) rfl rfl rfl rfl rfl rfl rfl rfl rfl rfl (fun _=>⟨by omega,by omega,rfl⟩) rfl rfl ?_
    refine D.aE (j:=0) rfl rfl rfl rfl rfl rfl rfl rfl rfl rfl rfl (by show (j / 32)*1+1<=_;rw [aW cE,hol];omega) ?_
    refine D.e5 0 1 5 6 7 hR ?_;clear hR hB R
    refine G.rp 1 fun R hR=>?_
    refine D.aq _ ?_
    refine D.q5 1 0 1 5 6 7 hR ?_;clear hR R
    rw [Nat.one_mul,Nat.mod_eq_of_lt h2r,or_bit hfree]
    refine G.aM (L':=[.arr (qW b10 a.length a.length) 165 1 a.length ((o.set (j / 32) (gD o (j / 32)+2 ^ (j % 32))).map encW).flatten]) (by rw [<- aL cE _ (by omega:j / 32<o.length)];rfl) ?_
    refine G.ap (m':=j+1) om_ mup (h_5 0 1 5 6 7) ⟨j,v41,o.set (j / 32) (gD o (j / 32)+2 ^ (j % 32)),⟨by omega,by simp [hol],hod.set (by rw [<- or_bit hfree];exact Nat.or_lt_two_pow (n:=32) ho h2r),by rw [<- (hbits.1 hge).2];exact hq41.mono mup,by
     have h1:=valD_set (z:=gD o (j / 32)+2 ^ (j % 32)) hget
     rw [Nat.mul_add,pow_B32] at h1
     rw [<- (hbits.1 hge).1]
     omega⟩,rfl,rfl,rfl⟩
   ·have hge:¬ b<=2*(valD a / 2 ^ (j+1) % b)+valD a / 2 ^ j % 2:=by
     have h0:¬ (0:Int)<=z:=by simpa using h38
     have:=hz.1.1 om_
     omega
    refine G.rp 1 fun R hR=>?_
    refine D.aq _ ?_
    refine D.q5 1 0 1 5 6 7 hR ?_;clear hR R
    refine G.ap (m':=j+1) om_ mup (h_5 0 1 5 6 7) ⟨j,wq,o,⟨by omega,hol,hod,by rw [<- (hbits.2 hge).2];exact hwq.mono mup,(hbits.2 hge).1⟩,rfl,rfl,rfl⟩
 ·have hp0:p=0:=by
   have:¬ (0:Int)<=(p:Int)-1:=by simpa using h16
   omega
  refine G.aA [(1,3)] rfl (fun R hR=>?_)
  refine D.ae ?_
  refine D.call (trimO_fn _ _ o hol) rfl (.inr (by decide)) rfl rfl rfl rfl rfl rfl (List.Perm.refl _) fl_ (fun v53 C53 L53 hle53 hq53=>?_)
  obtain ⟨rfl,hu⟩:=hq53
  refine D.q1 1 4 hR ?_;clear hR R
  refine G.rf ?_
  refine ⟨rfl,trimD o,eh hod, ?_,hu⟩
  rw [eg,hov,hp0,Nat.pow_zero,Nat.one_mul,Nat.div_one]

theorem natOver {C:Mem}{u v:Value}{m b k:Nat}(hu:NatC C u m)(hv:NatC C v b)(hm:Sm k m)(hb:Sm k b)(hb0:0<b)(hk:k<=1000000):Pur cx.P 123 [u,v] C fun w D=>NatC D w (m / b):=by
 obtain ⟨a,ha,rfl,hsa⟩:=hu
 exact nover_fn hsa ha hv hk (hm.len ha) hb hb0
def encF (b:Bool)(u w:Value):List Value:=[.bool b,u,w]
def FrC (C:Mem)(v:Value)(q:Rat):Prop:=∃ u w,v=.agg ⟨encF (decide (q.num<0)) u w⟩/\NatC C u q.num.natAbs/\NatC C w q.den
theorem FrC.mono {C D:Mem}{v:Value}{q:Rat}(h:FrC C v q)(hl:C.le D):FrC D v q:=by
 obtain ⟨u,w,h1,h2,h3⟩:=h
 exact ⟨u,w,h1,h2.mono hl,h3.mono hl⟩
theorem gcd_pos1 {n d:Nat}(h:¬ 1<Nat.gcd n d)(hn:0<n):Nat.gcd n d=1:=by
 have:=Nat.gcd_pos_of_pos_left d hn
 omega
theorem clowest_fn {C:Mem}{u w:Value}{n d k:Nat}(b:Bool)(hu:NatC C u n)(hw:NatC C w d)(hn:Sm k n)(hd:Sm k d)(hd0:0<d)(hk:k<=1000000):Pur cx.P 67 [.bool b,u,w] C fun r D=>FrC D r (ratB b n d):=by
 obtain ⟨A0,z0,c0,rfl,hz0,hz1⟩:=hu.form
 obtain ⟨A9,z9,c9,rfl,_,_⟩:=hw.form
 have hdn:d≠0:=by omega
 refine Fn.it kr_ Tryz.func67 30 fun w0=>?_
 refine G.rg fun R hR=>?_
 refine D.aC (fun b6=>?_)
 refine D.e4 0 1 2 6 hR ?_
 refine G.z5 3 0 1 2 6 10 ?_
 refine G.cd (fun h10=>?_) fun h10=>?_
 ·have hn0:n=0:=by
   have:(z0:Int)=0:=by simpa using h10
   exact hz0.1 om_
  refine G.rg fun R hR=>?_
  refine D.cZ [[.int .u32 1]] rfl rfl rfl rfl rfl rfl rfl rfl rfl rfl rfl rfl fl_ (fun b11 C11 hle11 hs11=>?_)
  refine D.build (encF false (.slice none 0 0) (.slice (some ⟨b11,0,none⟩) 1 1)) rfl rfl rfl rfl rfl rfl rfl rfl ?_
  refine D.ag (j:=0) ?_
  refine D.e1 6 hR ?_
  refine G.ay (G.dz (.head _) rfl rfl rfl rfl ?_)
  refine ⟨rfl, ?_⟩
  rw [hn0,ratB_zero]
  exact ⟨_,_,rfl,natNil _,natOne (hs11.mono mup)⟩
 ·have hn0:0<n:=by
   have:¬ (z0:Int)=0:=by simpa using h10
   have:=mt hz0.2
   omega
  refine G.rp 2 fun R hR=>?_
  refine D.aS (natGcd (hu.mono mup) (hw.mono mup) hn hd hk hn0 hd0) (fun v15 C15 hle15 hq15=>?_)
  refine D.q5 1 0 1 2 6 7 hR ?_
  refine G.rp 1 fun R hR=>?_
  refine D.af [[.int .u32 1]] (fun p17 C17 hle17 hs17=>?_)
  refine D.aS (natCmp (hq15.mono mup) (natOne (hs17.mono mup))) (fun v18 C18 hle18 hq18=>?_)
  obtain ⟨z,rfl,hz⟩:=hq18
  have hgs:Sm k (Nat.gcd n d):=hn.mono (Nat.gcd_le_left d hn0)
  have hg0:0<Nat.gcd n d:=Nat.gcd_pos_of_pos_left d hn0
  refine D.q6 1 0 1 2 6 7 19 hR ?_
  refine G.cd (fun h19=>?_) fun h19=>?_
  ·refine G.rp 2 fun R hR=>?_
   refine D.aS (natOver (hu.mono mup) (hq15.mono mup) hn hgs hg0 hk) (fun v22 C22 hle22 hq22=>?_)
   refine D.ps 2 ?_
   refine D.aS (natOver (hw.mono mup) (hq15.mono mup) hd hgs hg0 hk) (fun v25 C25 hle25 hq25=>?_)
   refine D.q4 2 0 1 2 6 hR ?_
   obtain ⟨A1,z1,c1,rfl,_,_⟩:=hq22.form
   obtain ⟨A2,z2,c2,rfl,_,_⟩:=hq25.form
   refine G.rp 3 fun R hR=>?_
   refine D.build (encF b (.slice A1 z1 c1) (.slice A2 z2 c2)) rfl rfl rfl rfl rfl rfl rfl rfl ?_
   refine D.ag (j:=0) ?_
   refine D.e1 6 hR ?_
   refine G.ay (G.dz (.head _) rfl rfl rfl rfl ?_)
   refine ⟨rfl,.slice A1 z1 c1,.slice A2 z2 c2, ?_, ?_, ?_⟩
   ·rw [ratB_neg hdn om_];rfl
   ·rw [ratB_abs hdn];exact hq22.mono mup
   ·rw [ratB_den hdn];exact hq25.mono mup
  ·have hg1:Nat.gcd n d=1:=by
    refine gcd_pos1 (fun h=>?_) hn0
    have h1:¬ (0:Int)<z:=by simpa using h19
    exact h1 (hz.2.1.2 h)
   refine G.rp 3 fun R hR=>?_
   refine D.build (encF b (.slice A0 z0 c0) (.slice A9 z9 c9)) rfl rfl rfl rfl rfl rfl rfl rfl ?_
   refine D.ag (j:=0) ?_
   refine D.e1 6 hR ?_
   refine G.ay (G.dz (.head _) rfl rfl rfl rfl ?_)
   refine ⟨rfl,.slice A0 z0 c0,.slice A9 z9 c9, ?_, ?_, ?_⟩
   ·rw [ratB_neg hdn om_];rfl
   ·rw [ratB_abs hdn,hg1,Nat.div_one];exact hu.mono mup
   ·rw [ratB_den hdn,hg1,Nat.div_one];exact hw.mono mup
def sgn (q:Rat):Int:=if q<0 then -1 else if q=0 then 0 else 1
theorem num_neg_iff (q:Rat):q.num<0 ↔ q<0:=by
 have:=Rat.num_nonneg (q:=q)
 rw [<- Rat.not_le,<- this];omega
theorem sign_fn {C:Mem}{v:Value}{q:Rat}(hv:FrC C v q):Gives cx.P 29 [v] C (.int .i64 (sgn q)):=by
 obtain ⟨u,w,rfl,hu,hw⟩:=hv
 obtain ⟨A0,z0,c0,rfl,hz0,hz1⟩:=hu.form
 have hnn:=num_neg_iff q
 refine Fn.it kr_ Tryz.func29 11 fun w0=>?_
 refine G.rg fun R hR=>?_
 refine D.aX (fun b1=>?_)
 refine D.q1 1 1 hR ?_
 refine G.rp 1 fun R hR=>?_
 refine D.ah (.head _) ?_
 refine D.q2 1 1 3 hR ?_
 refine G.cd (fun h3=>?_) fun h3=>?_
 ·refine G.z1 1 2 ?_
  refine G.rf ?_
  refine ⟨?_,rfl⟩
  have h:q<0:=hnn.1 (by simpa using h3)
  unfold sgn;rw [if_pos h]
 ·refine G.rp 1 fun R hR=>?_
  refine D.ah (.head _) ?_
  refine D.q1 3 6 hR ?_
  refine G.cd (fun h6=>?_) fun h6=>?_
  ·refine G.z1 1 2 ?_
   refine G.rf ?_
   refine ⟨?_,rfl⟩
   have h:¬ q<0:=fun h=>by rw [decide_eq_true (hnn.2 h)] at h3;cases h3
   have h2:q=0:=by rw [<- num_nil];exact hz0.1 (by simpa using h6)
   unfold sgn;rw [if_neg h,if_pos h2]
  ·refine G.z1 1 2 ?_
   refine G.rf ?_
   refine ⟨?_,rfl⟩
   have h:¬ q<0:=fun h=>by rw [decide_eq_true (hnn.2 h)] at h3;cases h3
   have h2:¬ q=0:=fun h2=>by rw [hz0.2 (num_nil.2 h2)] at h6;simp at h6
   unfold sgn;rw [if_neg h,if_neg h2]
theorem neg_fn {C:Mem}{v:Value}{q:Rat}(hv:FrC C v q):Pur cx.P 121 [v] C fun r D=>FrC D r (-q):=by
 obtain ⟨u,w,rfl,hu,hw⟩:=hv
 obtain ⟨A0,z0,c0,rfl,hz0,hz1⟩:=hu.form
 obtain ⟨A9,z9,c9,rfl,_,_⟩:=hw.form
 refine Fn.it kr_ Tryz.func121 14 fun w0=>?_
 refine G.rg fun R hR=>?_
 refine D.aX (fun b1=>?_)
 refine D.aC (fun b2=>?_)
 refine D.e2 1 2 hR ?_
 refine G.rp 1 fun R hR=>?_
 refine D.ah (.tail _ (.head _)) ?_
 refine D.ps 3 ?_
 refine D.ah (.tail _ (.head _)) ?_
 refine D.ps 2 ?_
 refine D.au ?_
 refine D.ae ?_
 refine D.ag (j:=1) ?_
 refine D.e2 1 2 hR ?_
 refine G.rg fun R hR=>?_
 refine D.ah (.head _) ?_
 refine D.ag (j:=1) ?_
 refine D.e1 2 hR ?_
 refine G.ay (G.dz (.head _) rfl rfl rfl rfl ?_)
 refine ⟨rfl,.slice A0 z0 c0,.slice A9 z9 c9, ?_, ?_, ?_⟩
 ·have e:decide ((-q).num<0)=(!decide (q.num<0) && decide ((0:Int)<(z0:Int))):=by
   rw [Rat.neg_num]
   have h1:z0=0 ↔ q.num=0:=hz0.trans Int.natAbs_eq_zero
   by_cases h:q.num<0
   ·simp [h];omega
   ·simp only [h,decide_false,Bool.not_false,Bool.true_and,decide_eq_decide];omega
  rw [e];rfl
 ·rw [Rat.neg_num,Int.natAbs_neg];exact hu.mono mup
 ·exact hw.mono mup

theorem FrC.form {C:Mem}{v:Value}{q:Rat}(h:FrC C v q):∃ A n c A' n' c',v=.agg ⟨encF (decide (q.num<0)) (.slice A n c) (.slice A' n' c')⟩:=by
 obtain ⟨u,w,rfl,hu,hw⟩:=h
 obtain ⟨A1,n1,c1,rfl,_,_⟩:=hu.form
 obtain ⟨A2,n2,c2,rfl,_,_⟩:=hw.form
 exact ⟨_,_,_,_,_,_,rfl⟩
theorem fmul_fn {C:Mem}{u v:Value}{p q:Rat}{j k:Nat}(hu:FrC C u p)(hv:FrC C v q)(hp:SmQ j p)(hq:SmQ k q)(hjk:j+k<=1000000):Pur cx.P 64 [u,v] C fun r D=>FrC D r (p*q):=by
 obtain ⟨pu,pw,rfl,hpu,hpw⟩:=hu
 obtain ⟨qu,qw,rfl,hqu,hqw⟩:=hv
 obtain ⟨A1,n1,c1,rfl,_,_⟩:=hpu.form
 obtain ⟨A2,n2,c2,rfl,_,_⟩:=hpw.form
 obtain ⟨A3,n3,c3,rfl,_,_⟩:=hqu.form
 obtain ⟨A4,n4,c4,rfl,_,_⟩:=hqw.form
 refine Fn.it kr_ Tryz.func64 21 fun w0=>?_
 refine G.rg fun R hR=>?_
 refine D.aX (fun b2=>?_)
 refine D.aX (fun b3=>?_)
 refine D.aC (fun b4=>?_)
 refine D.e3 2 3 4 hR ?_
 refine G.aH [0,1,2,3,4,5,6,7,8,10,11,12,13,9,14,15,16] [] rfl kr_ (fun R hB hR=>?_)
 refine D.ae ?_
 refine D.ah (.tail _ (.tail _ (.head _))) ?_
 refine D.ae ?_
 refine D.ah (.tail _ (.head _)) ?_
 refine D.ps 2 ?_
 refine D.ah (.tail _ (.tail _ (.head _))) ?_
 refine D.ae ?_
 refine D.ah (.tail _ (.head _)) ?_
 refine D.ae ?_
 refine D.ah (.tail _ (.tail _ (.head _))) ?_
 refine D.ae ?_
 refine D.ah (.tail _ (.head _)) ?_
 refine D.ax (natMul (hpu.mono mup) (hqu.mono mup) hp.1 hq.1 om_ om_) rfl rfl rfl rfl rfl rfl rfl fl_ (fun v14 C14 hle14 hq14=>?_)
 refine D.ax (natMul (hpw.mono mup) (hqw.mono mup) hp.2 hq.2 om_ om_) rfl rfl rfl rfl rfl rfl rfl fl_ (fun v19 C19 hle19 hq19=>?_)
 refine D.aS (clowest_fn (k:=j+k) _ (hq14.mono mup) (hq19.mono mup) (hp.1.mul hq.1) (hp.2.mul hq.2) (Nat.mul_pos p.den_pos q.den_pos) hjk) (fun v20 C20 hle20 hq20=>?_)
 replace hq20:FrC C20 v20 (p*q):=by rw [<- mul_parts];exact hq20
 obtain ⟨A5,n5,c5,A6,n6,c6,rfl⟩:=hq20.form
 refine D.ag (j:=0) ?_
 refine D.e1 4 hR ?_
 refine G.ay (G.dz (.head _) rfl rfl rfl rfl ?_)
 exact ⟨rfl,hq20⟩
theorem fadd_fn {C:Mem}{u v:Value}{p q:Rat}{j k:Nat}(hu:FrC C u p)(hv:FrC C v q)(hp:SmQ j p)(hq:SmQ k q)(hjk:j+k<1000000):Pur cx.P 28 [u,v] C fun r D=>FrC D r (p+q):=by
 obtain ⟨pu,pw,rfl,hpu,hpw⟩:=hu
 obtain ⟨qu,qw,rfl,hqu,hqw⟩:=hv
 obtain ⟨A1,n1,c1,rfl,_,_⟩:=hpu.form
 obtain ⟨A2,n2,c2,rfl,_,_⟩:=hpw.form
 obtain ⟨A3,n3,c3,rfl,_,_⟩:=hqu.form
 obtain ⟨A4,n4,c4,rfl,_,_⟩:=hqw.form
 have hx:Sm (j+k) (p.num.natAbs*q.den):=hp.1.mul hq.2
 have hy:Sm (j+k) (q.num.natAbs*p.den):=by rw [Nat.add_comm];exact hq.1.mul hp.2
 have hd:Sm (j+k+1) (p.den*q.den):=(hp.2.mul hq.2).le om_
 have hd0:0<p.den*q.den:=Nat.mul_pos p.den_pos q.den_pos
 refine Fn.it kr_ Tryz.func28 55 fun w0=>?_
 refine G.rg fun R hR=>?_
 refine D.aX (fun b2=>?_)
 refine D.aX (fun b3=>?_)
 refine D.aC (fun b4=>?_)
 refine D.e3 2 3 4 hR ?_
 refine G.aH [0,1,2,3,5,6,7,8,10,11,12,13,4,9,14,15,16,17] [] rfl kr_ (fun R hB hR=>?_)
 refine D.ae ?_
 refine D.ah (.tail _ (.tail _ (.head _))) ?_
 refine D.ae ?_
 refine D.ah (.tail _ (.head _)) ?_
 refine D.ae ?_
 refine D.ah (.tail _ (.head _)) ?_
 refine D.ae ?_
 refine D.ah (.tail _ (.tail _ (.head _))) ?_
 refine D.ae ?_
 refine D.ah (.tail _ (.tail _ (.head _))) ?_
 refine D.ae ?_
 refine D.ah (.tail _ (.head _)) ?_
 refine D.ax (natMul (hpu.mono mup) (hqw.mono mup) hp.1 hq.2 om_ om_) rfl rfl rfl rfl rfl rfl rfl fl_ (fun v12 C12 hle12 hq12=>?_)
 refine D.ax (natMul (hqu.mono mup) (hpw.mono mup) hq.1 hp.2 om_ om_) rfl rfl rfl rfl rfl rfl rfl fl_ (fun v17 C17 hle17 hq17=>?_)
 refine D.ax (natMul (hpw.mono mup) (hqw.mono mup) hp.2 hq.2 om_ om_) rfl rfl rfl rfl rfl rfl rfl fl_ (fun v22 C22 hle22 hq22=>?_)
 refine D.q6 3 2 3 4 5 6 7 hR ?_
 refine G.rp 1 fun R hR=>?_
 refine D.ah (.tail _ (.tail _ (.head _))) ?_
 refine D.ae ?_
 refine D.ah (.tail _ (.head _)) ?_
 refine D.q7 2 2 3 4 5 6 7 23 hR ?_
 refine G.cd (fun h23=>?_) fun h23=>?_
 ·have hs:decide (p.num<0)=decide (q.num<0):=by simpa using h23
  refine G.aH [0,1,2,3,5,4,6,7] [] rfl kr_ (fun R hB hR=>?_)
  refine D.ae ?_
  refine D.ah (.tail _ (.tail _ (.head _))) ?_
  refine D.ps 3 ?_
  refine D.ax (natAdd (hq12.mono mup) (hq17.mono mup) hx hy om_) rfl rfl rfl rfl rfl rfl rfl fl_ (fun v33 C33 hle33 hq33=>?_)
  refine D.ax (clowest_fn (k:=j+k+1) _ (hq33.mono mup) (hq22.mono mup) (hx.add hy) hd hd0 om_) rfl rfl rfl rfl rfl rfl rfl fl_ (fun v35 C35 hle35 hq35=>?_)
  replace hq35:FrC C35 v35 (p+q):=by rw [<- add_same hs];exact hq35
  obtain ⟨A5,n5,c5,A6,n6,c6,rfl⟩:=hq35.form
  refine D.ag (j:=0) ?_
  refine D.e1 4 hR ?_
  refine G.ay (G.dz (.head _) rfl rfl rfl rfl ?_)
  exact ⟨rfl,hq35⟩
 ·have hs:¬ decide (p.num<0)=decide (q.num<0):=fun h=>by rw [h] at h23;simp at h23
  refine G.rp 2 fun R hR=>?_
  refine D.aS (natCmp (hq12.mono mup) (hq17.mono mup)) (fun v39 C39 hle39 hq39=>?_)
  obtain ⟨z,rfl,hz⟩:=hq39
  refine D.q7 2 2 3 4 5 6 7 36 hR ?_
  refine G.cd (fun h36=>?_) fun h36=>?_
  ·have hge:q.num.natAbs*p.den<=p.num.natAbs*q.den:=by
    have h0:(0:Int)<=z:=by simpa using h36
    have:=mt hz.1.2 om_
    omega
   refine G.aH [0,1,2,3,5,4,6,7] [] rfl kr_ (fun R hB hR=>?_)
   refine D.ae ?_
   refine D.ah (.tail _ (.tail _ (.head _))) ?_
   refine D.ps 3 ?_
   refine D.ax (natSub (hq12.mono mup) (hq17.mono mup) hx hge om_) rfl rfl rfl rfl rfl rfl rfl fl_ (fun v45 C45 hle45 hq45=>?_)
   refine D.ax (clowest_fn (k:=j+k+1) _ (hq45.mono mup) (hq22.mono mup) ((hx.mono om_).le om_) hd hd0 om_) rfl rfl rfl rfl rfl rfl rfl fl_ (fun v47 C47 hle47 hq47=>?_)
   replace hq47:FrC C47 v47 (p+q):=by rw [<- add_up hs hge];exact hq47
   obtain ⟨A5,n5,c5,A6,n6,c6,rfl⟩:=hq47.form
   refine D.ag (j:=0) ?_
   refine D.e1 4 hR ?_
   refine G.ay (G.dz (.head _) rfl rfl rfl rfl ?_)
   exact ⟨rfl,hq47⟩
  ·have hge:p.num.natAbs*q.den<=q.num.natAbs*p.den:=by
    have h0:¬ (0:Int)<=z:=by simpa using h36
    have:=hz.1.1 om_
    omega
   refine G.aH [0,1,2,3,5,4,6,7] [] rfl kr_ (fun R hB hR=>?_)
   refine D.ae ?_
   refine D.ah (.tail _ (.head _)) ?_
   refine D.ps 3 ?_
   refine D.ax (natSub (hq17.mono mup) (hq12.mono mup) hy hge om_) rfl rfl rfl rfl rfl rfl rfl fl_ (fun v52 C52 hle52 hq52=>?_)
   refine D.ax (clowest_fn (k:=j+k+1) _ (hq52.mono mup) (hq22.mono mup) ((hy.mono om_).le om_) hd hd0 om_) rfl rfl rfl rfl rfl rfl rfl fl_ (fun v54 C54 hle54 hq54=>?_)
   replace hq54:FrC C54 v54 (p+q):=by rw [<- add_down hs hge];exact hq54
   obtain ⟨A5,n5,c5,A6,n6,c6,rfl⟩:=hq54.form
   refine D.ag (j:=0) ?_
   refine D.e1 4 hR ?_
   refine G.ay (G.dz (.head _) rfl rfl rfl rfl ?_)
   exact ⟨rfl,hq54⟩
theorem fsub_fn {C:Mem}{u v:Value}{p q:Rat}{j k:Nat}(hu:FrC C u p)(hv:FrC C v q)(hp:SmQ j p)(hq:SmQ k q)(hjk:j+k<1000000):Pur cx.P 65 [u,v] C fun r D=>FrC D r (p-q):=by
 obtain ⟨A1,n1,c1,A2,n2,c2,rfl⟩:=hu.form
 obtain ⟨A3,n3,c3,A4,n4,c4,rfl⟩:=hv.form
 refine Fn.it kr_ Tryz.func65 9 fun w0=>?_
 refine G.rg fun R hR=>?_
 refine D.aX (fun b2=>?_)
 refine D.aX (fun b3=>?_)
 refine D.aC (fun b4=>?_)
 refine D.e3 2 3 4 hR ?_
 refine G.aH [0,1,2,3,4] [] rfl kr_ (fun R hB hR=>?_)
 refine D.ah (.tail _ (.tail _ (.head _))) ?_
 refine D.ah (.tail _ (.head _)) ?_
 refine D.aS (neg_fn (hv.mono mup)) (fun v7 C7 hle7 hq7=>?_)
 refine D.aS (fadd_fn (hu.mono mup) (hq7.mono mup) hp hq.neg hjk) (fun v8 C8 hle8 hq8=>?_)
 rw [<- Rat.sub_eq_add_neg] at hq8
 obtain ⟨A5,n5,c5,A6,n6,c6,rfl⟩:=hq8.form
 refine D.ag (j:=0) ?_
 refine D.e1 4 hR ?_
 refine G.ay (G.dz (.head _) rfl rfl rfl rfl ?_)
 exact ⟨rfl,hq8⟩
theorem fcmp_fn {C:Mem}{u v:Value}{p q:Rat}{j k:Nat}(hu:FrC C u p)(hv:FrC C v q)(hp:SmQ j p)(hq:SmQ k q)(hjk:j+k<1000000):Pur cx.P 26 [u,v] C fun r _=>r=.int .i64 (sgn (p-q)):=by
 obtain ⟨A1,n1,c1,A2,n2,c2,rfl⟩:=hu.form
 obtain ⟨A3,n3,c3,A4,n4,c4,rfl⟩:=hv.form
 refine Fn.it kr_ Tryz.func26 9 fun w0=>?_
 refine G.rg fun R hR=>?_
 refine D.aX (fun b2=>?_)
 refine D.aX (fun b3=>?_)
 refine D.q2 1 2 3 hR ?_
 refine G.rg fun R hR=>?_
 refine D.ah (.tail _ (.head _)) ?_
 refine D.ah (.head _) ?_
 refine D.aS (fsub_fn (hu.mono mup) (hv.mono mup) hp hq hjk) (fun v7 C7 hle7 hq7=>?_)
 refine D.aj (sign_fn hq7) ?_
 refine D.q1 1 4 hR ?_
 refine G.rf ?_
 exact ⟨rfl,rfl⟩

theorem idxByte_fn (C:Mem)(s:Str)(c:UInt8):Gives cx.P 203 [strV s,.int .u8 c.toNat] C (.int .i64 (Lib.indexByte s c)):=by
 have h:=Gives.ofCalls (f:=203) (args:=[strV s,.int .u8 c.toNat]) (P:=cx.P) kr_ (fun w=>Any.stringslite_IndexByte Tryz.idxByte ⟨s.toArray⟩ (c.toNat:Int) w) C
 simpa using h
theorem index1_fn (C:Mem)(s:Str)(c:UInt8):Gives cx.P 176 [strV s,strV [c]] C (.int .i64 (Lib.indexByte s c)):=by
 refine Fn.it kr_ Tryz.func176 143 fun w0=>?_
 refine G.z2 1 0 1 ?_
 refine G.z3 3 0 1 5 ?_
 refine G.rp 6 fun R hR=>?_
 refine D.aG rfl rfl rfl rfl rfl rfl rfl rfl ?_
 refine D.q4 1 0 1 5 16 hR ?_
 refine G.cd (fun h16=>?_) fun h16=>?_
 ·refine G.z1 1 4 ?_
  refine G.rf ?_
  refine ⟨?_,rfl⟩
  have h:([c]:Str)=s:=by simpa using h16
  subst h
  simp [Lib.indexByte]
 ·refine G.z4 3 0 1 5 24 ?_
  refine G.cd (fun h24=>?_) fun h24=>?_
  ·refine G.rp 2 fun R hR=>?_
   refine D.be rfl rfl rfl rfl rfl rfl rfl rfl (fun _=>⟨by omega,(rfl:([c]:Str)[(0:Int).toNat]?=some c)⟩) rfl rfl ?_
   refine D.aj (idxByte_fn _ s c) ?_
   refine D.q1 1 4 hR ?_
   refine G.rf ?_
   exact ⟨rfl,rfl⟩
  ·exact absurd h24 (by simp)
theorem cutL_fn (C:Mem)(s:Str)(c:UInt8)(hl:s.length<1000000):Gives cx.P 144 [strV s,strV [c]] C (.tuple #[strV (cut1 c s).1,strV ((cut1 c s).2.getD []),.bool (cut1 c s).2.isSome]):=by
 refine Fn.it kr_ Tryz.func144 23 fun w0=>?_
 refine G.z2 3 0 1 ?_
 refine G.rp 2 fun R hR=>?_
 refine D.aj (index1_fn _ s c) ?_
 refine D.q3 1 0 1 7 hR ?_
 refine G.z4 2 0 1 7 12 ?_
 refine G.cd (fun h12=>?_) fun h12=>?_
 ·have h0:0<=Lib.indexByte s c:=by simpa using h12
  obtain ⟨pre,post,h1,h2,h3⟩:=cut1_hit h0
  have hle:s.length=pre.length+1+post.length:=by rw [h2];simp;omega
  rw [h1,h3]
  refine G.aH [0,1,2,3,4,5,6,7,8,9,10,11] [] rfl kr_ (fun R hB hR=>?_)
  refine D.ps 2 ?_
  refine D.bG 0 pre.length rfl rfl rfl rfl rfl rfl rfl rfl rfl (fun _=>⟨.inl ⟨rfl,rfl⟩,.inr ⟨_,rfl⟩,.inl ⟨rfl,rfl⟩,by omega,by omega,Nat.le_refl _⟩) rfl rfl ?_
  refine D.ps 4 ?_
  refine D.cR (((pre.length+1:Nat):Int)) rfl rfl rfl rfl (by simp) om_ om_ rfl rfl ?_
  refine D.bG (pre.length+1) s.length rfl rfl rfl rfl rfl rfl rfl rfl rfl (fun _=>⟨.inr ⟨_,rfl⟩,.inl ⟨rfl,rfl⟩,.inl ⟨rfl,rfl⟩,by omega,Nat.le_refl _,Nat.le_refl _⟩) rfl rfl ?_
  refine D.q3 3 4 5 6 hR ?_
  refine G.ay (G.dropAll (G.eZ rfl rfl rfl rfl ?_))
  refine ⟨?_,rfl⟩
  have e1:(s.take pre.length).drop 0=pre:=by rw [h2];simp
  have e2:(s.take s.length).drop (pre.length+1)=post:=by rw [List.take_length,h2];simp
  rw [e1,e2];rfl
 ·have h0:¬ 0<=Lib.indexByte s c:=by simpa using h12
  rw [cut1_miss h0]
  refine G.z3 4 4 5 6 ?_
  refine G.ay (G.dropAll (G.eZ rfl rfl rfl rfl ?_))
  exact ⟨rfl,rfl⟩
theorem cut_fn (C:Mem)(s:Str)(c:UInt8)(hl:s.length<1000000):Gives cx.P 85 [strV s,strV [c]] C (.tuple #[strV (cut1 c s).1,strV ((cut1 c s).2.getD []),.bool (cut1 c s).2.isSome]):=by
 refine Fn.it kr_ Tryz.func85 13 fun w0=>?_
 refine G.z2 3 0 1 ?_
 refine G.rp 2 fun R hR=>?_
 refine D.aj (cutL_fn _ s c hl) ?_
 refine D.q3 6 4 5 6 hR ?_
 refine G.ay (G.dropAll (G.eZ rfl rfl rfl rfl ?_))
 exact ⟨rfl,rfl⟩
theorem hasP_fn (C:Mem)(s:Str)(c:UInt8):Gives cx.P 175 [strV s,strV [c]] C (.bool (aP c s).2):=by
 refine Fn.it kr_ Tryz.func175 18 fun w0=>?_
 refine G.z2 1 0 1 ?_
 refine G.rp 9 fun R hR=>?_
 refine D.bG 0 1 rfl rfl rfl rfl rfl rfl rfl rfl rfl (fun hg=>⟨.inl ⟨rfl,rfl⟩,.inr ⟨_,rfl⟩,.inl ⟨rfl,rfl⟩,by omega,(by have h:decide ((1:Int)<=(s.length:Int))=true:=hg.1;simp at h;omega),Nat.le_refl _⟩) rfl rfl ?_
 refine D.ps 2 ?_
 refine D.au ?_
 refine D.q1 1 4 hR ?_
 refine G.rf ?_
 refine ⟨?_,rfl⟩
 cases s with
 | nil=>rfl
 | cons b s =>
  have h1:decide ((1:Int)<=((b::s).length:Nat))=true:=by simp;omega
  unfold aP
  by_cases hb:b=c
  ·subst hb;simp;omega
  ·simp [hb]
theorem cutPL_fn (C:Mem)(s:Str)(c:UInt8):Gives cx.P 143 [strV s,strV [c]] C (.tuple #[strV (aP c s).1,.bool (aP c s).2]):=by
 refine Fn.it kr_ Tryz.func143 15 fun w0=>?_
 refine G.z2 2 0 1 ?_
 refine G.rp 2 fun R hR=>?_
 refine D.aj (hasP_fn _ s c) ?_
 refine D.q3 1 0 1 9 hR ?_
 refine G.cd (fun h9=>?_) fun h9=>?_
 ·have h:¬ s.head?=some c:=fun h=>by unfold aP at h9;rw [if_pos h] at h9;cases h9
  refine G.z2 3 4 5 ?_
  refine G.ay (G.dropAll (G.bg rfl rfl rfl ?_))
  unfold aP
  rw [if_neg h]
  exact ⟨rfl,rfl⟩
 ·have h:s.head?=some c:=Classical.byContradiction fun h=>by unfold aP at h9;rw [if_neg h] at h9;cases h9
  have hlen:1<=s.length:=by cases s with
   | nil=>cases h
   | cons b s=>simp
  refine G.rp 3 fun R hR=>?_
  refine D.bG 1 s.length rfl rfl rfl rfl rfl rfl rfl rfl rfl (fun _=>⟨.inr ⟨_,rfl⟩,.inl ⟨rfl,rfl⟩,.inl ⟨rfl,rfl⟩,by omega,Nat.le_refl _,Nat.le_refl _⟩) rfl rfl ?_
  refine D.q2 2 4 5 hR ?_
  refine G.ay (G.dropAll (G.bg rfl rfl rfl ?_))
  unfold aP
  rw [if_pos h]
  refine ⟨?_,rfl⟩
  rw [List.take_length,List.drop_one];rfl
theorem cutP_fn (C:Mem)(s:Str)(c:UInt8):Gives cx.P 84 [strV s,strV [c]] C (.tuple #[strV (aP c s).1,.bool (aP c s).2]):=by
 refine Fn.it kr_ Tryz.func84 11 fun w0=>?_
 refine G.z2 2 0 1 ?_
 refine G.rp 2 fun R hR=>?_
 refine D.aj (cutPL_fn _ s c) ?_
 refine D.q2 4 4 5 hR ?_
 refine G.ay (G.dropAll (G.bg rfl rfl rfl ?_))
 exact ⟨rfl,rfl⟩

theorem natSingle {C:Mem}{v:Value}{n:Nat}(hn:0<n)(hb:n<B32)(h:Sl C 1 v [[.int .u32 n]]):NatC C v n:=by
 refine ⟨[n],⟨fun x hx=>by rw [List.mem_singleton.1 hx];exact hb, ?_⟩,rfl,h⟩
 simp;omega
theorem natTrim {C:Mem}{v:Value}{n:Nat}(hb:n<B32)(h:Sl C 1 v [[.int .u32 n]]):Pur cx.P 122 [v] C fun u D=>NatC D u n:=by
 have hd:DigD [n]:=fun x hx=>by rw [List.mem_singleton.1 hx];exact hb
 refine (trim_fn C v [n] h).mono fun u D L _ ⟨h1,h2⟩=>⟨h1,trimD [n],eh hd, ?_,h2⟩
 rw [eg];rfl
theorem digits_fn (C:Mem)(s:Str):Pur cx.P 86 [strV s] C fun u D=>∃ A n c,u=.tuple #[.slice A n c,.bool (okD s)]/\(okD s=true->NatC D (.slice A n c) (decV s)):=by
 refine Fn.it kr_ Tryz.func86 51 fun w0=>?_
 refine G.z1 2 0 ?_
 refine G.rp 6 fun R hR=>?_
 refine D.aG rfl rfl rfl rfl rfl rfl rfl rfl ?_
 refine D.ps 2 ?_
 refine D.be (b:=s.headD 0) rfl rfl rfl rfl rfl rfl rfl rfl (fun hg=>⟨by omega,(by
  cases s with
  | nil=>exact Bool.noConfusion (show true=false from hg.1)
  | cons b s=>rfl)⟩) rfl rfl ?_
 refine D.ps 5 ?_
 refine D.au ?_
 refine D.aG rfl rfl rfl rfl rfl rfl rfl rfl ?_
 refine D.e2 0 22 hR ?_
 refine G.cd (fun h22=>?_) fun h22=>?_
 ·have hno:okD s=false:=by
   cases ho:okD s with
   | false=>rfl
   | true =>
    obtain ⟨⟨_,h2,h3⟩,h4⟩:=eI.1 ho
    exfalso
    cases s with
    | nil=>exact h2 rfl
    | cons b s =>
     simp at h22 h3 h4
     rcases h22 with h | h
     ·omega
     ·have hb:b=48:=UInt8.toNat_inj.1 (by have h1:=h.1;show b.toNat=48;omega)
      have:=h3 hb
      subst this
      simp at h
  refine G.z2 2 2 3 ?_
  refine G.ay (G.dropAll (G.bg rfl rfl rfl ?_))
  exact ⟨rfl,_,_,_,by rw [hno],fun h=>by rw [hno] at h;cases h⟩
 ·have hf:s≠[]/\s.length<=200/\(s.head?=some 48->s.length=1):=by
   cases s with
   | nil=>simp at h22
   | cons b s =>
    simp at h22
    refine ⟨by simp,by simp;omega,fun h=>?_⟩
    have hb:b=48:=by simpa using h
    subst hb
    have:=h22.2
    simp at this
    have h0:s.length=0:=by omega
    rw [List.length_eq_zero_iff.1 h0];rfl
  refine G.z2 1 0 4 ?_
  refine G.z4 3 0 4 24 25 ?_
  refine G.loop (fun fr C' L' μ=>∃ (i:Nat)(w:Value),(i<=s.length/\NatC C' w (decV (s.take i))/\∀ c∈s.take i,digB c=true)/\fr=[(0,[],strV s),(4,[],w),(24,[],.int .i64 s.length),(25,[],.int .i64 i)]/\L'=[]/\μ=s.length-i) (h_4 0 4 24 25) ⟨0,_,⟨Nat.zero_le _,natNil _,by simp⟩,rfl,rfl,rfl⟩ (fun fr C0' L0' m hle0 hI=>?_)
  obtain ⟨i,w,⟨hi,hw,hdig⟩,rfl,rfl,rfl⟩:=hI
  refine G.z5 1 0 4 24 25 26 ?_
  refine G.cd (fun h26=>?_) fun h26=>?_
  ·have hil:i<s.length:=by simpa using h26
   obtain ⟨c,hc⟩:∃ c,s[i]?=some c:=⟨s[i],List.getElem?_eq_getElem hil⟩
   refine G.z5 2 0 4 5 24 25 ?_
   refine G.rp 2 fun R hR=>?_
   refine D.be rfl rfl rfl rfl rfl rfl rfl rfl (fun _=>⟨by omega,hc⟩) rfl rfl ?_
   refine D.ps 4 ?_
   refine D.be rfl rfl rfl rfl rfl rfl rfl rfl (fun _=>⟨by omega,hc⟩) rfl rfl ?_
   refine D.ae ?_
   refine D.aG rfl rfl rfl rfl rfl rfl rfl rfl ?_
   refine D.e6 0 4 5 24 25 37 hR ?_
   refine G.cd (fun h37=>?_) fun h37=>?_
   ·have hno:okD s=false:=by
     cases ho:okD s with
     | false=>rfl
     | true =>
      exfalso
      have h:=(eI.1 ho).1.1 c (List.mem_of_getElem? hc)
      unfold digB at h
      simp at h37 h
      omega
    refine G.z2 2 2 3 ?_
    refine G.ay (G.dropAll (G.bg rfl rfl rfl ?_))
    exact ⟨rfl,_,_,_,by rw [hno],fun h=>by rw [hno] at h;cases h⟩
   ·have hcd:48<=c.toNat/\c.toNat<=57:=by
     simp at h37
     omega
    have hsm:Sm s.length (decV (s.take i)):=(decV_sm hdig).le (by rw [List.length_take];omega)
    refine G.bW (fun fr C' L' μ=>∃ (w2:Value),(NatC C' w2 (decV (s.take (i+1))))/\fr=[(0,[],strV s),(4,[],w2),(24,[],.int .i64 s.length),(25,[],.int .i64 i)]/\L'=[]) ?_ (fun fr Cr9 Lr9 μ hler9 hI=>?_)
    ·refine G.fj (.cut [0,3,4,5,6,7] (.alt 1 (.cut [] (.alt 2 (.fin [8,9,10,11]) (.alt 8 (.fin [2,9,10,11]) .stop))) (.alt 8 (.fin [1,2,9,10,11]) .stop))) [(7,0)] rfl rfl kr_ (fun R hB hR hH=>?_)
     refine D.ps 3 ?_
     refine D.be rfl rfl rfl rfl rfl rfl rfl rfl (fun _=>⟨by omega,hc⟩) rfl rfl ?_
     refine D.int (((c.toNat-48:Nat):Int)) rfl rfl rfl rfl (by rw [IntKind.wrap_u8];omega) rfl rfl ?_
     refine D.convQ (c:=((c.toNat-48:Nat):Int)) rfl rfl rfl rfl rfl rfl rfl rfl (by rw [IntKind.wrap_u32];omega) rfl rfl ?_
     refine D.ba hH rfl ⟨?_, ?_,trivial⟩
     ·refine D.af [[.int .u32 10]] (fun p39 C39 hle39 hs39=>?_)
      refine D.ba hH rfl ⟨?_, ?_,trivial⟩
      ·refine D.ax (natMul (k:=1) (hw.mono mup) (natSingle (n:=10) (by decide) (by decide) (hs39.mono mup)) hsm (Sm.one (by decide)) om_ om_) rfl rfl rfl rfl rfl rfl rfl fl_ (fun v40 C40 hle40 hq40=>?_)
       refine D.af [[.int .u32 ((c.toNat-48:Nat):Int)]] (fun p46 C46 hle46 hs46=>?_)
       refine D.ax (natTrim (n:=c.toNat-48) (Nat.lt_of_le_of_lt (Nat.sub_le _ _) (Nat.lt_of_lt_of_le (UInt8.toNat_lt c) (by decide))) (hs46.mono mup)) rfl rfl rfl rfl rfl rfl rfl fl_ (fun v47 C47 hle47 hq47=>?_)
       refine D.ax (natAdd (k:=s.length+1) (hq40.mono mup) (hq47.mono mup) (hsm.mul (Sm.one (by decide))) (Sm.le (Sm.one (Nat.lt_of_le_of_lt (Nat.sub_le _ _) (Nat.lt_of_lt_of_le (UInt8.toNat_lt c) (by decide)))) om_) om_) rfl rfl rfl rfl rfl rfl rfl fl_ (fun v48 C48 hle48 hq48=>?_)
       refine D.q4 1 0 4 24 25 hR ?_
       exact G.ar 0 mup (h_4 0 4 24 25) ⟨_,by rw [decV_tk hc];exact hq48.mono mup,rfl,rfl⟩
      ·refine D.af [[.int .u32 ((c.toNat-48:Nat):Int)]] (fun p46 C46 hle46 hs46=>?_)
       refine D.ax (natMul (k:=1) (hw.mono mup) (natSingle (n:=10) (by decide) (by decide) (hs39.mono mup)) hsm (Sm.one (by decide)) om_ om_) rfl rfl rfl rfl rfl rfl rfl fl_ (fun v40 C40 hle40 hq40=>?_)
       refine D.ax (natTrim (n:=c.toNat-48) (Nat.lt_of_le_of_lt (Nat.sub_le _ _) (Nat.lt_of_lt_of_le (UInt8.toNat_lt c) (by decide))) (hs46.mono mup)) rfl rfl rfl rfl rfl rfl rfl fl_ (fun v47 C47 hle47 hq47=>?_)
       refine D.ax (natAdd (k:=s.length+1) (hq40.mono mup) (hq47.mono mup) (hsm.mul (Sm.one (by decide))) (Sm.le (Sm.one (Nat.lt_of_le_of_lt (Nat.sub_le _ _) (Nat.lt_of_lt_of_le (UInt8.toNat_lt c) (by decide)))) om_) om_) rfl rfl rfl rfl rfl rfl rfl fl_ (fun v48 C48 hle48 hq48=>?_)
       refine D.q4 1 0 4 24 25 hR ?_
       exact G.ar 0 mup (h_4 0 4 24 25) ⟨_,by rw [decV_tk hc];exact hq48.mono mup,rfl,rfl⟩
     ·refine D.af [[.int .u32 ((c.toNat-48:Nat):Int)]] (fun p46 C46 hle46 hs46=>?_)
      refine D.af [[.int .u32 10]] (fun p39 C39 hle39 hs39=>?_)
      refine D.ax (natMul (k:=1) (hw.mono mup) (natSingle (n:=10) (by decide) (by decide) (hs39.mono mup)) hsm (Sm.one (by decide)) om_ om_) rfl rfl rfl rfl rfl rfl rfl fl_ (fun v40 C40 hle40 hq40=>?_)
      refine D.ax (natTrim (n:=c.toNat-48) (Nat.lt_of_le_of_lt (Nat.sub_le _ _) (Nat.lt_of_lt_of_le (UInt8.toNat_lt c) (by decide))) (hs46.mono mup)) rfl rfl rfl rfl rfl rfl rfl fl_ (fun v47 C47 hle47 hq47=>?_)
      refine D.ax (natAdd (k:=s.length+1) (hq40.mono mup) (hq47.mono mup) (hsm.mul (Sm.one (by decide))) (Sm.le (Sm.one (Nat.lt_of_le_of_lt (Nat.sub_le _ _) (Nat.lt_of_lt_of_le (UInt8.toNat_lt c) (by decide)))) om_) om_) rfl rfl rfl rfl rfl rfl rfl fl_ (fun v48 C48 hle48 hq48=>?_)
      refine D.q4 1 0 4 24 25 hR ?_
      exact G.ar 0 mup (h_4 0 4 24 25) ⟨_,by rw [decV_tk hc];exact hq48.mono mup,rfl,rfl⟩
    obtain ⟨w2,hw2,rfl,rfl⟩:=hI
    refine G.rg fun R hR=>?_
    refine D.aq _ ?_
    refine D.q4 1 0 4 24 25 hR ?_
    refine G.ap (m':=s.length-(i+1)) om_ mup (h_4 0 4 24 25) ⟨i+1,w2,⟨by omega,hw2.mono mup,fun x hx=>by
     rw [List.take_add_one,hc] at hx
     rcases List.mem_append.1 hx with h | h
     ·exact hdig x h
     ·simp at h;subst h
      unfold digB;simp [hcd]⟩,rfl,rfl,rfl⟩
  ·have hil:i=s.length:=by
    have:¬ i<s.length:=by simpa using h26
    omega
   rw [hil,List.take_length] at hw hdig
   have hok:okD s=true:=eI.2 ⟨⟨hdig,hf.1,hf.2.2⟩,hf.2.1⟩
   refine G.z2 3 2 3 ?_
   refine G.ay (G.dropAll (G.bg rfl rfl rfl ?_))
   obtain ⟨A9,n9,c9,rfl,_,_⟩:=hw.form
   exact ⟨rfl,_,_,_,by rw [hok],fun _=>hw.mono mup⟩

def bP (s:Str):Option Rat :=
 if okD (cut1 47 (aP 45 s).1).1 && !((aP 45 s).2 && decV (cut1 47 (aP 45 s).1).1 == 0) then
  match (cut1 47 (aP 45 s).1).2 with
  | none=>some (ratB (aP 45 s).2 (decV (cut1 47 (aP 45 s).1).1) 1)
  | some b=>if okD b && decide (1<decV b) && !(decV (cut1 47 (aP 45 s).1).1 == 0) && (Nat.gcd (decV (cut1 47 (aP 45 s).1).1) (decV b) == 1) then some (ratB (aP 45 s).2 (decV (cut1 47 (aP 45 s).1).1) (decV b)) else none
 else none
theorem frOf {C:Mem}{u w:Value}{n d:Nat}{b:Bool}(hd:0<d)(hg:Nat.gcd n d=1)(hb:n=0->b=false)(hu:NatC C u n)(hw:NatC C w d):FrC C (.agg ⟨encF b u w⟩) (ratB b n d):=by
 have hdn:d≠0:=by omega
 refine ⟨u,w, ?_, ?_, ?_⟩
 ·by_cases hn:n=0
  ·rw [hb hn,hn,ratB_zero];rfl
  ·rw [ratB_neg hdn hn]
 ·rw [ratB_abs hdn,hg,Nat.div_one];exact hu
 ·rw [ratB_den hdn,hg,Nat.div_one];exact hw
def zeroF:Value:=.agg ⟨encF false (.slice none 0 0) (.slice none 0 0)⟩
def ReadAt (D:Mem)(v:Value):Option Rat->Prop
 | none=>v=zeroF
 | some q=>FrC D v q
theorem not_off {b:Bool}(h:(!b)=false):b=true:=by cases b <;> simp_all
theorem natGcdV {C:Mem}{u v:Value}{m n k:Nat}(hu:NatC C u m)(hv:NatC C v n)(hm:Sm k m)(hn:Sm k n)(hk:k<=1000000)(hm0:0<m)(hn0:0<n):Pur cx.P 87 [u,v] C fun w D=>∃ b:Value,w=(fun x:Value=>x) b/\NatC D b (Nat.gcd m n) :=
 (natGcd hu hv hm hn hk hm0 hn0).mono fun v _ _ _ ⟨h1,h2⟩=>⟨h1,v,rfl,h2⟩
theorem okD_sm {s:Str}(h:okD s=true):Sm 200 (decV s):=(decV_sm (eI.1 h).1.1).le (eI.1 h).2
theorem read_fn (C:Mem)(s:Str)(hl:s.length<1000000):Pur cx.P 42 [strV s] C fun u D=>∃ v,u=.tuple #[v,.bool (bP s).isSome]/\ReadAt D v (bP s):=by
 obtain ⟨t,neg,hdp⟩:∃ t b,aP 45 s=(t,b):=⟨_,_,rfl⟩
 obtain ⟨top,bo,hct⟩:∃ a b,cut1 47 t=(a,b):=⟨_,_,rfl⟩
 have htl:t.length<1000000:=by
  have:t=(aP 45 s).1:=by rw [hdp]
  rw [this];unfold aP;split
  ·simp;omega
  ·exact hl
 have hM:bP s=if okD top && !(neg && decV top == 0) then (match bo with
  | none=>some (ratB neg (decV top) 1)
  | some b=>if okD b && decide (1<decV b) && !(decV top == 0) && (Nat.gcd (decV top) (decV b) == 1) then some (ratB neg (decV top) (decV b)) else none) else none:=by
  unfold bP;rw [hdp];simp only;rw [hct]
 refine Fn.it kr_ Tryz.func42 72 fun w0=>?_
 refine G.rg fun R hR=>?_
 refine D.aC (fun b2=>?_)
 refine D.q2 1 0 2 hR ?_
 refine G.rp 1 fun R hR=>?_
 refine D.al (by have h:=cutP_fn C s 45;rw [hdp] at h;exact h) rfl rfl rfl rfl rfl rfl rfl fl_ ?_
 refine D.q3 5 2 4 5 hR ?_
 refine G.rp 1 fun R hR=>?_
 refine D.al (by have h:=cut_fn C t 47 htl;rw [hct] at h;exact h) rfl rfl rfl rfl rfl rfl rfl fl_ ?_
 refine D.q5 7 2 5 6 7 8 hR ?_
 refine G.rp 1 fun R hR=>?_
 refine D.aS (digits_fn _ top) (fun v25 C25 hle25 hq25=>?_)
 obtain ⟨A1,n1,c1,rfl,hn1⟩:=hq25
 refine D.q6 5 2 5 7 8 9 10 hR ?_
 have hz1:okD top=true->(n1=0 ↔ decV top=0):=fun h=>by
  obtain ⟨A,n,c,e,hh,_⟩:=(hn1 h).form
  injection e with e1 e2 e3
  rw [e2];exact hh
 refine G.rp 8 fun R hR=>?_
 refine D.au ?_
 refine D.aG rfl rfl rfl rfl rfl rfl rfl rfl ?_
 refine D.e6 2 5 7 8 9 37 hR ?_
 refine G.cd (fun h37=>?_) fun h37=>?_
 ·have hno:bP s=none:=by
   rw [hM,if_neg]
   intro h
   simp at h h37
   rcases h37 with h1 | h1
   ·rw [h1] at h;cases h.1
   ·rcases h.2 with h2 | h2
    ·rw [h2] at h1;cases h1.1
    ·exact h2 ((hz1 h.1).1 om_)
  refine G.rg fun R hR=>?_
  refine D.build (encF false (.slice none 0 0) (.slice none 0 0)) rfl rfl rfl rfl rfl rfl rfl rfl ?_
  refine D.ag (j:=0) ?_
  refine D.q2 1 2 3 hR ?_
  refine G.ay (G.eY (.head _) rfl rfl rfl rfl rfl ?_)
  exact ⟨rfl,_,by rw [hno];rfl,by rw [hno];rfl⟩
 ·have hot:okD top=true/\(neg=true->¬ decV top=0):=by
   simp at h37
   refine ⟨h37.1,fun h h0=>?_⟩
   have:=h37.2 h
   have:=(hz1 h37.1).2 h0
   omega
  have hcond:(okD top && !(neg && decV top == 0))=true:=by
   simp [hot.1]
   cases hn:neg with
   | false=>exact .inl rfl
   | true=>exact .inr (hot.2 hn)
  rw [if_pos hcond] at hM
  have hng:decV top=0->neg=false:=fun h=>by
   cases hn:neg with
   | false=>rfl
   | true=>exact absurd h (hot.2 hn)
  refine G.rg fun R hR=>?_
  refine D.cZ [[.int .u32 1]] rfl rfl rfl rfl rfl rfl rfl rfl rfl rfl rfl rfl fl_ (fun b39 C39 hle39 hs39=>?_)
  refine D.q6 1 2 5 7 8 9 11 hR ?_
  refine G.z6 1 2 5 7 9 11 40 ?_
  refine G.cd (fun h40=>?_) fun h40=>?_
  ·obtain ⟨b,rfl⟩:∃ b,bo=some b:=by
    cases bo with
    | none=>cases h40
    | some b=>exact ⟨b,rfl⟩
   refine G.rp 1 fun R hR=>?_
   refine D.aS (digits_fn _ b) (fun v43 C43 hle43 hq43=>?_)
   obtain ⟨A2,n2,c2,rfl,hn2⟩:=hq43
   refine D.q5 5 2 5 9 10 11 hR ?_
   refine G.aA [(5,2),(16,2),(18,2)] rfl (fun R hR=>?_)
   refine D.ps 4 ?_
   refine D.bX [[.int .u32 1]] rfl rfl rfl rfl rfl rfl rfl rfl rfl rfl rfl rfl fl_ rfl rfl (fun b50 C50 hle50 hs50=>?_)
   refine D.callPG (fun z:Int=>.int .i64 z) (fun hG51=>(by exact natCmp ((hn2 (not_off hG51.1)).mono mup) (natOne ((hs50 ⟨hG51.1,trivial⟩).mono mup)))) rfl rfl rfl rfl rfl rfl rfl fl_ rfl rfl (fun z51 C51 hle51 hq51=>?_)
   refine D.ae ?_
   refine D.aG rfl rfl rfl rfl rfl rfl rfl rfl ?_
   refine D.ps 4 ?_
   refine D.aG rfl rfl rfl rfl rfl rfl rfl rfl ?_
   refine D.ps 3 ?_
   have k51:okD b=true->CmpRes (decV b) 1 z51:=fun h=>hq51 ⟨by show (!okD b)=false;rw [h];rfl,trivial⟩
   have hgf:((!okD b || decide (z51<=0)) || ((n1:Int) == 0))=false->okD b=true/\1<decV b/\0<decV top:=fun h=>by
    simp at h
    have h1:=(k51 h.1.1).2.1.1 h.1.2
    have h2:=mt (hz1 hot.1).2 om_
    exact ⟨h.1.1,h1,by omega⟩
   refine D.callPG (fun x:Value=>x) (fun hG62=>(by exact natGcdV (k:=200) ((hn1 hot.1).mono mup) ((hn2 (hgf hG62.1).1).mono mup) (okD_sm hot.1) (okD_sm (hgf hG62.1).1) om_ (hgf hG62.1).2.2 (Nat.lt_trans Nat.zero_lt_one (hgf hG62.1).2.1))) rfl rfl rfl rfl rfl rfl rfl fl_ rfl rfl (fun g62 C62 hle62 hq62=>?_)
   refine D.bX [[.int .u32 1]] rfl rfl rfl rfl rfl rfl rfl rfl rfl rfl rfl rfl fl_ rfl rfl (fun b63 C63 hle63 hs63=>?_)
   refine D.callPG (fun z:Int=>.int .i64 z) (fun hG64=>(by exact natCmp ((hq62 ⟨hG64.1,trivial⟩).mono mup) (natOne ((hs63 ⟨hG64.1,trivial⟩).mono mup)))) rfl rfl rfl rfl rfl rfl rfl fl_ rfl rfl (fun z64 C64 hle64 hq64=>?_)
   have k64:((!okD b || decide (z51<=0)) || ((n1:Int) == 0))=false->CmpRes (Nat.gcd (decV top) (decV b)) 1 z64:=fun h=>hq64 ⟨h,trivial⟩
   refine D.ae ?_
   refine D.aG rfl rfl rfl rfl rfl rfl rfl rfl ?_
   refine D.e5 2 5 9 11 66 hR ?_
   refine G.cd (fun h66=>?_) fun h66=>?_
   ·have hno:bP s=none:=by
     rw [hM]
     simp only
     rw [if_neg]
     intro h
     simp at h
     obtain ⟨⟨⟨h1,h2⟩,h3⟩,h4⟩:=h
     have h5:((!okD b || decide (z51<=0)) || ((n1:Int) == 0))=false:=by
      have e1:=(k51 h1).2.1.2 h2
      have e2:=mt (hz1 hot.1).1 h3
      simp [h1]
      omega
     have h6:=k64 h5
     rw [h5] at h66
     have h7:z64=0:=by
      have a1:=h6.1
      have a2:=h6.2.1
      omega
     rw [h7] at h66
     simp at h66
    refine G.rg fun R hR=>?_
    refine D.build (encF false (.slice none 0 0) (.slice none 0 0)) rfl rfl rfl rfl rfl rfl rfl rfl ?_
    refine D.ag (j:=0) ?_
    refine D.q2 1 2 3 hR ?_
    refine G.ay (G.eY (.head _) rfl rfl rfl rfl rfl ?_)
    exact ⟨rfl,_,by rw [hno];rfl,by rw [hno];rfl⟩
   ·have hr:okD b=true/\1<decV b/\0<decV top/\Nat.gcd (decV top) (decV b)=1:=by
     rw [Bool.or_eq_false_iff] at h66
     have h1:=hgf h66.1
     have h2:=k64 h66.1
     have h3:z64=0:=by simpa using h66.2
     refine ⟨h1.1,h1.2.1,h1.2.2, ?_⟩
     have a1:=h2.1
     have a2:=h2.2.1
     omega
    have hyes:bP s=some (ratB neg (decV top) (decV b)):=by
     rw [hM]
     simp only
     rw [if_pos]
     simp [hr.1,hr.2.1,hr.2.2.2]
     omega
    refine G.rp 3 fun R hR=>?_
    refine D.build (encF neg (.slice A1 n1 c1) (.slice A2 n2 c2)) rfl rfl rfl rfl rfl rfl rfl rfl ?_
    refine D.ag (j:=0) ?_
    refine D.q2 1 2 3 hR ?_
    refine G.ay (G.eY (.head _) rfl rfl rfl rfl rfl ?_)
    refine ⟨rfl,_,by rw [hyes];rfl, ?_⟩
    rw [hyes]
    exact frOf om_ hr.2.2.2 hng ((hn1 hot.1).mono mup) ((hn2 hr.1).mono mup)
  ·obtain rfl:bo=none:=by
    cases bo with
    | none=>rfl
    | some b=>cases h40
   refine G.rp 3 fun R hR=>?_
   refine D.build (encF neg (.slice A1 n1 c1) (.slice (some ⟨b39,0,none⟩) 1 1)) rfl rfl rfl rfl rfl rfl rfl rfl ?_
   refine D.ag (j:=0) ?_
   refine D.q2 1 2 3 hR ?_
   refine G.ay (G.eY (.head _) rfl rfl rfl rfl rfl ?_)
   refine ⟨rfl,_,by rw [hM];rfl, ?_⟩
   rw [hM]
   exact frOf om_ (Nat.gcd_one_right _) hng ((hn1 hot.1).mono mup) (natOne (hs39.mono mup))

structure Tabs (C:Mem):Prop where
 pow : VarC cx.P C "internal/strconv.uint64pow10" (Lib.pow10Tab.map fun z => Value.int .u64 z).toArray
theorem Tabs.mono {C D:Mem}(h:Tabs C)(hl:C.le D):Tabs D:=⟨h.pow.mono hl⟩
theorem itoa_g (C:Mem)(hT:Tabs C)(n:Int)(h0:-9223372036854775808<=n)(h1:n<=9223372036854775807):Gives cx.P 106 [.int .i64 n] C (strV (Lib.itoa n)) :=
 itoa_fn Tryz.itoa n h0 h1 C hT.pow kr_

structure FV where
 b:Bool
 A:Option Addr
 n:Nat
 c:Nat
 A2:Option Addr
 n2:Nat
 c2:Nat
def FV.enc (x:FV):List Value:=[.bool x.b,.slice x.A x.n x.c,.slice x.A2 x.n2 x.c2]
theorem fv_len (x:FV):x.enc.length=3:=rfl
theorem FrC.fv {C:Mem}{v:Value}{q:Rat}(h:FrC C v q):∃ x:FV,v=.agg ⟨x.enc⟩:=by
 obtain ⟨A,n,c,A',n',c',rfl⟩:=h.form
 exact ⟨⟨_,A,n,c,A',n',c'⟩,rfl⟩
theorem ReadAt.fv {D:Mem}{v:Value}:∀ {o:Option Rat},ReadAt D v o->∃ x:FV,v=.agg ⟨x.enc⟩
 | none,h=>⟨⟨false,none,0,0,none,0,0⟩,h⟩
 | some _,h=>FrC.fv h
def RowsF (C:Mem)(xs:List FV)(qs:List Rat):Prop:=xs.length=qs.length/\∀ (i:Nat)(x:FV)(q:Rat),xs[i]?=some x->qs[i]?=some q->FrC C (.agg ⟨x.enc⟩) q
theorem RowsF.mono {C D:Mem}{xs:List FV}{qs:List Rat}(h:RowsF C xs qs)(hl:C.le D):RowsF D xs qs:=⟨h.1,fun i x q h1 h2=>(h.2 i x q h1 h2).mono hl⟩
theorem RowsF.nil (C:Mem):RowsF C [] []:=⟨rfl,fun i x q h=>by simp at h⟩
theorem RowsF.snoc {C:Mem}{xs:List FV}{qs:List Rat}{x:FV}{q:Rat}(h:RowsF C xs qs)(hx:FrC C (.agg ⟨x.enc⟩) q):RowsF C (xs++[x]) (qs++[q]):=by
 refine ⟨by simp [h.1],fun i y p h1 h2=>?_⟩
 rcases Nat.lt_or_ge i xs.length with hi | hi
 ·rw [List.getElem?_append_left hi] at h1
  rw [List.getElem?_append_left (by rw [<- h.1];exact hi)] at h2
  exact h.2 i y p h1 h2
 ·rw [List.getElem?_append_right hi] at h1
  rw [List.getElem?_append_right (by rw [<- h.1];exact hi)] at h2
  cases hk:i-xs.length with
  | zero =>
   rw [<- h.1,hk] at h2
   rw [hk] at h1
   simp at h1 h2
   subst h1 h2
   exact hx
  | succ k=>rw [hk] at h1;simp at h1
def FrL (C:Mem)(v:Value)(qs:List Rat):Prop:=∃ xs:List FV,Sl C 3 v (xs.map FV.enc)/\RowsF C xs qs
theorem FrL.mono {C D:Mem}{v:Value}{qs:List Rat}(h:FrL C v qs)(hl:C.le D):FrL D v qs:=by
 obtain ⟨xs,h1,h2⟩:=h
 exact ⟨xs,h1.mono hl,h2.mono hl⟩
theorem FrL.form {C:Mem}{v:Value}{qs:List Rat}(h:FrL C v qs):∃ A c,v=.slice A qs.length c:=by
 obtain ⟨xs,h1,h2⟩:=h
 obtain ⟨A,c,rfl,_⟩:=h1
 exact ⟨A,c,by rw [List.length_map,show xs.length=qs.length from h2.1]⟩
theorem RowsF.get {C:Mem}{xs:List FV}{qs:List Rat}{i:Nat}{q:Rat}(h:RowsF C xs qs)(hq:qs[i]?=some q):∃ x,xs[i]?=some x/\(xs.map FV.enc)[i]?=some x.enc/\FrC C (.agg ⟨x.enc⟩) q:=by
 have hi:i<qs.length:=(List.getElem?_eq_some_iff.1 hq).1
 have hx:xs[i]?=some (xs[i]'(Nat.lt_of_lt_of_eq hi h.1.symm)):=List.getElem?_eq_getElem _
 exact ⟨_,hx,by rw [List.getElem?_map,hx];rfl,h.2 i _ q hx hq⟩
def aN:List Str->Option (List Rat)
 | []=>some []
 | s::l=>match bP s,aN l with
  | some q,some qs=>some (q::qs)
  | _,_=>none
theorem readsM_snoc:∀ (l:List Str)(s:Str),aN (l++[s])=match aN l,bP s with
  | some qs,some q=>some (qs++[q])
  | _,_=>none
 | [],s=>by
  simp only [List.nil_append,aN]
  cases bP s <;> rfl
 | a::l,s=>by
  simp only [List.cons_append,aN,readsM_snoc l s]
  cases bP a <;> cases aN l <;> cases bP s <;> rfl
theorem readsM_none:∀ {l:List Str}{s:Str},s∈l->bP s=none->aN l=none
 | a::l,s,hs,h=>by
  simp only [aN]
  rcases List.mem_cons.1 hs with rfl | h2
  ·rw [h]
  ·rw [readsM_none h2 h]
   cases bP a <;> rfl
theorem readsM_len:∀ {l:List Str}{qs:List Rat},aN l=some qs->qs.length=l.length
 | [],qs,h=>by simp only [aN,Option.some.injEq] at h;subst h;rfl
 | a::l,qs,h=>by
  simp only [aN] at h
  cases ha:bP a with
  | none=>rw [ha] at h;cases h
  | some q =>
   cases hl:aN l with
   | none=>rw [ha,hl] at h;cases h
   | some ps =>
    rw [ha,hl] at h
    simp only [Option.some.injEq] at h
    subst h
    simp [readsM_len hl]
theorem oneSm {k:Nat}(hk:0<k):Sm k 1:=(Sm.one (by decide)).le hk
theorem readM_sm {s:Str}{q:Rat}(h:bP s=some q):SmQ 200 q:=by
 unfold bP at h
 split at h
 ·rename_i hc
  simp only [Bool.and_eq_true] at hc
  have h1:=okD_sm hc.1
  split at h
  ·cases h
   exact SmQ.ratB _ om_ h1 (oneSm om_)
  ·split at h
   ·rename_i hc2
    simp only [Bool.and_eq_true,decide_eq_true_eq] at hc2
    cases h
    exact SmQ.ratB _ om_ h1 (okD_sm hc2.1.1.1)
   ·cases h
 ·cases h
theorem readsM_sm:∀ {l:List Str}{qs:List Rat},aN l=some qs->∀ q∈qs,SmQ 200 q
 | [],qs,h,q,hq=>by simp only [aN,Option.some.injEq] at h;subst h;simp at hq
 | a::l,qs,h,q,hq=>by
  simp only [aN] at h
  cases ha:bP a with
  | none=>rw [ha] at h;cases h
  | some p =>
   cases hl:aN l with
   | none=>rw [ha,hl] at h;cases h
   | some ps =>
    rw [ha,hl] at h
    simp only [Option.some.injEq] at h
    subst h
    rcases List.mem_cons.1 hq with rfl | h2
    ·exact readM_sm ha
    ·exact readsM_sm hl q h2
theorem readAll_fn (C:Mem)(v:Value)(l:List Str)(hv:Sl C 1 v (l.map encS))(hl:l.length<=1000000)(hs:∀ s∈l,s.length<1000000):Pur cx.P 23 [v] C fun u D=>∃ A n c,u=.tuple #[.slice A n c,.bool (aN l).isSome]/\∀ qs,aN l=some qs->FrL D (.slice A n c) qs:=by
 obtain ⟨A0,c0,rfl,_⟩:=id hv
 simp only [List.length_map] at hv ⊢
 refine Fn.it kr_ Tryz.func23 28 fun w0=>?_
 refine G.z1 2 0 ?_
 refine G.z2 1 0 4 ?_
 refine G.z4 3 4 9 10 11 ?_
 refine G.nilArr 86 3 ?_
 refine G.loop (fun fr C' L' μ=>∃ (i:Nat)(qs:List Rat)(xs:List FV)(w:Value),(i<=l.length/\aN (l.take i)=some qs/\RowsF C' xs qs/\xs.length=i)/\fr=[(4,[],w),(9,[],.slice A0 l.length c0),(10,[],.int .i64 l.length),(11,[],.int .i64 i)]/\L'=[.arr w 86 3 i (xs.map FV.enc).flatten]/\μ=l.length-i) (h_4 4 9 10 11) ⟨0,[],[],_,⟨Nat.zero_le _,rfl,RowsF.nil _,rfl⟩,rfl,rfl,rfl⟩ (fun fr C0' L0' m hle0 hI=>?_)
 obtain ⟨i,qs,xs,w,⟨hi,hqs,hxs,hxl⟩,rfl,rfl,rfl⟩:=hI
 refine G.z5 1 4 9 10 11 12 ?_
 refine G.cd (fun h12=>?_) fun h12=>?_
 ·have hil:i<l.length:=by simpa using h12
  obtain ⟨s,hs0⟩:∃ s,l[i]?=some s:=⟨l[i],List.getElem?_eq_getElem hil⟩
  have hrow:(l.map encS)[i]?=some (encS s):=by rw [List.getElem?_map,hs0];rfl
  have hsl:=hs s (List.mem_of_getElem? hs0)
  have htk:l.take (i+1)=l.take i++[s]:=by rw [List.take_add_one,hs0];rfl
  refine G.rg fun R hR=>?_
  refine D.ak (hv.mono mup) rfl rfl rfl rfl rfl rfl rfl rfl rfl rfl om_ hrow fl_ (fun p13 hp13=>?_)
  refine D.ac hp13 ?_
  refine D.q5 1 4 6 9 10 11 hR ?_
  refine G.rp 1 fun R hR=>?_
  refine D.aS (read_fn _ s hsl) (fun v17 C17 hle17 hq17=>?_)
  obtain ⟨vf,rfl,hvf⟩:=hq17
  obtain ⟨x,rfl⟩:=hvf.fv
  refine D.ps 3 ?_
  refine D.aC (fun b7=>?_)
  refine D.ag (j:=0) ?_
  refine D.q6 1 4 7 8 9 10 11 hR ?_
  refine G.z6 2 4 7 9 10 11 21 ?_
  refine G.cd (fun h21=>?_) fun h21=>?_
  ·have hno:bP s=none:=by
    cases h:bP s with
    | none=>rfl
    | some q=>rw [h] at h21;cases h21
   have hno2:aN l=none:=readsM_none (List.mem_of_getElem? hs0) hno
   refine G.z2 2 2 3 ?_
   refine G.ay (G.dropAll (G.bg rfl rfl rfl ?_))
   exact ⟨rfl,_,_,_,by rw [hno2];rfl,fun qs h=>by rw [hno2] at h;cases h⟩
  ·obtain ⟨q,hq⟩:∃ q,bP s=some q:=by
    cases h:bP s with
    | none=>rw [h] at h21;cases h21
    | some q=>exact ⟨q,rfl⟩
   rw [hq] at hvf
   refine G.rp 1 fun R hR=>?_
   refine D.ah (.head _) ?_
   refine D.af [x.enc] (fun p24 C24 hle24 hs24=>?_)
   refine D.append (j:=1) rfl rfl rfl rfl rfl rfl rfl rfl rfl rfl rfl hs24 rfl (by simp only [List.length_singleton,maxLen];omega) (by show (i+1)*56<=_;omega) fl_ (fun v25=>?_)
   refine D.q4 1 4 9 10 11 hR ?_
   refine G.rg fun R hR=>?_
   refine D.aq _ ?_
   refine D.q4 1 4 9 10 11 hR ?_
   refine G.dropE 1 rfl ?_
   refine G.aM (L':=[.arr v25 86 3 (i+1) ((xs++[x]).map FV.enc).flatten]) (by simp) ?_
   refine G.ap (m':=l.length-(i+1)) om_ mup (h_4 4 9 10 11) ⟨i+1,qs++[q],xs++[x],v25,⟨by omega,by rw [htk,readsM_snoc,hqs,hq],(hxs.mono mup).snoc (FrC.mono hvf mup),by simp [hxl]⟩,rfl,rfl,rfl⟩
 ·have hil:i=l.length:=by
   have:¬ i<l.length:=by simpa using h12
   omega
  rw [hil,List.take_length] at hqs
  refine G.freezeArr 0 (xs.map FV.enc) rfl rfl (by intro r hr;obtain ⟨y,_,rfl⟩:=List.mem_map.1 hr;rfl) (by rw [List.length_map,hxl]) (fun Cf hf hsd=>?_)
  obtain ⟨A9,c9,rfl,_⟩:=id hsd
  refine G.z2 3 2 3 ?_
  refine G.ay (G.dropAll (G.bg rfl rfl rfl ?_))
  refine ⟨rfl,_,_,_,by rw [hqs];rfl,fun ps h=>?_⟩
  rw [hqs] at h
  cases h
  exact ⟨xs,hsd.mono mup,hxs.mono mup⟩

theorem of_fn (C:Mem)(hT:Tabs C)(n:Int)(q:Rat)(h0:-9223372036854775808<=n)(h1:n<=9223372036854775807)(hl:(Lib.itoa n).length<1000000)(hq:bP (Lib.itoa n)=some q):Pur cx.P 63 [.int .i64 n] C fun u D=>FrC D u q:=by
 refine Fn.it kr_ Tryz.func63 12 fun w0=>?_
 refine G.rg fun R hR=>?_
 refine D.aC (fun b2=>?_)
 refine D.e2 0 2 hR ?_
 refine G.rp 1 fun R hR=>?_
 refine D.aj (itoa_g _ (hT.mono mup) n h0 h1) ?_
 refine D.aS (read_fn _ _ hl) (fun v8 C8 hle8 hq8=>?_)
 obtain ⟨vf,rfl,hvf⟩:=hq8
 obtain ⟨x,rfl⟩:=hvf.fv
 rw [hq] at hvf
 refine D.ps 3 ?_
 refine D.aC (fun b3=>?_)
 refine D.ag (j:=0) ?_
 refine D.q2 1 2 3 hR ?_
 refine G.rg fun R hR=>?_
 refine D.ah (.head _) ?_
 refine D.ag (j:=1) ?_
 refine D.e1 2 hR ?_
 refine G.ay (G.dz (.head _) rfl rfl rfl rfl ?_)
 exact ⟨rfl,FrC.mono hvf mup⟩
theorem of0_fn (C:Mem)(hT:Tabs C):Pur cx.P 63 [.int .i64 0] C fun u D=>FrC D u 0 :=
 of_fn C hT 0 0 (by decide) (by decide) (by decide +kernel) (by decide +kernel)
def gQ (l:List Rat)(i:Nat):Rat:=l.getD i 0
theorem gQ_get {l:List Rat}{i:Nat}(h:i<l.length):l[i]?=some (gQ l i):=by
 unfold gQ;rw [List.getD_eq_getElem?_getD,List.getElem?_eq_getElem h];rfl
def dotN (ps qs:List Rat):Nat->Rat
 | 0=>0
 | i+1=>dotN ps qs i+gQ ps i*gQ qs i
def dotR (ps qs:List Rat):Rat:=dotN ps qs ps.length
theorem dotN_sm {ps qs:List Rat}{j k:Nat}(hp:∀ p∈ps,SmQ j p)(hq:∀ q∈qs,SmQ k q)(hlen:ps.length<=qs.length):∀ i,i<=ps.length->SmQ ((j+k+1)*i+1) (dotN ps qs i)
 | 0,_=>⟨by show Sm _ 0;unfold Sm;exact Nat.pow_pos (by decide),oneSm om_⟩
 | i+1,h=>by
  have h1:=dotN_sm hp hq hlen i om_
  have h2:=hp _ (List.mem_of_getElem? (gQ_get (l:=ps) (i:=i) om_))
  have h3:=hq _ (List.mem_of_getElem? (gQ_get (l:=qs) (i:=i) om_))
  have h4:=h1.add (h2.mul h3)
  have e:(j+k+1)*(i+1)+1=(j+k+1)*i+1+(j+k)+1:=by rw [Nat.mul_succ];omega
  rw [e]
  exact h4
theorem sum_fn (C:Mem)(hT:Tabs C)(va vb:Value)(ps qs:List Rat)(j k:Nat)(ha:FrL C va ps)(hb:FrL C vb qs)(hlen:ps.length<=qs.length)(hp:∀ p∈ps,SmQ j p)(hq:∀ q∈qs,SmQ k q)(hs:(j+k+1)*(ps.length+1)<=900000) :
  Pur cx.P 25 [va,vb] C fun u D=>FrC D u (dotR ps qs):=by
 obtain ⟨xs,hsa,hxa⟩:=ha
 obtain ⟨ys,hsb,hxb⟩:=hb
 obtain ⟨A0,c0,rfl,hlx,hlx2,_⟩:=id hsa
 obtain ⟨B0,d0,rfl,_⟩:=id hsb
 have hlxs:xs.length=ps.length:=hxa.1
 have hmx:maxLen<=9223372036854775807:=by simp [maxLen]
 simp only [List.length_map] at hsa hsb hlx hlx2 ⊢
 refine Fn.it kr_ Tryz.func25 26 fun w0=>?_
 refine G.rg fun R hR=>?_
 refine D.aC (fun b4=>?_)
 refine D.e3 0 1 4 hR ?_
 refine G.rg fun R hR=>?_
 refine D.aS (of0_fn _ (hT.mono mup)) (fun v7 C7 hle7 hq7=>?_)
 obtain ⟨x0,rfl⟩:=hq7.fv
 refine D.aC (fun b5=>?_)
 refine D.ag (j:=0) ?_
 refine D.e4 0 1 4 5 hR ?_
 refine G.z6 3 0 1 4 5 9 10 ?_
 refine G.loop (fun fr C' L' μ=>∃ (i:Nat)(x:FV),(i<=ps.length/\FrC C' (.agg ⟨x.enc⟩) (dotN ps qs i))/\fr=[(0,[],.slice A0 xs.length c0),(1,[],.slice B0 ys.length d0),(4,[],.pointer (some ⟨b4,0,none⟩)),(5,[],.pointer (some ⟨b5,0,none⟩)),(9,[],.int .i64 xs.length),(10,[],.int .i64 i)]/\L'=[.obj b5 (.cells ⟨x.enc⟩ 86 (0,0)),.obj b4 (.cells ⟨(FV.mk false none 0 0 none 0 0).enc⟩ 86 (0,0))]/\μ=ps.length-i) (h_6 0 1 4 5 9 10) ⟨0,x0,⟨Nat.zero_le _,hq7⟩,rfl,rfl,rfl⟩ (fun fr C0' L0' m hle0 hI=>?_)
 obtain ⟨i,x,⟨hi,hx⟩,rfl,rfl,rfl⟩:=hI
 refine G.z7 1 0 1 4 5 9 10 11 ?_
 refine G.cd (fun h11=>?_) fun h11=>?_
 ·have hil:i<ps.length:=by rw [<- hlxs];simpa using h11
  obtain ⟨y,hy0,hyr,hy⟩:=hxa.get (gQ_get hil)
  obtain ⟨z,hz0,hzr,hz⟩:=hxb.get (gQ_get (Nat.lt_of_lt_of_le hil hlen))
  have h2:=hp _ (List.mem_of_getElem? (gQ_get hil))
  have h3:=hq _ (List.mem_of_getElem? (gQ_get (Nat.lt_of_lt_of_le hil hlen)))
  have hb1:(j+k+1)*(i+1)<=900000:=Nat.le_trans (Nat.mul_le_mul_left _ om_) hs
  rw [Nat.mul_succ] at hb1
  have hdm:=dotN_sm hp hq hlen i hi
  refine G.z7 2 0 1 4 5 6 9 10 ?_
  refine G.aH [0,1,2,3,4,5,6,7,8,9,10,11] [] rfl kr_ (fun R hB hR=>?_)
  refine D.ah (.head _) ?_
  refine D.ps 2 ?_
  refine D.ak (hsa.mono mup) rfl rfl rfl rfl rfl rfl rfl rfl rfl rfl om_ hyr fl_ (fun p16 hp16=>?_)
  refine D.ac hp16 ?_
  refine D.ps 2 ?_
  refine D.ak (hsb.mono mup) rfl rfl rfl rfl rfl rfl rfl rfl rfl rfl om_ hzr fl_ (fun p20 hp20=>?_)
  refine D.ac hp20 ?_
  refine D.ax (fmul_fn (hy.mono mup) (hz.mono mup) h2 h3 om_) rfl rfl rfl rfl rfl rfl rfl fl_ (fun v22 C22 hle22 hq22=>?_)
  refine D.ax (fadd_fn (hx.mono mup) (hq22.mono mup) hdm (h2.mul h3) om_) rfl rfl rfl rfl rfl rfl rfl fl_ (fun v23 C23 hle23 hq23=>?_)
  obtain ⟨x2,rfl⟩:=hq23.fv
  refine D.ag (j:=0) ?_
  refine D.e6 0 1 4 5 9 10 hR ?_
  refine G.rg fun R hR=>?_
  refine D.aq _ ?_
  refine D.q6 1 0 1 4 5 9 10 hR ?_
  refine G.ap (m':=ps.length-(i+1)) om_ mup (h_6 0 1 4 5 9 10) ⟨i+1,x2,⟨by omega,hq23.mono mup⟩,rfl,rfl,rfl⟩
 ·have hil:i=ps.length:=by
   have:¬ i<xs.length:=by simpa using h11
   omega
  refine G.rg fun R hR=>?_
  refine D.ah (.head _) ?_
  refine D.ag (j:=1) ?_
  refine D.e1 4 hR ?_
  refine G.ay (G.dz (.head _) rfl rfl rfl rfl ?_)
  refine ⟨rfl, ?_⟩
  unfold dotR
  rw [<- hil]
  exact hx.mono mup
end Go.Proofs.YtifolnapeolhcaaGreatDoor
