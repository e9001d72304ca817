/- Laws that the proofs of this seat share, part 4. -/
import Derived.Test.YtjhmlnebikbdbaaGreatDoorG3
import Derived.Test.YtjhmlnebikbdbaaGreatDoorShelf
import Derived.Lib.Bytealg
import Derived.Shelf.Spec.TrailingZeros
import Derived.Shelf.Strconv.Itoa3
set_option maxHeartbeats 4000000
namespace Go.Proofs.YtjhmlnebikbdbaaGreatDoor
open Go Go.Jog
set_option maxRecDepth 100000

theorem natOver {C:Mem}{u v:Value}{m b k:Nat}(hu:NatC C u m)(hv:NatC C v b)(hm:Sm k m)(hb:Sm k b)(hb0:0<b)(hk:k<=1000000):Pur cx.P 117 [u,v] C fun w D=>NatC D w (m / b):=by
 obtain ⟨a,ha,rfl,hsa⟩:=hu
 exact nover_fn hsa ha hv hk (hm.len ha) hb hb0
def encF (b:Bool)(u w:Value):List Value:=[.bool b,u,w]
def FrC (C:Mem)(v:Value)(q:Rat):Prop:=∃ u w,v=.agg ⟨encF (decide (q.num<0)) u w⟩/\NatC C u q.num.natAbs/\NatC C w q.den
theorem FrC.mono {C D:Mem}{v:Value}{q:Rat}(h:FrC C v q)(hl:C.le D):FrC D v q:=by
 obtain ⟨u,w,h1,h2,h3⟩:=h
 exact ⟨u,w,h1,h2.mono hl,h3.mono hl⟩
theorem gcd_pos1 {n d:Nat}(h:¬ 1<Nat.gcd n d)(hn:0<n):Nat.gcd n d=1:=by
 have:=Nat.gcd_pos_of_pos_left d hn
 omega
theorem clowest_fn {C:Mem}{u w:Value}{n d k:Nat}(b:Bool)(hu:NatC C u n)(hw:NatC C w d)(hn:Sm k n)(hd:Sm k d)(hd0:0<d)(hk:k<=1000000):Pur cx.P 73 [.bool b,u,w] C fun r D=>FrC D r (ratB b n d):=by
 obtain ⟨A0,z0,c0,rfl,hz0,hz1⟩:=hu.form
 obtain ⟨A9,z9,c9,rfl,_,_⟩:=hw.form
 have hdn:d≠0:=by omega
 refine Fn.it kr_ Tryz.func73 30 fun w0=>?_
 refine G.rg fun R hR=>?_
 refine D.aj (fun b6=>?_)
 refine D.e4 0 1 2 6 hR ?_
 refine G.z5 3 0 1 2 6 10 ?_
 refine G.cd (fun h10=>?_) fun h10=>?_
 ·have hn0:n=0:=by
   have:(z0:Int)=0:=by simpa using h10
   exact hz0.1 om_
  refine G.rg fun R hR=>?_
  refine D.cD [[.int .u32 1]] rfl rfl rfl rfl rfl rfl rfl rfl rfl rfl rfl rfl fl_ (fun b11 C11 hle11 hs11=>?_)
  refine D.build (encF false (.slice none 0 0) (.slice (some ⟨b11,0,none⟩) 1 1)) rfl rfl rfl rfl rfl rfl rfl rfl ?_
  refine D.ac (j:=0) ?_
  refine D.e1 6 hR ?_
  refine G.aA (G.dG (.head _) rfl rfl rfl rfl ?_)
  refine ⟨rfl, ?_⟩
  rw [hn0,ratB_zero]
  exact ⟨_,_,rfl,natNil _,natOne (hs11.mono mup)⟩
 ·have hn0:0<n:=by
   have:¬ (z0:Int)=0:=by simpa using h10
   have:=mt hz0.2
   omega
  refine G.rp 2 fun R hR=>?_
  refine D.aJ (natGcd (hu.mono mup) (hw.mono mup) hn hd hk hn0 hd0) (fun v15 C15 hle15 hq15=>?_)
  refine D.q5 1 0 1 2 6 7 hR ?_
  refine G.rp 1 fun R hR=>?_
  refine D.ah [[.int .u32 1]] (fun p17 C17 hle17 hs17=>?_)
  refine D.aJ (natCmp (hq15.mono mup) (natOne (hs17.mono mup))) (fun v18 C18 hle18 hq18=>?_)
  obtain ⟨z,rfl,hz⟩:=hq18
  have hgs:Sm k (Nat.gcd n d):=hn.mono (Nat.gcd_le_left d hn0)
  have hg0:0<Nat.gcd n d:=Nat.gcd_pos_of_pos_left d hn0
  refine D.q6 1 0 1 2 6 7 19 hR ?_
  refine G.cd (fun h19=>?_) fun h19=>?_
  ·refine G.rp 2 fun R hR=>?_
   refine D.aJ (natOver (hu.mono mup) (hq15.mono mup) hn hgs hg0 hk) (fun v22 C22 hle22 hq22=>?_)
   refine D.ps 2 ?_
   refine D.aJ (natOver (hw.mono mup) (hq15.mono mup) hd hgs hg0 hk) (fun v25 C25 hle25 hq25=>?_)
   refine D.q4 2 0 1 2 6 hR ?_
   obtain ⟨A1,z1,c1,rfl,_,_⟩:=hq22.form
   obtain ⟨A2,z2,c2,rfl,_,_⟩:=hq25.form
   refine G.rp 3 fun R hR=>?_
   refine D.build (encF b (.slice A1 z1 c1) (.slice A2 z2 c2)) rfl rfl rfl rfl rfl rfl rfl rfl ?_
   refine D.ac (j:=0) ?_
   refine D.e1 6 hR ?_
   refine G.aA (G.dG (.head _) rfl rfl rfl rfl ?_)
   refine ⟨rfl,.slice A1 z1 c1,.slice A2 z2 c2, ?_, ?_, ?_⟩
   ·rw [ratB_neg hdn om_];rfl
   ·rw [ratB_abs hdn];exact hq22.mono mup
   ·rw [ratB_den hdn];exact hq25.mono mup
  ·have hg1:Nat.gcd n d=1:=by
    refine gcd_pos1 (fun h=>?_) hn0
    have h1:¬ (0:Int)<z:=by simpa using h19
    exact h1 (hz.2.1.2 h)
   refine G.rp 3 fun R hR=>?_
   refine D.build (encF b (.slice A0 z0 c0) (.slice A9 z9 c9)) rfl rfl rfl rfl rfl rfl rfl rfl ?_
   refine D.ac (j:=0) ?_
   refine D.e1 6 hR ?_
   refine G.aA (G.dG (.head _) rfl rfl rfl rfl ?_)
   refine ⟨rfl,.slice A0 z0 c0,.slice A9 z9 c9, ?_, ?_, ?_⟩
   ·rw [ratB_neg hdn om_];rfl
   ·rw [ratB_abs hdn,hg1,Nat.div_one];exact hu.mono mup
   ·rw [ratB_den hdn,hg1,Nat.div_one];exact hw.mono mup
def sgn (q:Rat):Int:=if q<0 then -1 else if q=0 then 0 else 1
theorem num_neg_iff (q:Rat):q.num<0 ↔ q<0:=by
 have:=Rat.num_nonneg (q:=q)
 rw [<- Rat.not_le,<- this];omega
theorem sign_fn {C:Mem}{v:Value}{q:Rat}(hv:FrC C v q):Gives cx.P 35 [v] C (.int .i64 (sgn q)):=by
 obtain ⟨u,w,rfl,hu,hw⟩:=hv
 obtain ⟨A0,z0,c0,rfl,hz0,hz1⟩:=hu.form
 have hnn:=num_neg_iff q
 refine Fn.it kr_ Tryz.func35 11 fun w0=>?_
 refine G.rg fun R hR=>?_
 refine D.aM (fun b1=>?_)
 refine D.q1 1 1 hR ?_
 refine G.rp 1 fun R hR=>?_
 refine D.ag (.head _) ?_
 refine D.q2 1 1 3 hR ?_
 refine G.cd (fun h3=>?_) fun h3=>?_
 ·refine G.z1 1 2 ?_
  refine G.rf ?_
  refine ⟨?_,rfl⟩
  have h:q<0:=hnn.1 (by simpa using h3)
  unfold sgn;rw [if_pos h]
 ·refine G.rp 1 fun R hR=>?_
  refine D.ag (.head _) ?_
  refine D.q1 3 6 hR ?_
  refine G.cd (fun h6=>?_) fun h6=>?_
  ·refine G.z1 1 2 ?_
   refine G.rf ?_
   refine ⟨?_,rfl⟩
   have h:¬ q<0:=fun h=>by rw [decide_eq_true (hnn.2 h)] at h3;cases h3
   have h2:q=0:=by rw [<- num_nil];exact hz0.1 (by simpa using h6)
   unfold sgn;rw [if_neg h,if_pos h2]
  ·refine G.z1 1 2 ?_
   refine G.rf ?_
   refine ⟨?_,rfl⟩
   have h:¬ q<0:=fun h=>by rw [decide_eq_true (hnn.2 h)] at h3;cases h3
   have h2:¬ q=0:=fun h2=>by rw [hz0.2 (num_nil.2 h2)] at h6;simp at h6
   unfold sgn;rw [if_neg h,if_neg h2]
theorem neg_fn {C:Mem}{v:Value}{q:Rat}(hv:FrC C v q):Pur cx.P 115 [v] C fun r D=>FrC D r (-q):=by
 obtain ⟨u,w,rfl,hu,hw⟩:=hv
 obtain ⟨A0,z0,c0,rfl,hz0,hz1⟩:=hu.form
 obtain ⟨A9,z9,c9,rfl,_,_⟩:=hw.form
 refine Fn.it kr_ Tryz.func115 14 fun w0=>?_
 refine G.rg fun R hR=>?_
 refine D.aM (fun b1=>?_)
 refine D.aj (fun b2=>?_)
 refine D.e2 1 2 hR ?_
 refine G.rp 1 fun R hR=>?_
 refine D.ag (.tail _ (.head _)) ?_
 refine D.ps 3 ?_
 refine D.ag (.tail _ (.head _)) ?_
 refine D.ps 2 ?_
 refine D.aC rfl rfl rfl rfl rfl rfl rfl rfl ?_
 refine D.ae ?_
 refine D.ac (j:=1) ?_
 refine D.e2 1 2 hR ?_
 refine G.rg fun R hR=>?_
 refine D.ag (.head _) ?_
 refine D.ac (j:=1) ?_
 refine D.e1 2 hR ?_
 refine G.aA (G.dG (.head _) rfl rfl rfl rfl ?_)
 refine ⟨rfl,.slice A0 z0 c0,.slice A9 z9 c9, ?_, ?_, ?_⟩
 ·have e:decide ((-q).num<0)=(!decide (q.num<0) && decide ((0:Int)<(z0:Int))):=by
   rw [Rat.neg_num]
   have h1:z0=0 ↔ q.num=0:=hz0.trans Int.natAbs_eq_zero
   by_cases h:q.num<0
   ·simp [h];omega
   ·simp only [h,decide_false,Bool.not_false,Bool.true_and,decide_eq_decide];omega
  rw [e];rfl
 ·rw [Rat.neg_num,Int.natAbs_neg];exact hu.mono mup
 ·exact hw.mono mup

theorem FrC.form {C:Mem}{v:Value}{q:Rat}(h:FrC C v q):∃ A n c A' n' c',v=.agg ⟨encF (decide (q.num<0)) (.slice A n c) (.slice A' n' c')⟩:=by
 obtain ⟨u,w,rfl,hu,hw⟩:=h
 obtain ⟨A1,n1,c1,rfl,_,_⟩:=hu.form
 obtain ⟨A2,n2,c2,rfl,_,_⟩:=hw.form
 exact ⟨_,_,_,_,_,_,rfl⟩
theorem fmul_fn {C:Mem}{u v:Value}{p q:Rat}{j k:Nat}(hu:FrC C u p)(hv:FrC C v q)(hp:SmQ j p)(hq:SmQ k q)(hjk:j+k<=1000000):Pur cx.P 70 [u,v] C fun r D=>FrC D r (p*q):=by
 obtain ⟨pu,pw,rfl,hpu,hpw⟩:=hu
 obtain ⟨qu,qw,rfl,hqu,hqw⟩:=hv
 obtain ⟨A1,n1,c1,rfl,_,_⟩:=hpu.form
 obtain ⟨A2,n2,c2,rfl,_,_⟩:=hpw.form
 obtain ⟨A3,n3,c3,rfl,_,_⟩:=hqu.form
 obtain ⟨A4,n4,c4,rfl,_,_⟩:=hqw.form
 refine Fn.it kr_ Tryz.func70 21 fun w0=>?_
 refine G.rg fun R hR=>?_
 refine D.aM (fun b2=>?_)
 refine D.aM (fun b3=>?_)
 refine D.aj (fun b4=>?_)
 refine D.e3 2 3 4 hR ?_
 refine G.aI [0,1,2,3,4,5,6,7,8,10,11,12,13,9,14,15,16] [] rfl kr_ (fun R hB hR=>?_)
 refine D.ae ?_
 refine D.ag (.tail _ (.tail _ (.head _))) ?_
 refine D.ae ?_
 refine D.ag (.tail _ (.head _)) ?_
 refine D.ps 2 ?_
 refine D.ag (.tail _ (.tail _ (.head _))) ?_
 refine D.ae ?_
 refine D.ag (.tail _ (.head _)) ?_
 refine D.ae ?_
 refine D.ag (.tail _ (.tail _ (.head _))) ?_
 refine D.ae ?_
 refine D.ag (.tail _ (.head _)) ?_
 refine D.ap (natMul (hpu.mono mup) (hqu.mono mup) hp.1 hq.1 om_ om_) rfl rfl rfl rfl rfl rfl rfl fl_ (fun v14 C14 hle14 hq14=>?_)
 refine D.ap (natMul (hpw.mono mup) (hqw.mono mup) hp.2 hq.2 om_ om_) rfl rfl rfl rfl rfl rfl rfl fl_ (fun v19 C19 hle19 hq19=>?_)
 refine D.aJ (clowest_fn (k:=j+k) _ (hq14.mono mup) (hq19.mono mup) (hp.1.mul hq.1) (hp.2.mul hq.2) (Nat.mul_pos p.den_pos q.den_pos) hjk) (fun v20 C20 hle20 hq20=>?_)
 replace hq20:FrC C20 v20 (p*q):=by rw [<- mul_parts];exact hq20
 obtain ⟨A5,n5,c5,A6,n6,c6,rfl⟩:=hq20.form
 refine D.ac (j:=0) ?_
 refine D.e1 4 hR ?_
 refine G.aA (G.dG (.head _) rfl rfl rfl rfl ?_)
 exact ⟨rfl,hq20⟩
theorem fadd_fn {C:Mem}{u v:Value}{p q:Rat}{j k:Nat}(hu:FrC C u p)(hv:FrC C v q)(hp:SmQ j p)(hq:SmQ k q)(hjk:j+k<1000000):Pur cx.P 33 [u,v] C fun r D=>FrC D r (p+q):=by
 obtain ⟨pu,pw,rfl,hpu,hpw⟩:=hu
 obtain ⟨qu,qw,rfl,hqu,hqw⟩:=hv
 obtain ⟨A1,n1,c1,rfl,_,_⟩:=hpu.form
 obtain ⟨A2,n2,c2,rfl,_,_⟩:=hpw.form
 obtain ⟨A3,n3,c3,rfl,_,_⟩:=hqu.form
 obtain ⟨A4,n4,c4,rfl,_,_⟩:=hqw.form
 have hx:Sm (j+k) (p.num.natAbs*q.den):=hp.1.mul hq.2
 have hy:Sm (j+k) (q.num.natAbs*p.den):=by rw [Nat.add_comm];exact hq.1.mul hp.2
 have hd:Sm (j+k+1) (p.den*q.den):=(hp.2.mul hq.2).le om_
 have hd0:0<p.den*q.den:=Nat.mul_pos p.den_pos q.den_pos
 refine Fn.it kr_ Tryz.func33 55 fun w0=>?_
 refine G.rg fun R hR=>?_
 refine D.aM (fun b2=>?_)
 refine D.aM (fun b3=>?_)
 refine D.aj (fun b4=>?_)
 refine D.e3 2 3 4 hR ?_
 refine G.aI [0,1,2,3,5,6,7,8,10,11,12,13,4,9,14,15,16,17] [] rfl kr_ (fun R hB hR=>?_)
 refine D.ae ?_
 refine D.ag (.tail _ (.tail _ (.head _))) ?_
 refine D.ae ?_
 refine D.ag (.tail _ (.head _)) ?_
 refine D.ae ?_
 refine D.ag (.tail _ (.head _)) ?_
 refine D.ae ?_
 refine D.ag (.tail _ (.tail _ (.head _))) ?_
 refine D.ae ?_
 refine D.ag (.tail _ (.tail _ (.head _))) ?_
 refine D.ae ?_
 refine D.ag (.tail _ (.head _)) ?_
 refine D.ap (natMul (hpu.mono mup) (hqw.mono mup) hp.1 hq.2 om_ om_) rfl rfl rfl rfl rfl rfl rfl fl_ (fun v12 C12 hle12 hq12=>?_)
 refine D.ap (natMul (hqu.mono mup) (hpw.mono mup) hq.1 hp.2 om_ om_) rfl rfl rfl rfl rfl rfl rfl fl_ (fun v17 C17 hle17 hq17=>?_)
 refine D.ap (natMul (hpw.mono mup) (hqw.mono mup) hp.2 hq.2 om_ om_) rfl rfl rfl rfl rfl rfl rfl fl_ (fun v22 C22 hle22 hq22=>?_)
 refine D.q6 3 2 3 4 5 6 7 hR ?_
 refine G.rp 1 fun R hR=>?_
 refine D.ag (.tail _ (.tail _ (.head _))) ?_
 refine D.ae ?_
 refine D.ag (.tail _ (.head _)) ?_
 refine D.q7 2 2 3 4 5 6 7 23 hR ?_
 refine G.cd (fun h23=>?_) fun h23=>?_
 ·have hs:decide (p.num<0)=decide (q.num<0):=by simpa using h23
  refine G.aI [0,1,2,3,5,4,6,7] [] rfl kr_ (fun R hB hR=>?_)
  refine D.ae ?_
  refine D.ag (.tail _ (.tail _ (.head _))) ?_
  refine D.ps 3 ?_
  refine D.ap (natAdd (hq12.mono mup) (hq17.mono mup) hx hy om_) rfl rfl rfl rfl rfl rfl rfl fl_ (fun v33 C33 hle33 hq33=>?_)
  refine D.ap (clowest_fn (k:=j+k+1) _ (hq33.mono mup) (hq22.mono mup) (hx.add hy) hd hd0 om_) rfl rfl rfl rfl rfl rfl rfl fl_ (fun v35 C35 hle35 hq35=>?_)
  replace hq35:FrC C35 v35 (p+q):=by rw [<- add_same hs];exact hq35
  obtain ⟨A5,n5,c5,A6,n6,c6,rfl⟩:=hq35.form
  refine D.ac (j:=0) ?_
  refine D.e1 4 hR ?_
  refine G.aA (G.dG (.head _) rfl rfl rfl rfl ?_)
  exact ⟨rfl,hq35⟩
 ·have hs:¬ decide (p.num<0)=decide (q.num<0):=fun h=>by rw [h] at h23;simp at h23
  refine G.rp 2 fun R hR=>?_
  refine D.aJ (natCmp (hq12.mono mup) (hq17.mono mup)) (fun v39 C39 hle39 hq39=>?_)
  obtain ⟨z,rfl,hz⟩:=hq39
  refine D.q7 2 2 3 4 5 6 7 36 hR ?_
  refine G.cd (fun h36=>?_) fun h36=>?_
  ·have hge:q.num.natAbs*p.den<=p.num.natAbs*q.den:=by
    have h0:(0:Int)<=z:=by simpa using h36
    have:=mt hz.1.2 om_
    omega
   refine G.aI [0,1,2,3,5,4,6,7] [] rfl kr_ (fun R hB hR=>?_)
   refine D.ae ?_
   refine D.ag (.tail _ (.tail _ (.head _))) ?_
   refine D.ps 3 ?_
   refine D.ap (natSub (hq12.mono mup) (hq17.mono mup) hx hge om_) rfl rfl rfl rfl rfl rfl rfl fl_ (fun v45 C45 hle45 hq45=>?_)
   refine D.ap (clowest_fn (k:=j+k+1) _ (hq45.mono mup) (hq22.mono mup) ((hx.mono om_).le om_) hd hd0 om_) rfl rfl rfl rfl rfl rfl rfl fl_ (fun v47 C47 hle47 hq47=>?_)
   replace hq47:FrC C47 v47 (p+q):=by rw [<- add_up hs hge];exact hq47
   obtain ⟨A5,n5,c5,A6,n6,c6,rfl⟩:=hq47.form
   refine D.ac (j:=0) ?_
   refine D.e1 4 hR ?_
   refine G.aA (G.dG (.head _) rfl rfl rfl rfl ?_)
   exact ⟨rfl,hq47⟩
  ·have hge:p.num.natAbs*q.den<=q.num.natAbs*p.den:=by
    have h0:¬ (0:Int)<=z:=by simpa using h36
    have:=hz.1.1 om_
    omega
   refine G.aI [0,1,2,3,5,4,6,7] [] rfl kr_ (fun R hB hR=>?_)
   refine D.ae ?_
   refine D.ag (.tail _ (.head _)) ?_
   refine D.ps 3 ?_
   refine D.ap (natSub (hq17.mono mup) (hq12.mono mup) hy hge om_) rfl rfl rfl rfl rfl rfl rfl fl_ (fun v52 C52 hle52 hq52=>?_)
   refine D.ap (clowest_fn (k:=j+k+1) _ (hq52.mono mup) (hq22.mono mup) ((hy.mono om_).le om_) hd hd0 om_) rfl rfl rfl rfl rfl rfl rfl fl_ (fun v54 C54 hle54 hq54=>?_)
   replace hq54:FrC C54 v54 (p+q):=by rw [<- add_down hs hge];exact hq54
   obtain ⟨A5,n5,c5,A6,n6,c6,rfl⟩:=hq54.form
   refine D.ac (j:=0) ?_
   refine D.e1 4 hR ?_
   refine G.aA (G.dG (.head _) rfl rfl rfl rfl ?_)
   exact ⟨rfl,hq54⟩
theorem fsub_fn {C:Mem}{u v:Value}{p q:Rat}{j k:Nat}(hu:FrC C u p)(hv:FrC C v q)(hp:SmQ j p)(hq:SmQ k q)(hjk:j+k<1000000):Pur cx.P 68 [u,v] C fun r D=>FrC D r (p-q):=by
 obtain ⟨A1,n1,c1,A2,n2,c2,rfl⟩:=hu.form
 obtain ⟨A3,n3,c3,A4,n4,c4,rfl⟩:=hv.form
 refine Fn.it kr_ Tryz.func68 9 fun w0=>?_
 refine G.rg fun R hR=>?_
 refine D.aM (fun b2=>?_)
 refine D.aM (fun b3=>?_)
 refine D.aj (fun b4=>?_)
 refine D.e3 2 3 4 hR ?_
 refine G.aI [0,1,2,3,4] [] rfl kr_ (fun R hB hR=>?_)
 refine D.ag (.tail _ (.tail _ (.head _))) ?_
 refine D.ag (.tail _ (.head _)) ?_
 refine D.aJ (neg_fn (hv.mono mup)) (fun v7 C7 hle7 hq7=>?_)
 refine D.aJ (fadd_fn (hu.mono mup) (hq7.mono mup) hp hq.neg hjk) (fun v8 C8 hle8 hq8=>?_)
 rw [<- Rat.sub_eq_add_neg] at hq8
 obtain ⟨A5,n5,c5,A6,n6,c6,rfl⟩:=hq8.form
 refine D.ac (j:=0) ?_
 refine D.e1 4 hR ?_
 refine G.aA (G.dG (.head _) rfl rfl rfl rfl ?_)
 exact ⟨rfl,hq8⟩
theorem fcmp_fn {C:Mem}{u v:Value}{p q:Rat}{j k:Nat}(hu:FrC C u p)(hv:FrC C v q)(hp:SmQ j p)(hq:SmQ k q)(hjk:j+k<1000000):Pur cx.P 34 [u,v] C fun r _=>r=.int .i64 (sgn (p-q)):=by
 obtain ⟨A1,n1,c1,A2,n2,c2,rfl⟩:=hu.form
 obtain ⟨A3,n3,c3,A4,n4,c4,rfl⟩:=hv.form
 refine Fn.it kr_ Tryz.func34 9 fun w0=>?_
 refine G.rg fun R hR=>?_
 refine D.aM (fun b2=>?_)
 refine D.aM (fun b3=>?_)
 refine D.q2 1 2 3 hR ?_
 refine G.rg fun R hR=>?_
 refine D.ag (.tail _ (.head _)) ?_
 refine D.ag (.head _) ?_
 refine D.aJ (fsub_fn (hu.mono mup) (hv.mono mup) hp hq hjk) (fun v7 C7 hle7 hq7=>?_)
 refine D.am (sign_fn hq7) ?_
 refine D.q1 1 4 hR ?_
 refine G.rf ?_
 exact ⟨rfl,rfl⟩
end Go.Proofs.YtjhmlnebikbdbaaGreatDoor
namespace Go.Jog
open Go
def cut1 (c:UInt8):List UInt8->List UInt8 × Option (List UInt8)
 | []=>([],none)
 | b::s=>if b=c then ([],some s) else (b::(cut1 c s).1,(cut1 c s).2)
theorem dZ (c:UInt8):∀ s:List UInt8,(cut1 c s=(s,none)/\Lib.indexByte s c=-1/\c ∉ s)∨∃ pre post,cut1 c s=(pre,some post)/\s=pre++c::post/\c ∉ pre/\Lib.indexByte s c=pre.length
 | []=>.inl ⟨rfl,rfl,by simp⟩
 | b::s=>by
  by_cases hb:b=c
  ·subst hb
   exact .inr ⟨[],s,by simp [cut1],rfl,by simp,by simp [Lib.indexByte]⟩
  ·rcases dZ c s with ⟨h1,h2,h3⟩ | ⟨pre,post,h1,h2,h3,h4⟩
   ·refine .inl ⟨by simp [cut1,hb,h1],by simp [Lib.indexByte,hb,h2],by simp [Ne.symm hb,h3]⟩
   ·refine .inr ⟨b::pre,post,by simp [cut1,hb,h1],by simp [h2],by simp [Ne.symm hb,h3], ?_⟩
    have h5:¬ (pre.length:Int)=-1:=by omega
    simp [Lib.indexByte,hb,h4,h5]
theorem cut1_hit {c:UInt8}{s:List UInt8}(h:0<=Lib.indexByte s c):∃ pre post,cut1 c s=(pre,some post)/\s=pre++c::post/\Lib.indexByte s c=pre.length:=by
 rcases dZ c s with ⟨_,h2,_⟩ | ⟨pre,post,h1,h2,_,h4⟩
 ·omega
 ·exact ⟨pre,post,h1,h2,h4⟩
theorem cut1_miss {c:UInt8}{s:List UInt8}(h:¬ 0<=Lib.indexByte s c):cut1 c s=(s,none):=by
 rcases dZ c s with ⟨h1,_⟩ | ⟨pre,post,h1,h2,_,h4⟩
 ·exact h1
 ·omega
def okD (s:List UInt8):Bool:=!(s == []) && decide (s.length<=200) && !(s.head? == some 48 && decide (1<s.length)) && s.all digB
theorem eg {s:List UInt8}:okD s=true ↔ CanS s/\s.length<=200:=by
 unfold okD CanS
 simp only [Bool.and_eq_true,Bool.not_eq_true',beq_eq_false_iff_ne,ne_eq,decide_eq_true_eq,List.all_eq_true,Bool.and_eq_false_imp,beq_iff_eq,decide_eq_false_iff_not]
 constructor
 ·rintro ⟨⟨⟨h1,h2⟩,h3⟩,h4⟩
  refine ⟨⟨h4,h1,fun h=>?_⟩,h2⟩
  have:=h3 h
  have:0<s.length:=List.length_pos_iff.2 h1
  omega
 ·rintro ⟨⟨h4,h1,h3⟩,h2⟩
  exact ⟨⟨⟨h1,h2⟩,fun h=>by have:=h3 h;omega⟩,h4⟩
theorem decV_tk {s:List UInt8}{i:Nat}{c:UInt8}(h:s[i]?=some c):decV (s.take (i+1))=decV (s.take i)*10+(c.toNat-48):=by
 rw [List.take_add_one,h,Option.toList_some,cN]
 congr 1
 unfold decV decF
 simp
theorem decV_sm {s:List UInt8}(h:∀ c∈s,digB c=true):Sm s.length (decV s):=Nat.lt_of_lt_of_le (cA h) (Nat.pow_le_pow_left (by decide) _)
def aN (c:UInt8)(s:List UInt8):List UInt8 × Bool:=if s.head?=some c then (s.tail,true) else (s,false)
end Go.Jog
namespace Go.Proofs.YtjhmlnebikbdbaaGreatDoor
open Go Go.Jog
set_option maxRecDepth 100000

theorem idxByte_fn (C:Mem)(s:Str)(c:UInt8):Gives cx.P 167 [strV s,.int .u8 c.toNat] C (.int .i64 (Lib.indexByte s c)):=by
 have h:=Gives.ofCalls (f:=167) (args:=[strV s,.int .u8 c.toNat]) (P:=cx.P) kr_ (fun w=>Any.stringslite_IndexByte Tryz.idxByte ⟨s.toArray⟩ (c.toNat:Int) w) C
 simpa using h
theorem index1_fn (C:Mem)(s:Str)(c:UInt8):Gives cx.P 140 [strV s,strV [c]] C (.int .i64 (Lib.indexByte s c)):=by
 refine Fn.it kr_ Tryz.func140 143 fun w0=>?_
 refine G.z2 1 0 1 ?_
 refine G.z3 3 0 1 5 ?_
 refine G.rp 6 fun R hR=>?_
 refine D.ar ?_
 refine D.q4 1 0 1 5 16 hR ?_
 refine G.cd (fun h16=>?_) fun h16=>?_
 ·refine G.z1 1 4 ?_
  refine G.rf ?_
  refine ⟨?_,rfl⟩
  have h:([c]:Str)=s:=by simpa using h16
  subst h
  simp [Lib.indexByte]
 ·refine G.z4 3 0 1 5 24 ?_
  refine G.cd (fun h24=>?_) fun h24=>?_
  ·refine G.rp 2 fun R hR=>?_
   refine D.aZ rfl rfl rfl rfl rfl rfl rfl rfl (fun _=>⟨by omega,(rfl:([c]:Str)[(0:Int).toNat]?=some c)⟩) rfl rfl ?_
   refine D.am (idxByte_fn _ s c) ?_
   refine D.q1 1 4 hR ?_
   refine G.rf ?_
   exact ⟨rfl,rfl⟩
  ·exact absurd h24 (by simp)
theorem cutL_fn (C:Mem)(s:Str)(c:UInt8)(hl:s.length<1000000):Gives cx.P 104 [strV s,strV [c]] C (.tuple #[strV (cut1 c s).1,strV ((cut1 c s).2.getD []),.bool (cut1 c s).2.isSome]):=by
 refine Fn.it kr_ Tryz.func104 23 fun w0=>?_
 refine G.z2 3 0 1 ?_
 refine G.rp 2 fun R hR=>?_
 refine D.am (index1_fn _ s c) ?_
 refine D.q3 1 0 1 7 hR ?_
 refine G.z4 2 0 1 7 12 ?_
 refine G.cd (fun h12=>?_) fun h12=>?_
 ·have h0:0<=Lib.indexByte s c:=by simpa using h12
  obtain ⟨pre,post,h1,h2,h3⟩:=cut1_hit h0
  have hle:s.length=pre.length+1+post.length:=by rw [h2];simp;omega
  rw [h1,h3]
  refine G.aI [0,1,2,3,4,5,6,7,8,9,10,11] [] rfl kr_ (fun R hB hR=>?_)
  refine D.ps 2 ?_
  refine D.bA 0 pre.length rfl rfl rfl rfl rfl rfl rfl rfl rfl (fun _=>⟨.inl ⟨rfl,rfl⟩,.inr ⟨_,rfl⟩,.inl ⟨rfl,rfl⟩,by omega,by omega,Nat.le_refl _⟩) rfl rfl ?_
  refine D.ps 4 ?_
  refine D.i64 (((pre.length+1:Nat):Int)) rfl rfl rfl rfl (by simp) om_ om_ rfl rfl ?_
  refine D.bA (pre.length+1) s.length rfl rfl rfl rfl rfl rfl rfl rfl rfl (fun _=>⟨.inr ⟨_,rfl⟩,.inl ⟨rfl,rfl⟩,.inl ⟨rfl,rfl⟩,by omega,Nat.le_refl _,Nat.le_refl _⟩) rfl rfl ?_
  refine D.q3 3 4 5 6 hR ?_
  refine G.aA (G.dropAll (G.fin3 rfl rfl rfl rfl ?_))
  refine ⟨?_,rfl⟩
  have e1:(s.take pre.length).drop 0=pre:=by rw [h2];simp
  have e2:(s.take s.length).drop (pre.length+1)=post:=by rw [List.take_length,h2];simp
  rw [e1,e2];rfl
 ·have h0:¬ 0<=Lib.indexByte s c:=by simpa using h12
  rw [cut1_miss h0]
  refine G.z3 4 4 5 6 ?_
  refine G.aA (G.dropAll (G.fin3 rfl rfl rfl rfl ?_))
  exact ⟨rfl,rfl⟩
theorem cut_fn (C:Mem)(s:Str)(c:UInt8)(hl:s.length<1000000):Gives cx.P 57 [strV s,strV [c]] C (.tuple #[strV (cut1 c s).1,strV ((cut1 c s).2.getD []),.bool (cut1 c s).2.isSome]):=by
 refine Fn.it kr_ Tryz.func57 13 fun w0=>?_
 refine G.z2 3 0 1 ?_
 refine G.rp 2 fun R hR=>?_
 refine D.am (cutL_fn _ s c hl) ?_
 refine D.q3 6 4 5 6 hR ?_
 refine G.aA (G.dropAll (G.fin3 rfl rfl rfl rfl ?_))
 exact ⟨rfl,rfl⟩
theorem hasP_fn (C:Mem)(s:Str)(c:UInt8):Gives cx.P 152 [strV s,strV [c]] C (.bool (aN c s).2):=by
 refine Fn.it kr_ Tryz.func152 18 fun w0=>?_
 refine G.z2 1 0 1 ?_
 refine G.rp 9 fun R hR=>?_
 refine D.bA 0 1 rfl rfl rfl rfl rfl rfl rfl rfl rfl (fun hg=>⟨.inl ⟨rfl,rfl⟩,.inr ⟨_,rfl⟩,.inl ⟨rfl,rfl⟩,by omega,(by have h:decide ((1:Int)<=(s.length:Int))=true:=hg.1;simp at h;omega),Nat.le_refl _⟩) rfl rfl ?_
 refine D.ps 2 ?_
 refine D.aC rfl rfl rfl rfl rfl rfl rfl rfl ?_
 refine D.q1 1 4 hR ?_
 refine G.rf ?_
 refine ⟨?_,rfl⟩
 cases s with
 | nil=>rfl
 | cons b s =>
  have h1:decide ((1:Int)<=((b::s).length:Nat))=true:=by simp;omega
  unfold aN
  by_cases hb:b=c
  ·subst hb;simp;omega
  ·simp [hb]
theorem cutPL_fn (C:Mem)(s:Str)(c:UInt8):Gives cx.P 111 [strV s,strV [c]] C (.tuple #[strV (aN c s).1,.bool (aN c s).2]):=by
 refine Fn.it kr_ Tryz.func111 15 fun w0=>?_
 refine G.z2 2 0 1 ?_
 refine G.rp 2 fun R hR=>?_
 refine D.am (hasP_fn _ s c) ?_
 refine D.q3 1 0 1 9 hR ?_
 refine G.cd (fun h9=>?_) fun h9=>?_
 ·have h:¬ s.head?=some c:=fun h=>by unfold aN at h9;rw [if_pos h] at h9;cases h9
  refine G.z2 3 4 5 ?_
  refine G.aA (G.dropAll (G.bg rfl rfl rfl ?_))
  unfold aN
  rw [if_neg h]
  exact ⟨rfl,rfl⟩
 ·have h:s.head?=some c:=Classical.byContradiction fun h=>by unfold aN at h9;rw [if_neg h] at h9;cases h9
  have hlen:1<=s.length:=by cases s with
   | nil=>cases h
   | cons b s=>simp
  refine G.rp 3 fun R hR=>?_
  refine D.bA 1 s.length rfl rfl rfl rfl rfl rfl rfl rfl rfl (fun _=>⟨.inr ⟨_,rfl⟩,.inl ⟨rfl,rfl⟩,.inl ⟨rfl,rfl⟩,by omega,Nat.le_refl _,Nat.le_refl _⟩) rfl rfl ?_
  refine D.q2 2 4 5 hR ?_
  refine G.aA (G.dropAll (G.bg rfl rfl rfl ?_))
  unfold aN
  rw [if_pos h]
  refine ⟨?_,rfl⟩
  rw [List.take_length,List.drop_one];rfl
theorem cutP_fn (C:Mem)(s:Str)(c:UInt8):Gives cx.P 64 [strV s,strV [c]] C (.tuple #[strV (aN c s).1,.bool (aN c s).2]):=by
 refine Fn.it kr_ Tryz.func64 11 fun w0=>?_
 refine G.z2 2 0 1 ?_
 refine G.rp 2 fun R hR=>?_
 refine D.am (cutPL_fn _ s c) ?_
 refine D.q2 4 4 5 hR ?_
 refine G.aA (G.dropAll (G.bg rfl rfl rfl ?_))
 exact ⟨rfl,rfl⟩

theorem natSingle {C:Mem}{v:Value}{n:Nat}(hn:0<n)(hb:n<B32)(h:Sl C 1 v [[.int .u32 n]]):NatC C v n:=by
 refine ⟨[n],⟨fun x hx=>by rw [List.mem_singleton.1 hx];exact hb, ?_⟩,rfl,h⟩
 simp;omega
theorem natTrim {C:Mem}{v:Value}{n:Nat}(hb:n<B32)(h:Sl C 1 v [[.int .u32 n]]):Pur cx.P 112 [v] C fun u D=>NatC D u n:=by
 have hd:DigD [n]:=fun x hx=>by rw [List.mem_singleton.1 hx];exact hb
 refine (trim_fn C v [n] h).mono fun u D L _ ⟨h1,h2⟩=>⟨h1,trimD [n],dR hd, ?_,h2⟩
 rw [dQ];rfl
theorem digits_fn (C:Mem)(s:Str):Pur cx.P 65 [strV s] C fun u D=>∃ A n c,u=.tuple #[.slice A n c,.bool (okD s)]/\(okD s=true->NatC D (.slice A n c) (decV s)):=by
 refine Fn.it kr_ Tryz.func65 51 fun w0=>?_
 refine G.z1 2 0 ?_
 refine G.rp 6 fun R hR=>?_
 refine D.ar ?_
 refine D.ps 2 ?_
 refine D.aZ (b:=s.headD 0) rfl rfl rfl rfl rfl rfl rfl rfl (fun hg=>⟨by omega,(by
  cases s with
  | nil=>exact Bool.noConfusion (show true=false from hg.1)
  | cons b s=>rfl)⟩) rfl rfl ?_
 refine D.ps 5 ?_
 refine D.aC rfl rfl rfl rfl rfl rfl rfl rfl ?_
 refine D.ar ?_
 refine D.e2 0 22 hR ?_
 refine G.cd (fun h22=>?_) fun h22=>?_
 ·have hno:okD s=false:=by
   cases ho:okD s with
   | false=>rfl
   | true =>
    obtain ⟨⟨_,h2,h3⟩,h4⟩:=eg.1 ho
    exfalso
    cases s with
    | nil=>exact h2 rfl
    | cons b s =>
     simp at h22 h3 h4
     rcases h22 with h | h
     ·omega
     ·have hb:b=48:=UInt8.toNat_inj.1 (by have h1:=h.1;show b.toNat=48;omega)
      have:=h3 hb
      subst this
      simp at h
  refine G.z2 2 2 3 ?_
  refine G.aA (G.dropAll (G.bg rfl rfl rfl ?_))
  exact ⟨rfl,_,_,_,by rw [hno],fun h=>by rw [hno] at h;cases h⟩
 ·have hf:s≠[]/\s.length<=200/\(s.head?=some 48->s.length=1):=by
   cases s with
   | nil=>simp at h22
   | cons b s =>
    simp at h22
    refine ⟨by simp,by simp;omega,fun h=>?_⟩
    have hb:b=48:=by simpa using h
    subst hb
    have:=h22.2
    simp at this
    have h0:s.length=0:=by omega
    rw [List.length_eq_zero_iff.1 h0];rfl
  refine G.z2 1 0 4 ?_
  refine G.z4 3 0 4 24 25 ?_
  refine G.loop (fun fr C' L' μ=>∃ (i:Nat)(w:Value),(i<=s.length/\NatC C' w (decV (s.take i))/\∀ c∈s.take i,digB c=true)/\fr=[(0,[],strV s),(4,[],w),(24,[],.int .i64 s.length),(25,[],.int .i64 i)]/\L'=[]/\μ=s.length-i) (h_4 0 4 24 25) ⟨0,_,⟨Nat.zero_le _,natNil _,by simp⟩,rfl,rfl,rfl⟩ (fun fr C0' L0' m hle0 hI=>?_)
  obtain ⟨i,w,⟨hi,hw,hdig⟩,rfl,rfl,rfl⟩:=hI
  refine G.z5 1 0 4 24 25 26 ?_
  refine G.cd (fun h26=>?_) fun h26=>?_
  ·have hil:i<s.length:=by simpa using h26
   obtain ⟨c,hc⟩:∃ c,s[i]?=some c:=⟨s[i],List.getElem?_eq_getElem hil⟩
   refine G.z5 2 0 4 5 24 25 ?_
   refine G.rp 2 fun R hR=>?_
   refine D.aZ rfl rfl rfl rfl rfl rfl rfl rfl (fun _=>⟨by omega,hc⟩) rfl rfl ?_
   refine D.ps 4 ?_
   refine D.aZ rfl rfl rfl rfl rfl rfl rfl rfl (fun _=>⟨by omega,hc⟩) rfl rfl ?_
   refine D.ae ?_
   refine D.ar ?_
   refine D.e6 0 4 5 24 25 37 hR ?_
   refine G.cd (fun h37=>?_) fun h37=>?_
   ·have hno:okD s=false:=by
     cases ho:okD s with
     | false=>rfl
     | true =>
      exfalso
      have h:=(eg.1 ho).1.1 c (List.mem_of_getElem? hc)
      unfold digB at h
      simp at h37 h
      omega
    refine G.z2 2 2 3 ?_
    refine G.aA (G.dropAll (G.bg rfl rfl rfl ?_))
    exact ⟨rfl,_,_,_,by rw [hno],fun h=>by rw [hno] at h;cases h⟩
   ·have hcd:48<=c.toNat/\c.toNat<=57:=by
     simp at h37
     omega
    have hsm:Sm s.length (decV (s.take i)):=(decV_sm hdig).le (by rw [List.length_take];omega)
    refine G.bH (fun fr C' L' μ=>∃ (w2:Value),(NatC C' w2 (decV (s.take (i+1))))/\fr=[(0,[],strV s),(4,[],w2),(24,[],.int .i64 s.length),(25,[],.int .i64 i)]/\L'=[]) ?_ (fun fr Cr9 Lr9 μ hler9 hI=>?_)
    ·refine G.eA (.cut [0,3,4,5,6,7] (.alt 1 (.cut [] (.alt 2 (.fin [8,9,10,11]) (.alt 8 (.fin [2,9,10,11]) .stop))) (.alt 8 (.fin [1,2,9,10,11]) .stop))) [(7,0)] rfl rfl kr_ (fun R hB hR hH=>?_)
     refine D.ps 3 ?_
     refine D.aZ rfl rfl rfl rfl rfl rfl rfl rfl (fun _=>⟨by omega,hc⟩) rfl rfl ?_
     refine D.int (((c.toNat-48:Nat):Int)) rfl rfl rfl rfl (by rw [IntKind.wrap_u8];omega) rfl rfl ?_
     refine D.convQ (c:=((c.toNat-48:Nat):Int)) rfl rfl rfl rfl rfl rfl rfl rfl (by rw [IntKind.wrap_u32];omega) rfl rfl ?_
     refine D.az hH rfl ⟨?_, ?_,trivial⟩
     ·refine D.ah [[.int .u32 10]] (fun p39 C39 hle39 hs39=>?_)
      refine D.az hH rfl ⟨?_, ?_,trivial⟩
      ·refine D.ap (natMul (k:=1) (hw.mono mup) (natSingle (n:=10) (by decide) (by decide) (hs39.mono mup)) hsm (Sm.one (by decide)) om_ om_) rfl rfl rfl rfl rfl rfl rfl fl_ (fun v40 C40 hle40 hq40=>?_)
       refine D.ah [[.int .u32 ((c.toNat-48:Nat):Int)]] (fun p46 C46 hle46 hs46=>?_)
       refine D.ap (natTrim (n:=c.toNat-48) (Nat.lt_of_le_of_lt (Nat.sub_le _ _) (Nat.lt_of_lt_of_le (UInt8.toNat_lt c) (by decide))) (hs46.mono mup)) rfl rfl rfl rfl rfl rfl rfl fl_ (fun v47 C47 hle47 hq47=>?_)
       refine D.ap (natAdd (k:=s.length+1) (hq40.mono mup) (hq47.mono mup) (hsm.mul (Sm.one (by decide))) (Sm.le (Sm.one (Nat.lt_of_le_of_lt (Nat.sub_le _ _) (Nat.lt_of_lt_of_le (UInt8.toNat_lt c) (by decide)))) om_) om_) rfl rfl rfl rfl rfl rfl rfl fl_ (fun v48 C48 hle48 hq48=>?_)
       refine D.q4 1 0 4 24 25 hR ?_
       exact G.ay 0 mup (h_4 0 4 24 25) ⟨_,by rw [decV_tk hc];exact hq48.mono mup,rfl,rfl⟩
      ·refine D.ah [[.int .u32 ((c.toNat-48:Nat):Int)]] (fun p46 C46 hle46 hs46=>?_)
       refine D.ap (natMul (k:=1) (hw.mono mup) (natSingle (n:=10) (by decide) (by decide) (hs39.mono mup)) hsm (Sm.one (by decide)) om_ om_) rfl rfl rfl rfl rfl rfl rfl fl_ (fun v40 C40 hle40 hq40=>?_)
       refine D.ap (natTrim (n:=c.toNat-48) (Nat.lt_of_le_of_lt (Nat.sub_le _ _) (Nat.lt_of_lt_of_le (UInt8.toNat_lt c) (by decide))) (hs46.mono mup)) rfl rfl rfl rfl rfl rfl rfl fl_ (fun v47 C47 hle47 hq47=>?_)
       refine D.ap (natAdd (k:=s.length+1) (hq40.mono mup) (hq47.mono mup) (hsm.mul (Sm.one (by decide))) (Sm.le (Sm.one (Nat.lt_of_le_of_lt (Nat.sub_le _ _) (Nat.lt_of_lt_of_le (UInt8.toNat_lt c) (by decide)))) om_) om_) rfl rfl rfl rfl rfl rfl rfl fl_ (fun v48 C48 hle48 hq48=>?_)
       refine D.q4 1 0 4 24 25 hR ?_
       exact G.ay 0 mup (h_4 0 4 24 25) ⟨_,by rw [decV_tk hc];exact hq48.mono mup,rfl,rfl⟩
     ·refine D.ah [[.int .u32 ((c.toNat-48:Nat):Int)]] (fun p46 C46 hle46 hs46=>?_)
      refine D.ah [[.int .u32 10]] (fun p39 C39 hle39 hs39=>?_)
      refine D.ap (natMul (k:=1) (hw.mono mup) (natSingle (n:=10) (by decide) (by decide) (hs39.mono mup)) hsm (Sm.one (by decide)) om_ om_) rfl rfl rfl rfl rfl rfl rfl fl_ (fun v40 C40 hle40 hq40=>?_)
      refine D.ap (natTrim (n:=c.toNat-48) (Nat.lt_of_le_of_lt (Nat.sub_le _ _) (Nat.lt_of_lt_of_le (UInt8.toNat_lt c) (by decide))) (hs46.mono mup)) rfl rfl rfl rfl rfl rfl rfl fl_ (fun v47 C47 hle47 hq47=>?_)
      refine D.ap (natAdd (k:=s.length+1) (hq40.mono mup) (hq47.mono mup) (hsm.mul (Sm.one (by decide))) (Sm.le (Sm.one (Nat.lt_of_le_of_lt (Nat.sub_le _ _) (Nat.lt_of_lt_of_le (UInt8.toNat_lt c) (by decide)))) om_) om_) rfl rfl rfl rfl rfl rfl rfl fl_ (fun v48 C48 hle48 hq48=>?_)
      refine D.q4 1 0 4 24 25 hR ?_
      exact G.ay 0 mup (h_4 0 4 24 25) ⟨_,by rw [decV_tk hc];exact hq48.mono mup,rfl,rfl⟩
    obtain ⟨w2,hw2,rfl,rfl⟩:=hI
    refine G.rg fun R hR=>?_
    refine D.ax _ ?_
    refine D.q4 1 0 4 24 25 hR ?_
    refine G.aB (m':=s.length-(i+1)) om_ mup (h_4 0 4 24 25) ⟨i+1,w2,⟨by omega,hw2.mono mup,fun x hx=>by
     rw [List.take_add_one,hc] at hx
     rcases List.mem_append.1 hx with h | h
     ·exact hdig x h
     ·simp at h;subst h
      unfold digB;simp [hcd]⟩,rfl,rfl,rfl⟩
  ·have hil:i=s.length:=by
    have:¬ i<s.length:=by simpa using h26
    omega
   rw [hil,List.take_length] at hw hdig
   have hok:okD s=true:=eg.2 ⟨⟨hdig,hf.1,hf.2.2⟩,hf.2.1⟩
   refine G.z2 3 2 3 ?_
   refine G.aA (G.dropAll (G.bg rfl rfl rfl ?_))
   obtain ⟨A9,n9,c9,rfl,_,_⟩:=hw.form
   exact ⟨rfl,_,_,_,by rw [hok],fun _=>hw.mono mup⟩

def aK (s:Str):Option Rat :=
 if okD (cut1 47 (aN 45 s).1).1 && !((aN 45 s).2 && decV (cut1 47 (aN 45 s).1).1 == 0) then
  match (cut1 47 (aN 45 s).1).2 with
  | none=>some (ratB (aN 45 s).2 (decV (cut1 47 (aN 45 s).1).1) 1)
  | some b=>if okD b && decide (1<decV b) && !(decV (cut1 47 (aN 45 s).1).1 == 0) && (Nat.gcd (decV (cut1 47 (aN 45 s).1).1) (decV b) == 1) then some (ratB (aN 45 s).2 (decV (cut1 47 (aN 45 s).1).1) (decV b)) else none
 else none
theorem frOf {C:Mem}{u w:Value}{n d:Nat}{b:Bool}(hd:0<d)(hg:Nat.gcd n d=1)(hb:n=0->b=false)(hu:NatC C u n)(hw:NatC C w d):FrC C (.agg ⟨encF b u w⟩) (ratB b n d):=by
 have hdn:d≠0:=by omega
 refine ⟨u,w, ?_, ?_, ?_⟩
 ·by_cases hn:n=0
  ·rw [hb hn,hn,ratB_zero];rfl
  ·rw [ratB_neg hdn hn]
 ·rw [ratB_abs hdn,hg,Nat.div_one];exact hu
 ·rw [ratB_den hdn,hg,Nat.div_one];exact hw
def zeroF:Value:=.agg ⟨encF false (.slice none 0 0) (.slice none 0 0)⟩
def ReadAt (D:Mem)(v:Value):Option Rat->Prop
 | none=>v=zeroF
 | some q=>FrC D v q
theorem not_off {b:Bool}(h:(!b)=false):b=true:=by cases b <;> simp_all
theorem natGcdV {C:Mem}{u v:Value}{m n k:Nat}(hu:NatC C u m)(hv:NatC C v n)(hm:Sm k m)(hn:Sm k n)(hk:k<=1000000)(hm0:0<m)(hn0:0<n):Pur cx.P 67 [u,v] C fun w D=>∃ b:Value,w=(fun x:Value=>x) b/\NatC D b (Nat.gcd m n) :=
 (natGcd hu hv hm hn hk hm0 hn0).mono fun v _ _ _ ⟨h1,h2⟩=>⟨h1,v,rfl,h2⟩
theorem okD_sm {s:Str}(h:okD s=true):Sm 200 (decV s):=(decV_sm (eg.1 h).1.1).le (eg.1 h).2
theorem read_fn (C:Mem)(s:Str)(hl:s.length<1000000):Pur cx.P 29 [strV s] C fun u D=>∃ v,u=.tuple #[v,.bool (aK s).isSome]/\ReadAt D v (aK s):=by
 obtain ⟨t,neg,hdp⟩:∃ t b,aN 45 s=(t,b):=⟨_,_,rfl⟩
 obtain ⟨top,bo,hct⟩:∃ a b,cut1 47 t=(a,b):=⟨_,_,rfl⟩
 have htl:t.length<1000000:=by
  have:t=(aN 45 s).1:=by rw [hdp]
  rw [this];unfold aN;split
  ·simp;omega
  ·exact hl
 have hM:aK s=if okD top && !(neg && decV top == 0) then (match bo with
  | none=>some (ratB neg (decV top) 1)
  | some b=>if okD b && decide (1<decV b) && !(decV top == 0) && (Nat.gcd (decV top) (decV b) == 1) then some (ratB neg (decV top) (decV b)) else none) else none:=by
  unfold aK;rw [hdp];simp only;rw [hct]
 refine Fn.it kr_ Tryz.func29 72 fun w0=>?_
 refine G.rg fun R hR=>?_
 refine D.aj (fun b2=>?_)
 refine D.q2 1 0 2 hR ?_
 refine G.rp 1 fun R hR=>?_
 refine D.au (by have h:=cutP_fn C s 45;rw [hdp] at h;exact h) rfl rfl rfl rfl rfl rfl rfl fl_ ?_
 refine D.q3 5 2 4 5 hR ?_
 refine G.rp 1 fun R hR=>?_
 refine D.au (by have h:=cut_fn C t 47 htl;rw [hct] at h;exact h) rfl rfl rfl rfl rfl rfl rfl fl_ ?_
 refine D.q5 7 2 5 6 7 8 hR ?_
 refine G.rp 1 fun R hR=>?_
 refine D.aJ (digits_fn _ top) (fun v25 C25 hle25 hq25=>?_)
 obtain ⟨A1,n1,c1,rfl,hn1⟩:=hq25
 refine D.q6 5 2 5 7 8 9 10 hR ?_
 have hz1:okD top=true->(n1=0 ↔ decV top=0):=fun h=>by
  obtain ⟨A,n,c,e,hh,_⟩:=(hn1 h).form
  injection e with e1 e2 e3
  rw [e2];exact hh
 refine G.rp 8 fun R hR=>?_
 refine D.aC rfl rfl rfl rfl rfl rfl rfl rfl ?_
 refine D.ar ?_
 refine D.e6 2 5 7 8 9 37 hR ?_
 refine G.cd (fun h37=>?_) fun h37=>?_
 ·have hno:aK s=none:=by
   rw [hM,if_neg]
   intro h
   simp at h h37
   rcases h37 with h1 | h1
   ·rw [h1] at h;cases h.1
   ·rcases h.2 with h2 | h2
    ·rw [h2] at h1;cases h1.1
    ·exact h2 ((hz1 h.1).1 om_)
  refine G.rg fun R hR=>?_
  refine D.build (encF false (.slice none 0 0) (.slice none 0 0)) rfl rfl rfl rfl rfl rfl rfl rfl ?_
  refine D.ac (j:=0) ?_
  refine D.q2 1 2 3 hR ?_
  refine G.aA (G.eP (.head _) rfl rfl rfl rfl rfl ?_)
  exact ⟨rfl,_,by rw [hno];rfl,by rw [hno];rfl⟩
 ·have hot:okD top=true/\(neg=true->¬ decV top=0):=by
   simp at h37
   refine ⟨h37.1,fun h h0=>?_⟩
   have:=h37.2 h
   have:=(hz1 h37.1).2 h0
   omega
  have hcond:(okD top && !(neg && decV top == 0))=true:=by
   simp [hot.1]
   cases hn:neg with
   | false=>exact .inl rfl
   | true=>exact .inr (hot.2 hn)
  rw [if_pos hcond] at hM
  have hng:decV top=0->neg=false:=fun h=>by
   cases hn:neg with
   | false=>rfl
   | true=>exact absurd h (hot.2 hn)
  refine G.rg fun R hR=>?_
  refine D.cD [[.int .u32 1]] rfl rfl rfl rfl rfl rfl rfl rfl rfl rfl rfl rfl fl_ (fun b39 C39 hle39 hs39=>?_)
  refine D.q6 1 2 5 7 8 9 11 hR ?_
  refine G.z6 1 2 5 7 9 11 40 ?_
  refine G.cd (fun h40=>?_) fun h40=>?_
  ·obtain ⟨b,rfl⟩:∃ b,bo=some b:=by
    cases bo with
    | none=>cases h40
    | some b=>exact ⟨b,rfl⟩
   refine G.rp 1 fun R hR=>?_
   refine D.aJ (digits_fn _ b) (fun v43 C43 hle43 hq43=>?_)
   obtain ⟨A2,n2,c2,rfl,hn2⟩:=hq43
   refine D.q5 5 2 5 9 10 11 hR ?_
   refine G.aS [(5,2),(16,2),(18,2)] rfl (fun R hR=>?_)
   refine D.ps 4 ?_
   refine D.bE [[.int .u32 1]] rfl rfl rfl rfl rfl rfl rfl rfl rfl rfl rfl rfl fl_ rfl rfl (fun b50 C50 hle50 hs50=>?_)
   refine D.eF (fun z:Int=>.int .i64 z) (fun hG51=>(by exact natCmp ((hn2 (not_off hG51.1)).mono mup) (natOne ((hs50 ⟨hG51.1,trivial⟩).mono mup)))) rfl rfl rfl rfl rfl rfl rfl fl_ rfl rfl (fun z51 C51 hle51 hq51=>?_)
   refine D.ae ?_
   refine D.ar ?_
   refine D.ps 4 ?_
   refine D.ar ?_
   refine D.ps 3 ?_
   have k51:okD b=true->CmpRes (decV b) 1 z51:=fun h=>hq51 ⟨by show (!okD b)=false;rw [h];rfl,trivial⟩
   have hgf:((!okD b || decide (z51<=0)) || ((n1:Int) == 0))=false->okD b=true/\1<decV b/\0<decV top:=fun h=>by
    simp at h
    have h1:=(k51 h.1.1).2.1.1 h.1.2
    have h2:=mt (hz1 hot.1).2 om_
    exact ⟨h.1.1,h1,by omega⟩
   refine D.eF (fun x:Value=>x) (fun hG62=>(by exact natGcdV (k:=200) ((hn1 hot.1).mono mup) ((hn2 (hgf hG62.1).1).mono mup) (okD_sm hot.1) (okD_sm (hgf hG62.1).1) om_ (hgf hG62.1).2.2 (Nat.lt_trans Nat.zero_lt_one (hgf hG62.1).2.1))) rfl rfl rfl rfl rfl rfl rfl fl_ rfl rfl (fun g62 C62 hle62 hq62=>?_)
   refine D.bE [[.int .u32 1]] rfl rfl rfl rfl rfl rfl rfl rfl rfl rfl rfl rfl fl_ rfl rfl (fun b63 C63 hle63 hs63=>?_)
   refine D.eF (fun z:Int=>.int .i64 z) (fun hG64=>(by exact natCmp ((hq62 ⟨hG64.1,trivial⟩).mono mup) (natOne ((hs63 ⟨hG64.1,trivial⟩).mono mup)))) rfl rfl rfl rfl rfl rfl rfl fl_ rfl rfl (fun z64 C64 hle64 hq64=>?_)
   have k64:((!okD b || decide (z51<=0)) || ((n1:Int) == 0))=false->CmpRes (Nat.gcd (decV top) (decV b)) 1 z64:=fun h=>hq64 ⟨h,trivial⟩
   refine D.ae ?_
   refine D.ar ?_
   refine D.e5 2 5 9 11 66 hR ?_
   refine G.cd (fun h66=>?_) fun h66=>?_
   ·have hno:aK s=none:=by
     rw [hM]
     simp only
     rw [if_neg]
     intro h
     simp at h
     obtain ⟨⟨⟨h1,h2⟩,h3⟩,h4⟩:=h
     have h5:((!okD b || decide (z51<=0)) || ((n1:Int) == 0))=false:=by
      have e1:=(k51 h1).2.1.2 h2
      have e2:=mt (hz1 hot.1).1 h3
      simp [h1]
      omega
     have h6:=k64 h5
     rw [h5] at h66
     have h7:z64=0:=by
      have a1:=h6.1
      have a2:=h6.2.1
      omega
     rw [h7] at h66
     simp at h66
    refine G.rg fun R hR=>?_
    refine D.build (encF false (.slice none 0 0) (.slice none 0 0)) rfl rfl rfl rfl rfl rfl rfl rfl ?_
    refine D.ac (j:=0) ?_
    refine D.q2 1 2 3 hR ?_
    refine G.aA (G.eP (.head _) rfl rfl rfl rfl rfl ?_)
    exact ⟨rfl,_,by rw [hno];rfl,by rw [hno];rfl⟩
   ·have hr:okD b=true/\1<decV b/\0<decV top/\Nat.gcd (decV top) (decV b)=1:=by
     rw [Bool.or_eq_false_iff] at h66
     have h1:=hgf h66.1
     have h2:=k64 h66.1
     have h3:z64=0:=by simpa using h66.2
     refine ⟨h1.1,h1.2.1,h1.2.2, ?_⟩
     have a1:=h2.1
     have a2:=h2.2.1
     omega
    have hyes:aK s=some (ratB neg (decV top) (decV b)):=by
     rw [hM]
     simp only
     rw [if_pos]
     simp [hr.1,hr.2.1,hr.2.2.2]
     omega
    refine G.rp 3 fun R hR=>?_
    refine D.build (encF neg (.slice A1 n1 c1) (.slice A2 n2 c2)) rfl rfl rfl rfl rfl rfl rfl rfl ?_
    refine D.ac (j:=0) ?_
    refine D.q2 1 2 3 hR ?_
    refine G.aA (G.eP (.head _) rfl rfl rfl rfl rfl ?_)
    refine ⟨rfl,_,by rw [hyes];rfl, ?_⟩
    rw [hyes]
    exact frOf om_ hr.2.2.2 hng ((hn1 hot.1).mono mup) ((hn2 hr.1).mono mup)
  ·obtain rfl:bo=none:=by
    cases bo with
    | none=>rfl
    | some b=>cases h40
   refine G.rp 3 fun R hR=>?_
   refine D.build (encF neg (.slice A1 n1 c1) (.slice (some ⟨b39,0,none⟩) 1 1)) rfl rfl rfl rfl rfl rfl rfl rfl ?_
   refine D.ac (j:=0) ?_
   refine D.q2 1 2 3 hR ?_
   refine G.aA (G.eP (.head _) rfl rfl rfl rfl rfl ?_)
   refine ⟨rfl,_,by rw [hM];rfl, ?_⟩
   rw [hM]
   exact frOf om_ (Nat.gcd_one_right _) hng ((hn1 hot.1).mono mup) (natOne (hs39.mono mup))
end Go.Proofs.YtjhmlnebikbdbaaGreatDoor
namespace Go.Jog
open Go Go.Proofs Go.Shelf

def VarC (P:Program)(C:Mem)(name:String)(cs:Array Value):Prop:=∃ g e fz,P.globalNamed name=some g/\C g=some (.cells cs e fz)
theorem VarC.mono {P:Program}{C D:Mem}{name:String}{cs:Array Value}(h:VarC P C name cs)(hl:C.le D):VarC P D name cs :=
 let ⟨g,e,fz,h1,h2⟩:=h
 ⟨g,e,fz,h1,hl _ _ h2⟩
theorem VarC.var {P:Program}{C:Mem}{name:String}{cs:Array Value}(h:VarC P C name cs){L:List Ent}{w:World}(hw:Sep C L w):w.var? P name=some cs:=by
 obtain ⟨g,e,fz,h1,h2⟩:=h
 have h3:=hw.c _ _ h2
 simp [World.var?,h1,h3]
theorem VarC.ofWorld {P:Program}{W:World}{name:String}{cs:Array Value}(h:W.var? P name=some cs):VarC P (memOf W) name cs:=by
 unfold World.var? at h
 cases hg:P.globalNamed name with
 | none=>rw [hg] at h;cases h
 | some g =>
  rw [hg] at h
  simp only [Option.bind_some] at h
  split at h
  ·rename_i cs' e fz hb
   simp only [Option.some.injEq] at h
   subst h
   exact ⟨g,e,fz,hg,hb⟩
  ·cases h

theorem St.grown {C:Mem}{w:World}(hw:Sep C [] w)(q:Nat)(os:Array Obj):St w C [] C [] (Sort.grow (w.drewN q) os) :=
 ⟨⟨fun b o hb=>by rw [Sort.heap_grow_old (w.drewN q) os (bG (hw.c b o hb):b<(w.drewN q).heap.size)];exact hw.c b o hb,fun x hx=>(by cases hx),List.Pairwise.nil,hw.n⟩,
  ⟨rfl,rfl,rfl,by simp [Sort.grow],fun k hk _=>Sort.heap_grow_old (w.drewN q) os hk,Nat.le_add_right _ _⟩,Mem.le.refl _,fun _ _ hk=>.inl hk,fun _ hk=>.inr hk⟩

section
variable {P:Program} {ρ:Ren}
theorem itoa_fn (L : LaysM.n171 P ρ) (n : Int) (h0 : -9223372036854775808 <= n) (h1 : n <= 9223372036854775807) (C : Mem) (hT : VarC P C "internal/strconv.uint64pow10" (Lib.pow10Tab.map fun z => Value.int .u64 z).toArray) (hen : Enters P (ρ.f 171) = true) :
  Gives P (ρ.f 171) [.int .i64 n] C (strV (Lib.itoa n)) :=
 ⟨hen,fun w hw=>(Any.strconv_Itoa L n h0 h1 w (hT.var hw)).mono fun e w' ⟨h2,q,os,h3⟩=>by
  subst h3
  exact ⟨_,C,[],h2,St.grown hw q os,rfl,rfl⟩⟩
end
end Go.Jog
namespace Go.Proofs.YtjhmlnebikbdbaaGreatDoor
open Go Go.Jog
set_option maxRecDepth 100000

structure Tabs (C:Mem):Prop where
 pow : VarC cx.P C "internal/strconv.uint64pow10" (Lib.pow10Tab.map fun z => Value.int .u64 z).toArray
theorem Tabs.mono {C D:Mem}(h:Tabs C)(hl:C.le D):Tabs D:=⟨h.pow.mono hl⟩
theorem itoa_g (C:Mem)(hT:Tabs C)(n:Int)(h0:-9223372036854775808<=n)(h1:n<=9223372036854775807):Gives cx.P 69 [.int .i64 n] C (strV (Lib.itoa n)) :=
 itoa_fn Tryz.itoa n h0 h1 C hT.pow kr_

structure FV where
 b:Bool
 A:Option Addr
 n:Nat
 c:Nat
 A2:Option Addr
 n2:Nat
 c2:Nat
def FV.enc (x:FV):List Value:=[.bool x.b,.slice x.A x.n x.c,.slice x.A2 x.n2 x.c2]
theorem fv_len (x:FV):x.enc.length=3:=rfl
theorem FrC.fv {C:Mem}{v:Value}{q:Rat}(h:FrC C v q):∃ x:FV,v=.agg ⟨x.enc⟩:=by
 obtain ⟨A,n,c,A',n',c',rfl⟩:=h.form
 exact ⟨⟨_,A,n,c,A',n',c'⟩,rfl⟩
theorem ReadAt.fv {D:Mem}{v:Value}:∀ {o:Option Rat},ReadAt D v o->∃ x:FV,v=.agg ⟨x.enc⟩
 | none,h=>⟨⟨false,none,0,0,none,0,0⟩,h⟩
 | some _,h=>FrC.fv h
def RowsF (C:Mem)(xs:List FV)(qs:List Rat):Prop:=xs.length=qs.length/\∀ (i:Nat)(x:FV)(q:Rat),xs[i]?=some x->qs[i]?=some q->FrC C (.agg ⟨x.enc⟩) q
theorem RowsF.mono {C D:Mem}{xs:List FV}{qs:List Rat}(h:RowsF C xs qs)(hl:C.le D):RowsF D xs qs:=⟨h.1,fun i x q h1 h2=>(h.2 i x q h1 h2).mono hl⟩
theorem RowsF.nil (C:Mem):RowsF C [] []:=⟨rfl,fun i x q h=>by simp at h⟩
theorem RowsF.snoc {C:Mem}{xs:List FV}{qs:List Rat}{x:FV}{q:Rat}(h:RowsF C xs qs)(hx:FrC C (.agg ⟨x.enc⟩) q):RowsF C (xs++[x]) (qs++[q]):=by
 refine ⟨by simp [h.1],fun i y p h1 h2=>?_⟩
 rcases Nat.lt_or_ge i xs.length with hi | hi
 ·rw [List.getElem?_append_left hi] at h1
  rw [List.getElem?_append_left (by rw [<- h.1];exact hi)] at h2
  exact h.2 i y p h1 h2
 ·rw [List.getElem?_append_right hi] at h1
  rw [List.getElem?_append_right (by rw [<- h.1];exact hi)] at h2
  cases hk:i-xs.length with
  | zero =>
   rw [<- h.1,hk] at h2
   rw [hk] at h1
   simp at h1 h2
   subst h1 h2
   exact hx
  | succ k=>rw [hk] at h1;simp at h1
def FrL (C:Mem)(v:Value)(qs:List Rat):Prop:=∃ xs:List FV,Sl C 3 v (xs.map FV.enc)/\RowsF C xs qs
theorem FrL.mono {C D:Mem}{v:Value}{qs:List Rat}(h:FrL C v qs)(hl:C.le D):FrL D v qs:=by
 obtain ⟨xs,h1,h2⟩:=h
 exact ⟨xs,h1.mono hl,h2.mono hl⟩
theorem FrL.form {C:Mem}{v:Value}{qs:List Rat}(h:FrL C v qs):∃ A c,v=.slice A qs.length c:=by
 obtain ⟨xs,h1,h2⟩:=h
 obtain ⟨A,c,rfl,_⟩:=h1
 exact ⟨A,c,by rw [List.length_map,show xs.length=qs.length from h2.1]⟩
theorem RowsF.get {C:Mem}{xs:List FV}{qs:List Rat}{i:Nat}{q:Rat}(h:RowsF C xs qs)(hq:qs[i]?=some q):∃ x,xs[i]?=some x/\(xs.map FV.enc)[i]?=some x.enc/\FrC C (.agg ⟨x.enc⟩) q:=by
 have hi:i<qs.length:=(List.getElem?_eq_some_iff.1 hq).1
 have hx:xs[i]?=some (xs[i]'(Nat.lt_of_lt_of_eq hi h.1.symm)):=List.getElem?_eq_getElem _
 exact ⟨_,hx,by rw [List.getElem?_map,hx];rfl,h.2 i _ q hx hq⟩
def aL:List Str->Option (List Rat)
 | []=>some []
 | s::l=>match aK s,aL l with
  | some q,some qs=>some (q::qs)
  | _,_=>none
theorem readsM_snoc:∀ (l:List Str)(s:Str),aL (l++[s])=match aL l,aK s with
  | some qs,some q=>some (qs++[q])
  | _,_=>none
 | [],s=>by
  simp only [List.nil_append,aL]
  cases aK s <;> rfl
 | a::l,s=>by
  simp only [List.cons_append,aL,readsM_snoc l s]
  cases aK a <;> cases aL l <;> cases aK s <;> rfl
theorem readsM_none:∀ {l:List Str}{s:Str},s∈l->aK s=none->aL l=none
 | a::l,s,hs,h=>by
  simp only [aL]
  rcases List.mem_cons.1 hs with rfl | h2
  ·rw [h]
  ·rw [readsM_none h2 h]
   cases aK a <;> rfl
theorem readsM_len:∀ {l:List Str}{qs:List Rat},aL l=some qs->qs.length=l.length
 | [],qs,h=>by simp only [aL,Option.some.injEq] at h;subst h;rfl
 | a::l,qs,h=>by
  simp only [aL] at h
  cases ha:aK a with
  | none=>rw [ha] at h;cases h
  | some q =>
   cases hl:aL l with
   | none=>rw [ha,hl] at h;cases h
   | some ps =>
    rw [ha,hl] at h
    simp only [Option.some.injEq] at h
    subst h
    simp [readsM_len hl]
theorem oneSm {k:Nat}(hk:0<k):Sm k 1:=(Sm.one (by decide)).le hk
theorem readM_sm {s:Str}{q:Rat}(h:aK s=some q):SmQ 200 q:=by
 unfold aK at h
 split at h
 ·rename_i hc
  simp only [Bool.and_eq_true] at hc
  have h1:=okD_sm hc.1
  split at h
  ·cases h
   exact SmQ.ratB _ om_ h1 (oneSm om_)
  ·split at h
   ·rename_i hc2
    simp only [Bool.and_eq_true,decide_eq_true_eq] at hc2
    cases h
    exact SmQ.ratB _ om_ h1 (okD_sm hc2.1.1.1)
   ·cases h
 ·cases h
theorem dU:∀ {l:List Str}{qs:List Rat},aL l=some qs->∀ q∈qs,SmQ 200 q
 | [],qs,h,q,hq=>by simp only [aL,Option.some.injEq] at h;subst h;simp at hq
 | a::l,qs,h,q,hq=>by
  simp only [aL] at h
  cases ha:aK a with
  | none=>rw [ha] at h;cases h
  | some p =>
   cases hl:aL l with
   | none=>rw [ha,hl] at h;cases h
   | some ps =>
    rw [ha,hl] at h
    simp only [Option.some.injEq] at h
    subst h
    rcases List.mem_cons.1 hq with rfl | h2
    ·exact readM_sm ha
    ·exact dU hl q h2
theorem dm (C:Mem)(v:Value)(l:List Str)(hv:Sl C 1 v (l.map encS))(hl:l.length<=1000000)(hs:∀ s∈l,s.length<1000000):Pur cx.P 28 [v] C fun u D=>∃ A n c,u=.tuple #[.slice A n c,.bool (aL l).isSome]/\∀ qs,aL l=some qs->FrL D (.slice A n c) qs:=by
 obtain ⟨A0,c0,rfl,_⟩:=id hv
 simp only [List.length_map] at hv ⊢
 refine Fn.it kr_ Tryz.func28 28 fun w0=>?_
 refine G.z1 2 0 ?_
 refine G.z2 1 0 4 ?_
 refine G.z4 3 4 9 10 11 ?_
 refine G.nilArr 95 3 ?_
 refine G.loop (fun fr C' L' μ=>∃ (i:Nat)(qs:List Rat)(xs:List FV)(w:Value),(i<=l.length/\aL (l.take i)=some qs/\RowsF C' xs qs/\xs.length=i)/\fr=[(4,[],w),(9,[],.slice A0 l.length c0),(10,[],.int .i64 l.length),(11,[],.int .i64 i)]/\L'=[.arr w 95 3 i (xs.map FV.enc).flatten]/\μ=l.length-i) (h_4 4 9 10 11) ⟨0,[],[],_,⟨Nat.zero_le _,rfl,RowsF.nil _,rfl⟩,rfl,rfl,rfl⟩ (fun fr C0' L0' m hle0 hI=>?_)
 obtain ⟨i,qs,xs,w,⟨hi,hqs,hxs,hxl⟩,rfl,rfl,rfl⟩:=hI
 refine G.z5 1 4 9 10 11 12 ?_
 refine G.cd (fun h12=>?_) fun h12=>?_
 ·have hil:i<l.length:=by simpa using h12
  obtain ⟨s,hs0⟩:∃ s,l[i]?=some s:=⟨l[i],List.getElem?_eq_getElem hil⟩
  have hrow:(l.map encS)[i]?=some (encS s):=by rw [List.getElem?_map,hs0];rfl
  have hsl:=hs s (List.mem_of_getElem? hs0)
  have htk:l.take (i+1)=l.take i++[s]:=by rw [List.take_add_one,hs0];rfl
  refine G.rg fun R hR=>?_
  refine D.ai (hv.mono mup) rfl rfl rfl rfl rfl rfl rfl rfl rfl rfl om_ hrow fl_ (fun p13 hp13=>?_)
  refine D.aa hp13 ?_
  refine D.q5 1 4 6 9 10 11 hR ?_
  refine G.rp 1 fun R hR=>?_
  refine D.aJ (read_fn _ s hsl) (fun v17 C17 hle17 hq17=>?_)
  obtain ⟨vf,rfl,hvf⟩:=hq17
  obtain ⟨x,rfl⟩:=hvf.fv
  refine D.ps 3 ?_
  refine D.aj (fun b7=>?_)
  refine D.ac (j:=0) ?_
  refine D.q6 1 4 7 8 9 10 11 hR ?_
  refine G.z6 2 4 7 9 10 11 21 ?_
  refine G.cd (fun h21=>?_) fun h21=>?_
  ·have hno:aK s=none:=by
    cases h:aK s with
    | none=>rfl
    | some q=>rw [h] at h21;cases h21
   have hno2:aL l=none:=readsM_none (List.mem_of_getElem? hs0) hno
   refine G.z2 2 2 3 ?_
   refine G.aA (G.dropAll (G.bg rfl rfl rfl ?_))
   exact ⟨rfl,_,_,_,by rw [hno2];rfl,fun qs h=>by rw [hno2] at h;cases h⟩
  ·obtain ⟨q,hq⟩:∃ q,aK s=some q:=by
    cases h:aK s with
    | none=>rw [h] at h21;cases h21
    | some q=>exact ⟨q,rfl⟩
   rw [hq] at hvf
   refine G.rp 1 fun R hR=>?_
   refine D.ag (.head _) ?_
   refine D.ah [x.enc] (fun p24 C24 hle24 hs24=>?_)
   refine D.append (j:=1) rfl rfl rfl rfl rfl rfl rfl rfl rfl rfl rfl hs24 rfl (by simp only [List.length_singleton,maxLen];omega) (by show (i+1)*56<=_;omega) fl_ (fun v25=>?_)
   refine D.q4 1 4 9 10 11 hR ?_
   refine G.rg fun R hR=>?_
   refine D.ax _ ?_
   refine D.q4 1 4 9 10 11 hR ?_
   refine G.eH 1 rfl ?_
   refine G.bv (L':=[.arr v25 95 3 (i+1) ((xs++[x]).map FV.enc).flatten]) (by simp) ?_
   refine G.aB (m':=l.length-(i+1)) om_ mup (h_4 4 9 10 11) ⟨i+1,qs++[q],xs++[x],v25,⟨by omega,by rw [htk,readsM_snoc,hqs,hq],(hxs.mono mup).snoc (FrC.mono hvf mup),by simp [hxl]⟩,rfl,rfl,rfl⟩
 ·have hil:i=l.length:=by
   have:¬ i<l.length:=by simpa using h12
   omega
  rw [hil,List.take_length] at hqs
  refine G.freezeArr 0 (xs.map FV.enc) rfl rfl (by intro r hr;obtain ⟨y,_,rfl⟩:=List.mem_map.1 hr;rfl) (by rw [List.length_map,hxl]) (fun Cf hf hsd=>?_)
  obtain ⟨A9,c9,rfl,_⟩:=id hsd
  refine G.z2 3 2 3 ?_
  refine G.aA (G.dropAll (G.bg rfl rfl rfl ?_))
  refine ⟨rfl,_,_,_,by rw [hqs];rfl,fun ps h=>?_⟩
  rw [hqs] at h
  cases h
  exact ⟨xs,hsd.mono mup,hxs.mono mup⟩

theorem of_fn (C:Mem)(hT:Tabs C)(n:Int)(q:Rat)(h0:-9223372036854775808<=n)(h1:n<=9223372036854775807)(hl:(Lib.itoa n).length<1000000)(hq:aK (Lib.itoa n)=some q):Pur cx.P 31 [.int .i64 n] C fun u D=>FrC D u q:=by
 refine Fn.it kr_ Tryz.func31 12 fun w0=>?_
 refine G.rg fun R hR=>?_
 refine D.aj (fun b2=>?_)
 refine D.e2 0 2 hR ?_
 refine G.rp 1 fun R hR=>?_
 refine D.am (itoa_g _ (hT.mono mup) n h0 h1) ?_
 refine D.aJ (read_fn _ _ hl) (fun v8 C8 hle8 hq8=>?_)
 obtain ⟨vf,rfl,hvf⟩:=hq8
 obtain ⟨x,rfl⟩:=hvf.fv
 rw [hq] at hvf
 refine D.ps 3 ?_
 refine D.aj (fun b3=>?_)
 refine D.ac (j:=0) ?_
 refine D.q2 1 2 3 hR ?_
 refine G.rg fun R hR=>?_
 refine D.ag (.head _) ?_
 refine D.ac (j:=1) ?_
 refine D.e1 2 hR ?_
 refine G.aA (G.dG (.head _) rfl rfl rfl rfl ?_)
 exact ⟨rfl,FrC.mono hvf mup⟩
theorem of0_fn (C:Mem)(hT:Tabs C):Pur cx.P 31 [.int .i64 0] C fun u D=>FrC D u 0 :=
 of_fn C hT 0 0 (by decide) (by decide) (by decide +kernel) (by decide +kernel)
def gQ (l:List Rat)(i:Nat):Rat:=l.getD i 0
theorem gQ_get {l:List Rat}{i:Nat}(h:i<l.length):l[i]?=some (gQ l i):=by
 unfold gQ;rw [List.getD_eq_getElem?_getD,List.getElem?_eq_getElem h];rfl
def dotN (ps qs:List Rat):Nat->Rat
 | 0=>0
 | i+1=>dotN ps qs i+gQ ps i*gQ qs i
def dotR (ps qs:List Rat):Rat:=dotN ps qs ps.length
theorem dotN_sm {ps qs:List Rat}{j k:Nat}(hp:∀ p∈ps,SmQ j p)(hq:∀ q∈qs,SmQ k q)(hlen:ps.length<=qs.length):∀ i,i<=ps.length->SmQ ((j+k+1)*i+1) (dotN ps qs i)
 | 0,_=>⟨by show Sm _ 0;unfold Sm;exact Nat.pow_pos (by decide),oneSm om_⟩
 | i+1,h=>by
  have h1:=dotN_sm hp hq hlen i om_
  have h2:=hp _ (List.mem_of_getElem? (gQ_get (l:=ps) (i:=i) om_))
  have h3:=hq _ (List.mem_of_getElem? (gQ_get (l:=qs) (i:=i) om_))
  have h4:=h1.add (h2.mul h3)
  have e:(j+k+1)*(i+1)+1=(j+k+1)*i+1+(j+k)+1:=by rw [Nat.mul_succ];omega
  rw [e]
  exact h4
theorem sum_fn (C:Mem)(hT:Tabs C)(va vb:Value)(ps qs:List Rat)(j k:Nat)(ha:FrL C va ps)(hb:FrL C vb qs)(hlen:ps.length<=qs.length)(hp:∀ p∈ps,SmQ j p)(hq:∀ q∈qs,SmQ k q)(hs:(j+k+1)*(ps.length+1)<=900000) :
  Pur cx.P 44 [va,vb] C fun u D=>FrC D u (dotR ps qs):=by
 obtain ⟨xs,hsa,hxa⟩:=ha
 obtain ⟨ys,hsb,hxb⟩:=hb
 obtain ⟨A0,c0,rfl,hlx,hlx2,_⟩:=id hsa
 obtain ⟨B0,d0,rfl,_⟩:=id hsb
 have hlxs:xs.length=ps.length:=hxa.1
 have hmx:maxLen<=9223372036854775807:=by simp [maxLen]
 simp only [List.length_map] at hsa hsb hlx hlx2 ⊢
 refine Fn.it kr_ Tryz.func44 26 fun w0=>?_
 refine G.rg fun R hR=>?_
 refine D.aj (fun b4=>?_)
 refine D.e3 0 1 4 hR ?_
 refine G.rg fun R hR=>?_
 refine D.aJ (of0_fn _ (hT.mono mup)) (fun v7 C7 hle7 hq7=>?_)
 obtain ⟨x0,rfl⟩:=hq7.fv
 refine D.aj (fun b5=>?_)
 refine D.ac (j:=0) ?_
 refine D.e4 0 1 4 5 hR ?_
 refine G.z6 3 0 1 4 5 9 10 ?_
 refine G.loop (fun fr C' L' μ=>∃ (i:Nat)(x:FV),(i<=ps.length/\FrC C' (.agg ⟨x.enc⟩) (dotN ps qs i))/\fr=[(0,[],.slice A0 xs.length c0),(1,[],.slice B0 ys.length d0),(4,[],.pointer (some ⟨b4,0,none⟩)),(5,[],.pointer (some ⟨b5,0,none⟩)),(9,[],.int .i64 xs.length),(10,[],.int .i64 i)]/\L'=[.obj b5 (.cells ⟨x.enc⟩ 95 (0,0)),.obj b4 (.cells ⟨(FV.mk false none 0 0 none 0 0).enc⟩ 95 (0,0))]/\μ=ps.length-i) (h_6 0 1 4 5 9 10) ⟨0,x0,⟨Nat.zero_le _,hq7⟩,rfl,rfl,rfl⟩ (fun fr C0' L0' m hle0 hI=>?_)
 obtain ⟨i,x,⟨hi,hx⟩,rfl,rfl,rfl⟩:=hI
 refine G.z7 1 0 1 4 5 9 10 11 ?_
 refine G.cd (fun h11=>?_) fun h11=>?_
 ·have hil:i<ps.length:=by rw [<- hlxs];simpa using h11
  obtain ⟨y,hy0,hyr,hy⟩:=hxa.get (gQ_get hil)
  obtain ⟨z,hz0,hzr,hz⟩:=hxb.get (gQ_get (Nat.lt_of_lt_of_le hil hlen))
  have h2:=hp _ (List.mem_of_getElem? (gQ_get hil))
  have h3:=hq _ (List.mem_of_getElem? (gQ_get (Nat.lt_of_lt_of_le hil hlen)))
  have hb1:(j+k+1)*(i+1)<=900000:=Nat.le_trans (Nat.mul_le_mul_left _ om_) hs
  rw [Nat.mul_succ] at hb1
  have hdm:=dotN_sm hp hq hlen i hi
  refine G.z7 2 0 1 4 5 6 9 10 ?_
  refine G.aI [0,1,2,3,4,5,6,7,8,9,10,11] [] rfl kr_ (fun R hB hR=>?_)
  refine D.ag (.head _) ?_
  refine D.ps 2 ?_
  refine D.ai (hsa.mono mup) rfl rfl rfl rfl rfl rfl rfl rfl rfl rfl om_ hyr fl_ (fun p16 hp16=>?_)
  refine D.aa hp16 ?_
  refine D.ps 2 ?_
  refine D.ai (hsb.mono mup) rfl rfl rfl rfl rfl rfl rfl rfl rfl rfl om_ hzr fl_ (fun p20 hp20=>?_)
  refine D.aa hp20 ?_
  refine D.ap (fmul_fn (hy.mono mup) (hz.mono mup) h2 h3 om_) rfl rfl rfl rfl rfl rfl rfl fl_ (fun v22 C22 hle22 hq22=>?_)
  refine D.ap (fadd_fn (hx.mono mup) (hq22.mono mup) hdm (h2.mul h3) om_) rfl rfl rfl rfl rfl rfl rfl fl_ (fun v23 C23 hle23 hq23=>?_)
  obtain ⟨x2,rfl⟩:=hq23.fv
  refine D.ac (j:=0) ?_
  refine D.e6 0 1 4 5 9 10 hR ?_
  refine G.rg fun R hR=>?_
  refine D.ax _ ?_
  refine D.q6 1 0 1 4 5 9 10 hR ?_
  refine G.aB (m':=ps.length-(i+1)) om_ mup (h_6 0 1 4 5 9 10) ⟨i+1,x2,⟨by omega,hq23.mono mup⟩,rfl,rfl,rfl⟩
 ·have hil:i=ps.length:=by
   have:¬ i<xs.length:=by simpa using h11
   omega
  refine G.rg fun R hR=>?_
  refine D.ag (.head _) ?_
  refine D.ac (j:=1) ?_
  refine D.e1 4 hR ?_
  refine G.aA (G.dG (.head _) rfl rfl rfl rfl ?_)
  refine ⟨rfl, ?_⟩
  unfold dotR
  rw [<- hil]
  exact hx.mono mup
end Go.Proofs.YtjhmlnebikbdbaaGreatDoor
namespace Go.Jog
def findI {α:Type}(p:α->Bool):List α->Nat->Int
 | [],_=>-1
 | x::l,k=>if p x=true then k else findI p l (k+1)
theorem findI_at {α:Type}{p:α->Bool}:∀ {l:List α}{x:α}{k j:Nat},l[k]?=some x->(∀ y∈l.take k,p y=false)->p x=true->findI p l j=((j+k:Nat):Int)
 | [],x,k,j,h,_,_=>by simp at h
 | y::l,x,0,j,h,_,hp=>by
  simp at h
  subst h
  simp [findI,hp]
 | y::l,x,k+1,j,h,ha,hp=>by
  have:=findI_at (l:=l) (k:=k) (j:=j+1) (by simpa using h) (fun z hz=>ha z (by simp [hz])) hp
  simp only [findI,this]
  rw [if_neg (by rw [ha y (by simp)];decide)]
  congr 1;omega
theorem findI_none {α:Type}{p:α->Bool}:∀ {l:List α}{j:Nat},(∀ y∈l,p y=false)->findI p l j=-1
 | [],_,_=>rfl
 | y::l,j,h=>by
  simp only [findI]
  rw [if_neg (by rw [h y (by simp)];decide)]
  exact findI_none (fun z hz=>h z (by simp [hz]))
theorem findI_cases {α:Type}{p:α->Bool}:∀ (l:List α)(j:Nat),(findI p l j=-1/\∀ y∈l,p y=false)∨∃ k x,findI p l j=((j+k:Nat):Int)/\l[k]?=some x/\p x=true/\∀ y∈l.take k,p y=false
 | [],_=>.inl ⟨rfl,fun y hy=>by cases hy⟩
 | y::l,j=>by
  simp only [findI]
  by_cases h:p y=true
  ·exact .inr ⟨0,y,by rw [if_pos h];rfl,by simp,h,by simp⟩
  ·simp only [Bool.not_eq_true] at h
   rw [if_neg (by rw [h];decide)]
   rcases findI_cases l (j+1) with ⟨h1,h2⟩ | ⟨k,x,h1,h2,h3,h4⟩
   ·refine .inl ⟨h1,fun z hz=>?_⟩
    rcases List.mem_cons.1 hz with rfl | hz
    ·exact h
    ·exact h2 z hz
   ·refine .inr ⟨k+1,x,by rw [h1];congr 1;omega,by simpa using h2,h3,fun z hz=>?_⟩
    rw [List.take_succ_cons] at hz
    rcases List.mem_cons.1 hz with rfl | hz
    ·exact h
    ·exact h4 z hz

theorem findI_any {α:Type}{p:α->Bool}(l:List α):decide (0<=findI p l 0)=l.any p:=by
 rcases findI_cases (p:=p) l 0 with ⟨h1,h2⟩ | ⟨k,x,h1,h2,h3,_⟩
 ·rw [h1]
  have:l.any p=false:=by rw [List.any_eq_false];exact fun y hy=>by rw [h2 y hy];decide
  rw [this];rfl
 ·rw [h1]
  have:l.any p=true:=List.any_eq_true.2 ⟨x,List.mem_of_getElem? h2,h3⟩
  rw [this];simp
end Go.Jog
namespace Go.Proofs.YtjhmlnebikbdbaaGreatDoor
open Go Go.Jog
set_option maxRecDepth 100000

theorem number_fn (C:Mem)(s:Str)(hl:s.length<1000000):Gives cx.P 11 [strV s] C (.bool (aK s).isSome):=by
 refine Fn.it kr_ Tryz.func11 11 fun w0=>?_
 refine G.z1 1 0 ?_
 refine G.rp 1 fun R hR=>?_
 refine D.aJ (read_fn _ s hl) (fun v7 C7 hle7 hq7=>?_)
 obtain ⟨vf,rfl,hvf⟩:=hq7
 obtain ⟨x,rfl⟩:=hvf.fv
 refine D.ps 3 ?_
 refine D.aj (fun b3=>?_)
 refine D.ac (j:=0) ?_
 refine D.q1 1 4 hR ?_
 refine G.z1 2 2 ?_
 refine G.rf ?_
 exact ⟨rfl,rfl⟩
theorem open1_fn (C:Mem)(x:FV):Gives cx.P 86 [.agg ⟨x.enc⟩] C (.bool x.b):=by
 refine Fn.it kr_ Tryz.func86 5 fun w0=>?_
 refine G.rg fun R hR=>?_
 refine D.aM (fun b1=>?_)
 refine D.q1 1 1 hR ?_
 refine G.rp 1 fun R hR=>?_
 refine D.ag (.head _) ?_
 refine D.q1 1 2 hR ?_
 refine G.rf ?_
 exact ⟨rfl,rfl⟩
theorem indexFr_fn (C:Mem)(v:Value)(xs:List FV)(g:FuncId)(cb:List Value)(p:FV->Bool)(hv:Sl C 3 v (xs.map FV.enc))(hcb:∀ x∈xs,∀ C',C.le C'->Gives cx.P g (.agg ⟨x.enc⟩::cb) C' (.bool (p x))) :
  Gives cx.P 132 [v,.func (.func g) #[] ⟨cb⟩] C (.int .i64 (findI p xs 0)):=by
 obtain ⟨A0,c0,rfl,hlx,hlx2,_⟩:=id hv
 have hmx:maxLen<=9223372036854775807:=by simp [maxLen]
 simp only [List.length_map] at hv hlx hlx2 ⊢
 refine Fn.it kr_ Tryz.func132 19 fun w0=>?_
 refine G.z2 1 0 1 ?_
 refine G.z4 3 0 1 7 8 ?_
 refine G.loop (fun fr C' L' μ=>∃ (k:Nat),(k<=xs.length/\∀ y∈xs.take k,p y=false)/\fr=[(0,[],.slice A0 xs.length c0),(1,[],.func (.func g) #[] ⟨cb⟩),(7,[],.int .i64 xs.length),(8,[],.int .i64 k)]/\L'=[]/\μ=xs.length-k) (h_4 0 1 7 8) ⟨0,⟨Nat.zero_le _,by simp⟩,rfl,rfl,rfl⟩ (fun fr C0' L0' m hle0 hI=>?_)
 obtain ⟨k,⟨hk,hall⟩,rfl,rfl,rfl⟩:=hI
 refine G.z5 1 0 1 7 8 9 ?_
 refine G.cd (fun h9=>?_) fun h9=>?_
 ·have hkl:k<xs.length:=by simpa using h9
  obtain ⟨x,hx⟩:∃ x,xs[k]?=some x:=⟨xs[k],List.getElem?_eq_getElem hkl⟩
  have hrow:(xs.map FV.enc)[k]?=some x.enc:=by rw [List.getElem?_map,hx];rfl
  refine G.z5 2 0 1 5 7 8 ?_
  refine G.rp 3 fun R hR=>?_
  refine D.ai (hv.mono mup) rfl rfl rfl rfl rfl rfl rfl rfl rfl rfl om_ hrow fl_ (fun p14 hp14=>?_)
  refine D.aa hp14 ?_
  refine D.am (hcb x (List.mem_of_getElem? hx) _ mup) ?_
  refine D.e6 0 1 5 7 8 16 hR ?_
  refine G.cd (fun h16=>?_) fun h16=>?_
  ·refine G.z1 2 4 ?_
   refine G.rf ?_
   refine ⟨?_,rfl⟩
   rw [findI_at (k:=k) (j:=0) hx hall h16,Nat.zero_add]
  ·refine G.rg fun R hR=>?_
   refine D.ax _ ?_
   refine D.q4 1 0 1 7 8 hR ?_
   refine G.aB (m':=xs.length-(k+1)) om_ hle0 (h_4 0 1 7 8) ⟨k+1,⟨by omega,fun y hy=>by
    rw [List.take_add_one,hx] at hy
    rcases List.mem_append.1 hy with h6 | h6
    ·exact hall y h6
    ·simp only [Option.toList_some,List.mem_singleton] at h6
     subst h6
     exact h16⟩,rfl,rfl,rfl⟩
 ·have hkl:xs.length<=k:=by
   have:¬ k<xs.length:=by simpa using h9
   omega
  refine G.z1 1 4 ?_
  refine G.rf ?_
  rw [List.take_of_length_le hkl] at hall
  exact ⟨by rw [findI_none hall],rfl⟩
theorem contFr_fn (C:Mem)(v:Value)(xs:List FV)(g:FuncId)(cb:List Value)(p:FV->Bool)(hv:Sl C 3 v (xs.map FV.enc))(hcb:∀ x∈xs,∀ C',C.le C'->Gives cx.P g (.agg ⟨x.enc⟩::cb) C' (.bool (p x))) :
  Gives cx.P 85 [v,.func (.func g) #[] ⟨cb⟩] C (.bool (xs.any p)):=by
 obtain ⟨A0,c0,rfl,hlx,hlx2,_⟩:=id hv
 refine Fn.it kr_ Tryz.func85 9 fun w0=>?_
 refine G.z2 1 0 1 ?_
 refine G.rp 2 fun R hR=>?_
 refine D.am (indexFr_fn _ _ xs g cb p hv hcb) ?_
 refine D.q1 2 4 hR ?_
 refine G.rf ?_
 exact ⟨by rw [findI_any],rfl⟩

structure RV where
 A:Option Addr
 n:Nat
 c:Nat
 s:Str
def RV.enc (r:RV):List Value:=[.slice r.A r.n r.c,strV r.s]
def RowsIn (C:Mem)(v:Value)(rows:List (List Str × Str)):Prop:=∃ rs:List RV,Sl C 2 v (rs.map RV.enc)/\rs.length=rows.length/\∀ (i:Nat)(r:RV)(row:List Str × Str),rs[i]?=some r->rows[i]?=some row->Sl C 1 (.slice r.A r.n r.c) (row.1.map encS)/\r.s=row.2
theorem RowsIn.mono {C D:Mem}{v:Value}{rows:List (List Str × Str)}(h:RowsIn C v rows)(hl:C.le D):RowsIn D v rows:=by
 obtain ⟨rs,h1,h2,h3⟩:=h
 exact ⟨rs,h1.mono hl,h2,fun i r row hr hw=>⟨(h3 i r row hr hw).1.mono hl,(h3 i r row hr hw).2⟩⟩
structure SV where
 A:Option Addr
 n:Nat
 c:Nat
def SV.enc (x:SV):List Value:=[.slice x.A x.n x.c]
def FrLL (C:Mem)(xs:List SV)(fs:List (List Rat)):Prop:=xs.length=fs.length/\∀ (i:Nat)(x:SV)(f:List Rat),xs[i]?=some x->fs[i]?=some f->FrL C (.slice x.A x.n x.c) f
theorem FrLL.mono {C D:Mem}{xs:List SV}{fs:List (List Rat)}(h:FrLL C xs fs)(hl:C.le D):FrLL D xs fs:=⟨h.1,fun i x f h1 h2=>(h.2 i x f h1 h2).mono hl⟩
theorem FrLL.nil (C:Mem):FrLL C [] []:=⟨rfl,fun i x q h=>by simp at h⟩
theorem FrLL.snoc {C:Mem}{xs:List SV}{fs:List (List Rat)}{x:SV}{f:List Rat}(h:FrLL C xs fs)(hx:FrL C (.slice x.A x.n x.c) f):FrLL C (xs++[x]) (fs++[f]):=by
 have hl:xs.length=fs.length:=h.1
 refine ⟨by simp [hl],fun i y p h1 h2=>?_⟩
 rcases Nat.lt_or_ge i xs.length with hi | hi
 ·rw [List.getElem?_append_left hi] at h1
  rw [List.getElem?_append_left om_] at h2
  exact h.2 i y p h1 h2
 ·rw [List.getElem?_append_right hi] at h1
  rw [List.getElem?_append_right om_,<- hl] at h2
  cases hk:i-xs.length with
  | zero =>
   rw [hk] at h1 h2
   simp at h1 h2
   subst h1 h2
   exact hx
  | succ k=>rw [hk] at h1;simp at h1
def rowM (n:Int)(row:List Str × Str):Option (List Rat × Rat) :=
 match aL row.1,aK row.2 with
 | some f,some b=>if (f.length:Int)=n then some (f,b) else none
 | _,_=>none
def rowsM (n:Int):List (List Str × Str)->Option (List (List Rat × Rat))
 | []=>some []
 | s::l=>match rowM n s,rowsM n l with
  | some q,some qs=>some (q::qs)
  | _,_=>none
theorem rowsM_snoc (n:Int):∀ (l:List (List Str × Str))(s:List Str × Str),rowsM n (l++[s])=match rowsM n l,rowM n s with
  | some qs,some q=>some (qs++[q])
  | _,_=>none
 | [],s=>by
  simp only [List.nil_append,rowsM]
  cases rowM n s <;> rfl
 | a::l,s=>by
  simp only [List.cons_append,rowsM,rowsM_snoc n l s]
  cases rowM n a <;> cases rowsM n l <;> cases rowM n s <;> rfl
theorem rowsM_none {n:Int}:∀ {l:List (List Str × Str)}{s:List Str × Str},s∈l->rowM n s=none->rowsM n l=none
 | a::l,s,hs,h=>by
  simp only [rowsM]
  rcases List.mem_cons.1 hs with rfl | h2
  ·rw [h]
  ·rw [rowsM_none h2 h]
   cases rowM n a <;> rfl
def openM (n:Int)(rows:List (List Str × Str))(d:List Str):Option (List (List Rat × Rat) × List Rat) :=
 match rowsM n rows,aL d with
 | some ps,some ms=>if ms.length=rows.length/\ms.any (fun q=>decide (q.num<0))=false then some (ps,ms) else none
 | _,_=>none
structure YV where
 A:Option Addr
 n:Nat
 c:Nat
 A2:Option Addr
 n2:Nat
 c2:Nat
 A3:Option Addr
 n3:Nat
 c3:Nat
def YV.enc (y:YV):List Value:=[.slice y.A y.n y.c,.slice y.A2 y.n2 y.c2,.slice y.A3 y.n3 y.c3]
def SysC (C:Mem)(y:YV)(ps:List (List Rat × Rat))(ms:List Rat):Prop:=(∃ xs:List SV,Sl C 1 (.slice y.A y.n y.c) (xs.map SV.enc)/\FrLL C xs (ps.map (·.1)))/\FrL C (.slice y.A2 y.n2 y.c2) (ps.map (·.2))/\FrL C (.slice y.A3 y.n3 y.c3) ms
abbrev sA (A:Option Addr)(n c:Nat):Value:=.slice A n c
abbrev sB (A:Option Addr)(n c:Nat):Value:=.slice A n c
def negD (d:List Str):Bool:=match aL d with
 | some ms=>ms.any fun q=>decide (q.num<0)
 | none=>false
theorem RowsF.any {C:Mem}:∀ {xs:List FV}{qs:List Rat},RowsF C xs qs->(xs.any fun x=>x.b)=qs.any fun q=>decide (q.num<0)
 | [],[],_=>rfl
 | [],_::_,h=>by have:=h.1;simp at this
 | _::_,[],h=>by have:=h.1;simp at this
 | x::xs,q::qs,h=>by
  have h1:x.b=decide (q.num<0):=by
   obtain ⟨u,w,e,_⟩:=h.2 0 x q rfl rfl
   simp [FV.enc,encF] at e
   exact e.1
  have h2:RowsF C xs qs:=⟨by have:=h.1;simpa using this,fun i y p hy hp=>h.2 (i+1) y p (by simpa using hy) (by simpa using hp)⟩
  simp only [List.any_cons,h1,RowsF.any h2]
theorem contNeg {C:Mem}{v:Value}{ms:List Rat}(h:FrL C v ms):Gives cx.P 85 [v,.func (.func 86) #[] #[]] C (.bool (ms.any fun q=>decide (q.num<0))):=by
 obtain ⟨xs,h1,h2⟩:=h
 rw [<- h2.any]
 exact contFr_fn C v xs _ [] (fun x=>x.b) h1 (fun x _ C' _=>open1_fn C' x)
theorem or_no {a b:Bool}(h:(!a || b)=false):a=true:=by cases a <;> simp_all
def cqX0 (xs:List SV)(ys:List FV)(Ad:Option Addr)(nd cd i b5 b6 b9 b12:Nat)(A10:Option Addr)(n10 c10:Nat)(x:FV)(r:RV)(A49:Option Addr)(n49 c49:Nat)(A54:Option Addr)(n54 c54:Nat):List Ent:=[.arr (sA A49 n49 c49) 89 1 (i+1) ((xs.map SV.enc).flatten++[[.slice A10 n10 c10]].flatten),.arr (sB A54 n54 c54) 95 3 (i+1) ((ys.map FV.enc).flatten++[x.enc].flatten),.obj b6 (.cells ⟨(YV.mk A49 n49 c49 A54 n54 c54 none 0 0).enc⟩ 122 (0,0)),.obj b5 (.cells ⟨[.slice Ad nd cd]⟩ 60 (0,0)),.obj b12 (.cells ⟨x.enc⟩ 95 (0,0)),.obj b9 (.cells ⟨r.enc⟩ 57 (0,0))]
def cqX1 (xs:List SV)(ys:List FV)(Ad:Option Addr)(nd cd i b5 b6 _b9 _b12:Nat)(A10:Option Addr)(n10 c10:Nat)(x:FV)(_r:RV)(A49:Option Addr)(n49 c49:Nat)(A54:Option Addr)(n54 c54:Nat):List Ent:=[.arr (sA A49 n49 c49) 89 1 (i+1) ((xs++[SV.mk A10 n10 c10]).map SV.enc).flatten,.arr (sB A54 n54 c54) 95 3 (i+1) ((ys++[x]).map FV.enc).flatten,.obj b6 (.cells ⟨(YV.mk A49 n49 c49 A54 n54 c54 none 0 0).enc⟩ 122 (0,0)),.obj b5 (.cells ⟨[.slice Ad nd cd]⟩ 60 (0,0))]
theorem a7 {F:Fx}{k:List KI}{fr:Fr}{e:Exit}{C:Mem}{xs:List SV}{ys:List FV}{Ad:Option Addr}{nd cd i b5 b6 b9 b12:Nat}{A10:Option Addr}{n10 c10:Nat}{x:FV}{r:RV}{A49:Option Addr}{n49 c49:Nat}{A54:Option Addr}{n54 c54:Nat}(h:G F k e fr C (cqX1 xs ys Ad nd cd i b5 b6 b9 b12 A10 n10 c10 x r A49 n49 c49 A54 n54 c54)):G F k e fr C (cqX0 xs ys Ad nd cd i b5 b6 b9 b12 A10 n10 c10 x r A49 n49 c49 A54 n54 c54):=by
 refine G.eH 4 rfl (G.eH 4 rfl ?_)
 refine G.bv (L':=cqX1 xs ys Ad nd cd i b5 b6 b9 b12 A10 n10 c10 x r A49 n49 c49 A54 n54 c54) (by simp [cqX0,cqX1,SV.enc]) h
theorem copen_fn (C:Mem)(v:Value)(n:Int)(Ad:Option Addr)(nd cd:Nat)(rows:List (List Str × Str))(d:List Str)(hv:RowsIn C v rows)(hd:Sl C 1 (.slice Ad nd cd) (d.map encS))(hl:rows.length<=10000)(hf:∀ r∈rows,r.1.length<=1000000/\(∀ s∈r.1,s.length<1000000)/\r.2.length<1000000)(hdl:d.length<=1000000)(hds:∀ s∈d,s.length<1000000) :
  Pur cx.P 43 [v,.int .i64 n,.agg ⟨[.slice Ad nd cd]⟩] C fun u D=>∃ y:YV,u=.tuple #[.agg ⟨y.enc⟩,.bool (openM n rows d).isSome]/\∀ ps ms,openM n rows d=some (ps,ms)->SysC D y ps ms:=by
 obtain ⟨rs,hsv,hrl,hrs⟩:=hv
 obtain ⟨A0,c0,rfl,hlx,hlx2,_⟩:=id hsv
 have hmx:maxLen<=9223372036854775807:=by simp [maxLen]
 simp only [List.length_map] at hsv hlx hlx2 ⊢
 refine Fn.it kr_ Tryz.func43 82 fun w0=>?_
 refine G.rg fun R hR=>?_
 refine D.aM (fun b5=>?_)
 refine D.aj (fun b6=>?_)
 refine D.q4 1 0 1 5 6 hR ?_
 refine G.z7 3 0 1 5 6 14 15 16 ?_
 refine G.nilArr 95 3 ?_
 refine G.nilArr 89 1 ?_
 refine G.perm (L':=[.arr (sA none 0 0) 89 1 0 [],.arr (sB none 0 0) 95 3 0 [],.obj b6 (.cells ⟨(YV.mk none 0 0 none 0 0 none 0 0).enc⟩ 122 (0,0)),.obj b5 (.cells ⟨[.slice Ad nd cd]⟩ 60 (0,0))]) (pkL [0,0,0,0] rfl) ?_
 refine G.loop (fun fr C' L' μ=>∃ (i:Nat)(ps:List (List Rat × Rat))(xs:List SV)(ys:List FV)(A1:Option Addr)(n1 c1:Nat)(A2:Option Addr)(n2 c2:Nat),(i<=rows.length/\rowsM n (rows.take i)=some ps/\FrLL C' xs (ps.map (·.1))/\RowsF C' ys (ps.map (·.2))/\xs.length=i/\ys.length=i)/\fr=[(0,[],.slice A0 rs.length c0),(1,[],.int .i64 n),(5,[],.pointer (some ⟨b5,0,none⟩)),(6,[],.pointer (some ⟨b6,0,none⟩)),(14,[],.slice A0 rs.length c0),(15,[],.int .i64 rs.length),(16,[],.int .i64 i)]/\L'=[.arr (sA A1 n1 c1) 89 1 i (xs.map SV.enc).flatten,.arr (sB A2 n2 c2) 95 3 i (ys.map FV.enc).flatten,.obj b6 (.cells ⟨(YV.mk A1 n1 c1 A2 n2 c2 none 0 0).enc⟩ 122 (0,0)),.obj b5 (.cells ⟨[.slice Ad nd cd]⟩ 60 (0,0))]/\μ=rows.length-i) (h_7 0 1 5 6 14 15 16) ⟨0,[],[],[],_,_,_,_,_,_,⟨Nat.zero_le _,rfl,FrLL.nil _,RowsF.nil _,rfl,rfl⟩,rfl,rfl,rfl⟩ (fun fr C0' L0' m hle0 hI=>?_)
 obtain ⟨i,ps,xs,ys,A1,n1,c1,A2,n2,c2,⟨hi,hps,hxs,hys,hxl,hyl⟩,rfl,rfl,rfl⟩:=hI
 refine G.z8 1 0 1 5 6 14 15 16 17 ?_
 refine G.cd (fun h17=>?_) fun h17=>?_
 ·have hil:i<rs.length:=by simpa using h17
  obtain ⟨r,hr0⟩:∃ r,rs[i]?=some r:=⟨rs[i],List.getElem?_eq_getElem hil⟩
  obtain ⟨row,hw0⟩:∃ row,rows[i]?=some row:=⟨rows[i]'om_,List.getElem?_eq_getElem _⟩
  obtain ⟨hrf,hrb⟩:=hrs i r row hr0 hw0
  have hrow:(rs.map RV.enc)[i]?=some r.enc:=by rw [List.getElem?_map,hr0];rfl
  have hfr:=hf row (List.mem_of_getElem? hw0)
  have htk:rows.take (i+1)=rows.take i++[row]:=by rw [List.take_add_one,hw0];rfl
  refine G.rg fun R hR=>?_
  refine D.ai (hsv.mono mup) rfl rfl rfl rfl rfl rfl rfl rfl rfl rfl om_ hrow fl_ (fun p18 hp18=>?_)
  refine D.aa hp18 ?_
  refine D.aj (fun b9=>?_)
  refine D.ac (j:=0) ?_
  refine D.e8 0 1 5 6 9 14 15 16 hR ?_
  refine G.rp 1 fun R hR=>?_
  refine D.ag (.head _) ?_
  refine D.aJ (dm _ _ row.1 (hrf.mono mup) hfr.1 hfr.2.1) (fun v23 C23 hle23 hq23=>?_)
  obtain ⟨A10,n10,c10,rfl,hf10⟩:=hq23
  refine D.q10 5 0 1 5 6 9 10 11 14 15 16 hR ?_
  refine G.rp 1 fun R hR=>?_
  refine D.ag (.head _) ?_
  refine D.ap (read_fn _ r.s (by rw [hrb];exact hfr.2.2)) rfl rfl rfl rfl rfl rfl rfl fl_ (fun v29 C29 hle29 hq29=>?_)
  obtain ⟨vf,rfl,hvf⟩:=hq29
  obtain ⟨x,rfl⟩:=hvf.fv
  rw [hrb] at hvf
  refine D.ps 3 ?_
  refine D.aj (fun b12=>?_)
  refine D.ac (j:=0) ?_
  refine D.q11 1 0 1 5 6 10 11 12 13 14 15 16 hR ?_
  refine G.rp 5 fun R hR=>?_
  refine D.ar ?_
  refine D.ps 5 ?_
  refine D.ar ?_
  refine D.e10 0 1 5 6 10 12 14 15 16 43 hR ?_
  refine G.cd (fun h43=>?_) fun h43=>?_
  ·have hno:rowM n row=none:=by
    unfold rowM
    cases h1:aL row.1 with
    | none=>rfl
    | some f =>
     cases h2:aK row.2 with
     | none=>rfl
     | some b =>
      have hf:=hf10 f h1
      obtain ⟨A,c,e⟩:=hf.form
      injection e with e1 e2 e3
      simp only
      rw [if_neg]
      intro hn
      rw [hrb,h1,h2,e2,hn] at h43
      simp at h43
   have hno2:openM n rows d=none:=by
    unfold openM
    rw [rowsM_none (List.mem_of_getElem? hw0) hno]
   refine G.rg fun R hR=>?_
   refine D.build (YV.mk none 0 0 none 0 0 none 0 0).enc rfl rfl rfl rfl rfl rfl rfl rfl ?_
   refine D.ac (j:=4) ?_
   refine D.q2 1 6 7 hR ?_
   refine G.aA (G.eP (.head _) rfl rfl rfl rfl rfl ?_)
   exact ⟨rfl,_,by rw [hno2];rfl,fun ps ms h=>by rw [hno2] at h;cases h⟩
  ·obtain ⟨f,b,h1,h2,h3⟩:∃ f b,aL row.1=some f/\aK row.2=some b/\(f.length:Int)=n:=by
    cases h1:aL row.1 with
    | none=>rw [h1] at h43;simp at h43
    | some f =>
     cases h2:aK row.2 with
     | none=>rw [hrb,h1,h2] at h43;simp at h43
     | some b =>
      refine ⟨f,b,rfl,rfl, ?_⟩
      obtain ⟨A,c,e⟩:=(hf10 f h1).form
      injection e with e1 e2 e3
      rw [hrb,h1,h2,e2] at h43
      simpa using h43
   have hrm:rowM n row=some (f,b):=by unfold rowM;rw [h1,h2];simp only;rw [if_pos h3]
   rw [h2] at hvf
   refine G.bH (fun fr C' L' μ=>∃ (A7:Option Addr)(n7 c7:Nat)(A8:Option Addr)(n8 c8:Nat),(True)/\fr=[(0,[],.slice A0 rs.length c0),(1,[],.int .i64 n),(5,[],.pointer (some ⟨b5,0,none⟩)),(6,[],.pointer (some ⟨b6,0,none⟩)),(14,[],.slice A0 rs.length c0),(15,[],.int .i64 rs.length),(16,[],.int .i64 i)]/\L'=[.arr (sA A7 n7 c7) 89 1 (i+1) ((xs++[SV.mk A10 n10 c10]).map SV.enc).flatten,.arr (sB A8 n8 c8) 95 3 (i+1) ((ys++[x]).map FV.enc).flatten,.obj b6 (.cells ⟨(YV.mk A7 n7 c7 A8 n8 c8 none 0 0).enc⟩ 122 (0,0)),.obj b5 (.cells ⟨[.slice Ad nd cd]⟩ 60 (0,0))]) ?_ (fun fr Cr8 Lr8 μ hler8 hI=>?_)
   ·refine G.eA (.cut [0,1,2,5] (.alt 3 (.cut [] (.alt 4 (.fin [6,7,10,8,9,11,12,13]) (.alt 6 (.cut [] (.alt 4 (.fin [7,10,8,9,11,12,13]) (.alt 7 (.cut [] (.alt 4 (.fin [10,8,9,11,12,13]) (.alt 8 (.fin [4,10,9,11,12,13]) .stop))) .stop))) (.alt 7 (.cut [] (.alt 4 (.fin [6,10,8,9,11,12,13]) (.alt 6 (.cut [] (.alt 4 (.fin [10,8,9,11,12,13]) (.alt 8 (.fin [4,10,9,11,12,13]) .stop))) (.alt 8 (.cut [] (.alt 4 (.fin [6,10,9,11,12,13]) (.alt 6 (.fin [4,10,9,11,12,13]) .stop))) .stop)))) .stop)))) (.alt 6 (.cut [] (.alt 3 (.cut [] (.alt 4 (.fin [7,10,8,9,11,12,13]) (.alt 7 (.cut [] (.alt 4 (.fin [10,8,9,11,12,13]) (.alt 8 (.fin [4,10,9,11,12,13]) .stop))) .stop))) (.alt 7 (.cut [] (.alt 3 (.cut [] (.alt 4 (.fin [10,8,9,11,12,13]) (.alt 8 (.fin [4,10,9,11,12,13]) .stop))) (.alt 8 (.fin [3,4,10,9,11,12,13]) .stop))) .stop))) (.alt 7 (.cut [] (.alt 3 (.cut [] (.alt 4 (.fin [6,10,8,9,11,12,13]) (.alt 6 (.cut [] (.alt 4 (.fin [10,8,9,11,12,13]) (.alt 8 (.fin [4,10,9,11,12,13]) .stop))) (.alt 8 (.cut [] (.alt 4 (.fin [6,10,9,11,12,13]) (.alt 6 (.fin [4,10,9,11,12,13]) .stop))) .stop)))) (.alt 6 (.cut [] (.alt 3 (.cut [] (.alt 4 (.fin [10,8,9,11,12,13]) (.alt 8 (.fin [4,10,9,11,12,13]) .stop))) (.alt 8 (.fin [3,4,10,9,11,12,13]) .stop))) (.alt 8 (.cut [] (.alt 3 (.cut [] (.alt 4 (.fin [6,10,9,11,12,13]) (.alt 6 (.fin [4,10,9,11,12,13]) .stop))) (.alt 6 (.fin [3,4,10,9,11,12,13]) .stop))) .stop)))) .stop)))) [] rfl rfl kr_ (fun R hB hR hH=>?_)
    refine D.ae ?_
    refine D.ag (.tail _ (.tail _ (.tail _ (.tail _ (.head _))))) ?_
    refine D.ps 2 ?_
    refine D.az hH rfl ⟨?_, ?_, ?_,trivial⟩
    ·refine D.ah [[.slice A10 n10 c10]] (fun p48 C48 hle48 hs48=>?_)
     refine D.az hH rfl ⟨?_, ?_, ?_,trivial⟩
     ·refine D.ak (j:=2) rfl rfl rfl rfl rfl rfl rfl rfl rfl rfl rfl (hs48.mono mup) rfl (by simp only [List.length_singleton,maxLen];omega) (by show (i+1)*24<=_;omega) fl_ (fun A49 n49 c49=>?_)
      refine D.ag (.tail _ (.tail _ (.tail _ (.tail _ (.head _))))) ?_
      refine D.ag (.tail _ (.head _)) ?_
      refine D.ae ?_
      refine D.ah [x.enc] (fun p53 C53 hle53 hs53=>?_)
      refine D.ak (j:=3) rfl rfl rfl rfl rfl rfl rfl rfl rfl rfl rfl (hs53.mono mup) rfl (by simp only [List.length_singleton,maxLen];omega) (by show (i+1)*56<=_;omega) fl_ (fun A54 n54 c54=>?_)
      refine D.ac (j:=4) ?_
      refine D.ae ?_
      refine D.ac (j:=0) ?_
      refine D.e7 0 1 5 6 14 15 16 hR ?_
      refine G.perm (L':=cqX0 xs ys Ad nd cd i b5 b6 b9 b12 A10 n10 c10 x r A49 n49 c49 A54 n54 c54) (pkL [2,1,0,2,0,0] rfl) ?_
      refine a7 ?_
      exact G.ay 0 mup (h_7 0 1 5 6 14 15 16) ⟨A49,n49,c49,A54,n54,c54,trivial,rfl,rfl⟩
     ·refine D.ag (.tail _ (.tail _ (.tail _ (.tail _ (.head _))))) ?_
      refine D.az hH rfl ⟨?_, ?_,trivial⟩
      ·refine D.ak (j:=2) rfl rfl rfl rfl rfl rfl rfl rfl rfl rfl rfl (hs48.mono mup) rfl (by simp only [List.length_singleton,maxLen];omega) (by show (i+1)*24<=_;omega) fl_ (fun A49 n49 c49=>?_)
       refine D.ag (.tail _ (.head _)) ?_
       refine D.ae ?_
       refine D.ah [x.enc] (fun p53 C53 hle53 hs53=>?_)
       refine D.ak (j:=3) rfl rfl rfl rfl rfl rfl rfl rfl rfl rfl rfl (hs53.mono mup) rfl (by simp only [List.length_singleton,maxLen];omega) (by show (i+1)*56<=_;omega) fl_ (fun A54 n54 c54=>?_)
       refine D.ac (j:=4) ?_
       refine D.ae ?_
       refine D.ac (j:=0) ?_
       refine D.e7 0 1 5 6 14 15 16 hR ?_
       refine G.perm (L':=cqX0 xs ys Ad nd cd i b5 b6 b9 b12 A10 n10 c10 x r A49 n49 c49 A54 n54 c54) (pkL [2,1,0,2,0,0] rfl) ?_
       refine a7 ?_
       exact G.ay 0 mup (h_7 0 1 5 6 14 15 16) ⟨A49,n49,c49,A54,n54,c54,trivial,rfl,rfl⟩
      ·refine D.ag (.head _) ?_
       refine D.az hH rfl ⟨?_, ?_,trivial⟩
       ·refine D.ak (j:=2) rfl rfl rfl rfl rfl rfl rfl rfl rfl rfl rfl (hs48.mono mup) rfl (by simp only [List.length_singleton,maxLen];omega) (by show (i+1)*24<=_;omega) fl_ (fun A49 n49 c49=>?_)
        refine D.ae ?_
        refine D.ah [x.enc] (fun p53 C53 hle53 hs53=>?_)
        refine D.ak (j:=3) rfl rfl rfl rfl rfl rfl rfl rfl rfl rfl rfl (hs53.mono mup) rfl (by simp only [List.length_singleton,maxLen];omega) (by show (i+1)*56<=_;omega) fl_ (fun A54 n54 c54=>?_)
        refine D.ac (j:=4) ?_
        refine D.ae ?_
        refine D.ac (j:=0) ?_
        refine D.e7 0 1 5 6 14 15 16 hR ?_
        refine G.perm (L':=cqX0 xs ys Ad nd cd i b5 b6 b9 b12 A10 n10 c10 x r A49 n49 c49 A54 n54 c54) (pkL [2,1,0,2,0,0] rfl) ?_
        refine a7 ?_
        exact G.ay 0 mup (h_7 0 1 5 6 14 15 16) ⟨A49,n49,c49,A54,n54,c54,trivial,rfl,rfl⟩
       ·refine D.ah [x.enc] (fun p53 C53 hle53 hs53=>?_)
        refine D.ak (j:=2) rfl rfl rfl rfl rfl rfl rfl rfl rfl rfl rfl (hs48.mono mup) rfl (by simp only [List.length_singleton,maxLen];omega) (by show (i+1)*24<=_;omega) fl_ (fun A49 n49 c49=>?_)
        refine D.ae ?_
        refine D.ak (j:=3) rfl rfl rfl rfl rfl rfl rfl rfl rfl rfl rfl (hs53.mono mup) rfl (by simp only [List.length_singleton,maxLen];omega) (by show (i+1)*56<=_;omega) fl_ (fun A54 n54 c54=>?_)
        refine D.ac (j:=4) ?_
        refine D.ae ?_
        refine D.ac (j:=0) ?_
        refine D.e7 0 1 5 6 14 15 16 hR ?_
        refine G.perm (L':=cqX0 xs ys Ad nd cd i b5 b6 b9 b12 A10 n10 c10 x r A49 n49 c49 A54 n54 c54) (pkL [2,1,0,2,0,0] rfl) ?_
        refine a7 ?_
        exact G.ay 0 mup (h_7 0 1 5 6 14 15 16) ⟨A49,n49,c49,A54,n54,c54,trivial,rfl,rfl⟩
     ·refine D.ag (.head _) ?_
      refine D.az hH rfl ⟨?_, ?_, ?_,trivial⟩
      ·refine D.ak (j:=2) rfl rfl rfl rfl rfl rfl rfl rfl rfl rfl rfl (hs48.mono mup) rfl (by simp only [List.length_singleton,maxLen];omega) (by show (i+1)*24<=_;omega) fl_ (fun A49 n49 c49=>?_)
       refine D.ag (.tail _ (.tail _ (.tail _ (.tail _ (.head _))))) ?_
       refine D.ae ?_
       refine D.ah [x.enc] (fun p53 C53 hle53 hs53=>?_)
       refine D.ak (j:=3) rfl rfl rfl rfl rfl rfl rfl rfl rfl rfl rfl (hs53.mono mup) rfl (by simp only [List.length_singleton,maxLen];omega) (by show (i+1)*56<=_;omega) fl_ (fun A54 n54 c54=>?_)
       refine D.ac (j:=4) ?_
       refine D.ae ?_
       refine D.ac (j:=0) ?_
       refine D.e7 0 1 5 6 14 15 16 hR ?_
       refine G.perm (L':=cqX0 xs ys Ad nd cd i b5 b6 b9 b12 A10 n10 c10 x r A49 n49 c49 A54 n54 c54) (pkL [2,1,0,2,0,0] rfl) ?_
       refine a7 ?_
       exact G.ay 0 mup (h_7 0 1 5 6 14 15 16) ⟨A49,n49,c49,A54,n54,c54,trivial,rfl,rfl⟩
      ·refine D.ag (.tail _ (.tail _ (.tail _ (.tail _ (.head _))))) ?_
       refine D.az hH rfl ⟨?_, ?_,trivial⟩
       ·refine D.ak (j:=2) rfl rfl rfl rfl rfl rfl rfl rfl rfl rfl rfl (hs48.mono mup) rfl (by simp only [List.length_singleton,maxLen];omega) (by show (i+1)*24<=_;omega) fl_ (fun A49 n49 c49=>?_)
        refine D.ae ?_
        refine D.ah [x.enc] (fun p53 C53 hle53 hs53=>?_)
        refine D.ak (j:=3) rfl rfl rfl rfl rfl rfl rfl rfl rfl rfl rfl (hs53.mono mup) rfl (by simp only [List.length_singleton,maxLen];omega) (by show (i+1)*56<=_;omega) fl_ (fun A54 n54 c54=>?_)
        refine D.ac (j:=4) ?_
        refine D.ae ?_
        refine D.ac (j:=0) ?_
        refine D.e7 0 1 5 6 14 15 16 hR ?_
        refine G.perm (L':=cqX0 xs ys Ad nd cd i b5 b6 b9 b12 A10 n10 c10 x r A49 n49 c49 A54 n54 c54) (pkL [2,1,0,2,0,0] rfl) ?_
        refine a7 ?_
        exact G.ay 0 mup (h_7 0 1 5 6 14 15 16) ⟨A49,n49,c49,A54,n54,c54,trivial,rfl,rfl⟩
       ·refine D.ah [x.enc] (fun p53 C53 hle53 hs53=>?_)
        refine D.ak (j:=2) rfl rfl rfl rfl rfl rfl rfl rfl rfl rfl rfl (hs48.mono mup) rfl (by simp only [List.length_singleton,maxLen];omega) (by show (i+1)*24<=_;omega) fl_ (fun A49 n49 c49=>?_)
        refine D.ae ?_
        refine D.ak (j:=3) rfl rfl rfl rfl rfl rfl rfl rfl rfl rfl rfl (hs53.mono mup) rfl (by simp only [List.length_singleton,maxLen];omega) (by show (i+1)*56<=_;omega) fl_ (fun A54 n54 c54=>?_)
        refine D.ac (j:=4) ?_
        refine D.ae ?_
        refine D.ac (j:=0) ?_
        refine D.e7 0 1 5 6 14 15 16 hR ?_
        refine G.perm (L':=cqX0 xs ys Ad nd cd i b5 b6 b9 b12 A10 n10 c10 x r A49 n49 c49 A54 n54 c54) (pkL [2,1,0,2,0,0] rfl) ?_
        refine a7 ?_
        exact G.ay 0 mup (h_7 0 1 5 6 14 15 16) ⟨A49,n49,c49,A54,n54,c54,trivial,rfl,rfl⟩
      ·refine D.ah [x.enc] (fun p53 C53 hle53 hs53=>?_)
       refine D.az hH rfl ⟨?_, ?_,trivial⟩
       ·refine D.ak (j:=2) rfl rfl rfl rfl rfl rfl rfl rfl rfl rfl rfl (hs48.mono mup) rfl (by simp only [List.length_singleton,maxLen];omega) (by show (i+1)*24<=_;omega) fl_ (fun A49 n49 c49=>?_)
        refine D.ag (.tail _ (.tail _ (.tail _ (.tail _ (.head _))))) ?_
        refine D.ae ?_
        refine D.ak (j:=3) rfl rfl rfl rfl rfl rfl rfl rfl rfl rfl rfl (hs53.mono mup) rfl (by simp only [List.length_singleton,maxLen];omega) (by show (i+1)*56<=_;omega) fl_ (fun A54 n54 c54=>?_)
        refine D.ac (j:=4) ?_
        refine D.ae ?_
        refine D.ac (j:=0) ?_
        refine D.e7 0 1 5 6 14 15 16 hR ?_
        refine G.perm (L':=cqX0 xs ys Ad nd cd i b5 b6 b9 b12 A10 n10 c10 x r A49 n49 c49 A54 n54 c54) (pkL [2,1,0,2,0,0] rfl) ?_
        refine a7 ?_
        exact G.ay 0 mup (h_7 0 1 5 6 14 15 16) ⟨A49,n49,c49,A54,n54,c54,trivial,rfl,rfl⟩
       ·refine D.ag (.tail _ (.tail _ (.tail _ (.tail _ (.head _))))) ?_
        refine D.ak (j:=2) rfl rfl rfl rfl rfl rfl rfl rfl rfl rfl rfl (hs48.mono mup) rfl (by simp only [List.length_singleton,maxLen];omega) (by show (i+1)*24<=_;omega) fl_ (fun A49 n49 c49=>?_)
        refine D.ae ?_
        refine D.ak (j:=3) rfl rfl rfl rfl rfl rfl rfl rfl rfl rfl rfl (hs53.mono mup) rfl (by simp only [List.length_singleton,maxLen];omega) (by show (i+1)*56<=_;omega) fl_ (fun A54 n54 c54=>?_)
        refine D.ac (j:=4) ?_
        refine D.ae ?_
        refine D.ac (j:=0) ?_
        refine D.e7 0 1 5 6 14 15 16 hR ?_
        refine G.perm (L':=cqX0 xs ys Ad nd cd i b5 b6 b9 b12 A10 n10 c10 x r A49 n49 c49 A54 n54 c54) (pkL [2,1,0,2,0,0] rfl) ?_
        refine a7 ?_
        exact G.ay 0 mup (h_7 0 1 5 6 14 15 16) ⟨A49,n49,c49,A54,n54,c54,trivial,rfl,rfl⟩
    ·refine D.ag (.tail _ (.tail _ (.tail _ (.tail _ (.head _))))) ?_
     refine D.az hH rfl ⟨?_, ?_,trivial⟩
     ·refine D.ah [[.slice A10 n10 c10]] (fun p48 C48 hle48 hs48=>?_)
      refine D.az hH rfl ⟨?_, ?_,trivial⟩
      ·refine D.ak (j:=2) rfl rfl rfl rfl rfl rfl rfl rfl rfl rfl rfl (hs48.mono mup) rfl (by simp only [List.length_singleton,maxLen];omega) (by show (i+1)*24<=_;omega) fl_ (fun A49 n49 c49=>?_)
       refine D.ag (.tail _ (.head _)) ?_
       refine D.ae ?_
       refine D.ah [x.enc] (fun p53 C53 hle53 hs53=>?_)
       refine D.ak (j:=3) rfl rfl rfl rfl rfl rfl rfl rfl rfl rfl rfl (hs53.mono mup) rfl (by simp only [List.length_singleton,maxLen];omega) (by show (i+1)*56<=_;omega) fl_ (fun A54 n54 c54=>?_)
       refine D.ac (j:=4) ?_
       refine D.ae ?_
       refine D.ac (j:=0) ?_
       refine D.e7 0 1 5 6 14 15 16 hR ?_
       refine G.perm (L':=cqX0 xs ys Ad nd cd i b5 b6 b9 b12 A10 n10 c10 x r A49 n49 c49 A54 n54 c54) (pkL [2,1,0,2,0,0] rfl) ?_
       refine a7 ?_
       exact G.ay 0 mup (h_7 0 1 5 6 14 15 16) ⟨A49,n49,c49,A54,n54,c54,trivial,rfl,rfl⟩
      ·refine D.ag (.head _) ?_
       refine D.az hH rfl ⟨?_, ?_,trivial⟩
       ·refine D.ak (j:=2) rfl rfl rfl rfl rfl rfl rfl rfl rfl rfl rfl (hs48.mono mup) rfl (by simp only [List.length_singleton,maxLen];omega) (by show (i+1)*24<=_;omega) fl_ (fun A49 n49 c49=>?_)
        refine D.ae ?_
        refine D.ah [x.enc] (fun p53 C53 hle53 hs53=>?_)
        refine D.ak (j:=3) rfl rfl rfl rfl rfl rfl rfl rfl rfl rfl rfl (hs53.mono mup) rfl (by simp only [List.length_singleton,maxLen];omega) (by show (i+1)*56<=_;omega) fl_ (fun A54 n54 c54=>?_)
        refine D.ac (j:=4) ?_
        refine D.ae ?_
        refine D.ac (j:=0) ?_
        refine D.e7 0 1 5 6 14 15 16 hR ?_
        refine G.perm (L':=cqX0 xs ys Ad nd cd i b5 b6 b9 b12 A10 n10 c10 x r A49 n49 c49 A54 n54 c54) (pkL [2,1,0,2,0,0] rfl) ?_
        refine a7 ?_
        exact G.ay 0 mup (h_7 0 1 5 6 14 15 16) ⟨A49,n49,c49,A54,n54,c54,trivial,rfl,rfl⟩
       ·refine D.ah [x.enc] (fun p53 C53 hle53 hs53=>?_)
        refine D.ak (j:=2) rfl rfl rfl rfl rfl rfl rfl rfl rfl rfl rfl (hs48.mono mup) rfl (by simp only [List.length_singleton,maxLen];omega) (by show (i+1)*24<=_;omega) fl_ (fun A49 n49 c49=>?_)
        refine D.ae ?_
        refine D.ak (j:=3) rfl rfl rfl rfl rfl rfl rfl rfl rfl rfl rfl (hs53.mono mup) rfl (by simp only [List.length_singleton,maxLen];omega) (by show (i+1)*56<=_;omega) fl_ (fun A54 n54 c54=>?_)
        refine D.ac (j:=4) ?_
        refine D.ae ?_
        refine D.ac (j:=0) ?_
        refine D.e7 0 1 5 6 14 15 16 hR ?_
        refine G.perm (L':=cqX0 xs ys Ad nd cd i b5 b6 b9 b12 A10 n10 c10 x r A49 n49 c49 A54 n54 c54) (pkL [2,1,0,2,0,0] rfl) ?_
        refine a7 ?_
        exact G.ay 0 mup (h_7 0 1 5 6 14 15 16) ⟨A49,n49,c49,A54,n54,c54,trivial,rfl,rfl⟩
     ·refine D.ag (.head _) ?_
      refine D.az hH rfl ⟨?_, ?_,trivial⟩
      ·refine D.ah [[.slice A10 n10 c10]] (fun p48 C48 hle48 hs48=>?_)
       refine D.az hH rfl ⟨?_, ?_,trivial⟩
       ·refine D.ak (j:=2) rfl rfl rfl rfl rfl rfl rfl rfl rfl rfl rfl (hs48.mono mup) rfl (by simp only [List.length_singleton,maxLen];omega) (by show (i+1)*24<=_;omega) fl_ (fun A49 n49 c49=>?_)
        refine D.ae ?_
        refine D.ah [x.enc] (fun p53 C53 hle53 hs53=>?_)
        refine D.ak (j:=3) rfl rfl rfl rfl rfl rfl rfl rfl rfl rfl rfl (hs53.mono mup) rfl (by simp only [List.length_singleton,maxLen];omega) (by show (i+1)*56<=_;omega) fl_ (fun A54 n54 c54=>?_)
        refine D.ac (j:=4) ?_
        refine D.ae ?_
        refine D.ac (j:=0) ?_
        refine D.e7 0 1 5 6 14 15 16 hR ?_
        refine G.perm (L':=cqX0 xs ys Ad nd cd i b5 b6 b9 b12 A10 n10 c10 x r A49 n49 c49 A54 n54 c54) (pkL [2,1,0,2,0,0] rfl) ?_
        refine a7 ?_
        exact G.ay 0 mup (h_7 0 1 5 6 14 15 16) ⟨A49,n49,c49,A54,n54,c54,trivial,rfl,rfl⟩
       ·refine D.ah [x.enc] (fun p53 C53 hle53 hs53=>?_)
        refine D.ak (j:=2) rfl rfl rfl rfl rfl rfl rfl rfl rfl rfl rfl (hs48.mono mup) rfl (by simp only [List.length_singleton,maxLen];omega) (by show (i+1)*24<=_;omega) fl_ (fun A49 n49 c49=>?_)
        refine D.ae ?_
        refine D.ak (j:=3) rfl rfl rfl rfl rfl rfl rfl rfl rfl rfl rfl (hs53.mono mup) rfl (by simp only [List.length_singleton,maxLen];omega) (by show (i+1)*56<=_;omega) fl_ (fun A54 n54 c54=>?_)
        refine D.ac (j:=4) ?_
        refine D.ae ?_
        refine D.ac (j:=0) ?_
        refine D.e7 0 1 5 6 14 15 16 hR ?_
        refine G.perm (L':=cqX0 xs ys Ad nd cd i b5 b6 b9 b12 A10 n10 c10 x r A49 n49 c49 A54 n54 c54) (pkL [2,1,0,2,0,0] rfl) ?_
        refine a7 ?_
        exact G.ay 0 mup (h_7 0 1 5 6 14 15 16) ⟨A49,n49,c49,A54,n54,c54,trivial,rfl,rfl⟩
      ·refine D.ah [x.enc] (fun p53 C53 hle53 hs53=>?_)
       refine D.ah [[.slice A10 n10 c10]] (fun p48 C48 hle48 hs48=>?_)
       refine D.ak (j:=2) rfl rfl rfl rfl rfl rfl rfl rfl rfl rfl rfl (hs48.mono mup) rfl (by simp only [List.length_singleton,maxLen];omega) (by show (i+1)*24<=_;omega) fl_ (fun A49 n49 c49=>?_)
       refine D.ae ?_
       refine D.ak (j:=3) rfl rfl rfl rfl rfl rfl rfl rfl rfl rfl rfl (hs53.mono mup) rfl (by simp only [List.length_singleton,maxLen];omega) (by show (i+1)*56<=_;omega) fl_ (fun A54 n54 c54=>?_)
       refine D.ac (j:=4) ?_
       refine D.ae ?_
       refine D.ac (j:=0) ?_
       refine D.e7 0 1 5 6 14 15 16 hR ?_
       refine G.perm (L':=cqX0 xs ys Ad nd cd i b5 b6 b9 b12 A10 n10 c10 x r A49 n49 c49 A54 n54 c54) (pkL [2,1,0,2,0,0] rfl) ?_
       refine a7 ?_
       exact G.ay 0 mup (h_7 0 1 5 6 14 15 16) ⟨A49,n49,c49,A54,n54,c54,trivial,rfl,rfl⟩
    ·refine D.ag (.head _) ?_
     refine D.az hH rfl ⟨?_, ?_, ?_,trivial⟩
     ·refine D.ah [[.slice A10 n10 c10]] (fun p48 C48 hle48 hs48=>?_)
      refine D.az hH rfl ⟨?_, ?_, ?_,trivial⟩
      ·refine D.ak (j:=2) rfl rfl rfl rfl rfl rfl rfl rfl rfl rfl rfl (hs48.mono mup) rfl (by simp only [List.length_singleton,maxLen];omega) (by show (i+1)*24<=_;omega) fl_ (fun A49 n49 c49=>?_)
       refine D.ag (.tail _ (.tail _ (.tail _ (.tail _ (.head _))))) ?_
       refine D.ae ?_
       refine D.ah [x.enc] (fun p53 C53 hle53 hs53=>?_)
       refine D.ak (j:=3) rfl rfl rfl rfl rfl rfl rfl rfl rfl rfl rfl (hs53.mono mup) rfl (by simp only [List.length_singleton,maxLen];omega) (by show (i+1)*56<=_;omega) fl_ (fun A54 n54 c54=>?_)
       refine D.ac (j:=4) ?_
       refine D.ae ?_
       refine D.ac (j:=0) ?_
       refine D.e7 0 1 5 6 14 15 16 hR ?_
       refine G.perm (L':=cqX0 xs ys Ad nd cd i b5 b6 b9 b12 A10 n10 c10 x r A49 n49 c49 A54 n54 c54) (pkL [2,1,0,2,0,0] rfl) ?_
       refine a7 ?_
       exact G.ay 0 mup (h_7 0 1 5 6 14 15 16) ⟨A49,n49,c49,A54,n54,c54,trivial,rfl,rfl⟩
      ·refine D.ag (.tail _ (.tail _ (.tail _ (.tail _ (.head _))))) ?_
       refine D.az hH rfl ⟨?_, ?_,trivial⟩
       ·refine D.ak (j:=2) rfl rfl rfl rfl rfl rfl rfl rfl rfl rfl rfl (hs48.mono mup) rfl (by simp only [List.length_singleton,maxLen];omega) (by show (i+1)*24<=_;omega) fl_ (fun A49 n49 c49=>?_)
        refine D.ae ?_
        refine D.ah [x.enc] (fun p53 C53 hle53 hs53=>?_)
        refine D.ak (j:=3) rfl rfl rfl rfl rfl rfl rfl rfl rfl rfl rfl (hs53.mono mup) rfl (by simp only [List.length_singleton,maxLen];omega) (by show (i+1)*56<=_;omega) fl_ (fun A54 n54 c54=>?_)
        refine D.ac (j:=4) ?_
        refine D.ae ?_
        refine D.ac (j:=0) ?_
        refine D.e7 0 1 5 6 14 15 16 hR ?_
        refine G.perm (L':=cqX0 xs ys Ad nd cd i b5 b6 b9 b12 A10 n10 c10 x r A49 n49 c49 A54 n54 c54) (pkL [2,1,0,2,0,0] rfl) ?_
        refine a7 ?_
        exact G.ay 0 mup (h_7 0 1 5 6 14 15 16) ⟨A49,n49,c49,A54,n54,c54,trivial,rfl,rfl⟩
       ·refine D.ah [x.enc] (fun p53 C53 hle53 hs53=>?_)
        refine D.ak (j:=2) rfl rfl rfl rfl rfl rfl rfl rfl rfl rfl rfl (hs48.mono mup) rfl (by simp only [List.length_singleton,maxLen];omega) (by show (i+1)*24<=_;omega) fl_ (fun A49 n49 c49=>?_)
        refine D.ae ?_
        refine D.ak (j:=3) rfl rfl rfl rfl rfl rfl rfl rfl rfl rfl rfl (hs53.mono mup) rfl (by simp only [List.length_singleton,maxLen];omega) (by show (i+1)*56<=_;omega) fl_ (fun A54 n54 c54=>?_)
        refine D.ac (j:=4) ?_
        refine D.ae ?_
        refine D.ac (j:=0) ?_
        refine D.e7 0 1 5 6 14 15 16 hR ?_
        refine G.perm (L':=cqX0 xs ys Ad nd cd i b5 b6 b9 b12 A10 n10 c10 x r A49 n49 c49 A54 n54 c54) (pkL [2,1,0,2,0,0] rfl) ?_
        refine a7 ?_
        exact G.ay 0 mup (h_7 0 1 5 6 14 15 16) ⟨A49,n49,c49,A54,n54,c54,trivial,rfl,rfl⟩
      ·refine D.ah [x.enc] (fun p53 C53 hle53 hs53=>?_)
       refine D.az hH rfl ⟨?_, ?_,trivial⟩
       ·refine D.ak (j:=2) rfl rfl rfl rfl rfl rfl rfl rfl rfl rfl rfl (hs48.mono mup) rfl (by simp only [List.length_singleton,maxLen];omega) (by show (i+1)*24<=_;omega) fl_ (fun A49 n49 c49=>?_)
        refine D.ag (.tail _ (.tail _ (.tail _ (.tail _ (.head _))))) ?_
        refine D.ae ?_
        refine D.ak (j:=3) rfl rfl rfl rfl rfl rfl rfl rfl rfl rfl rfl (hs53.mono mup) rfl (by simp only [List.length_singleton,maxLen];omega) (by show (i+1)*56<=_;omega) fl_ (fun A54 n54 c54=>?_)
        refine D.ac (j:=4) ?_
        refine D.ae ?_
        refine D.ac (j:=0) ?_
        refine D.e7 0 1 5 6 14 15 16 hR ?_
        refine G.perm (L':=cqX0 xs ys Ad nd cd i b5 b6 b9 b12 A10 n10 c10 x r A49 n49 c49 A54 n54 c54) (pkL [2,1,0,2,0,0] rfl) ?_
        refine a7 ?_
        exact G.ay 0 mup (h_7 0 1 5 6 14 15 16) ⟨A49,n49,c49,A54,n54,c54,trivial,rfl,rfl⟩
       ·refine D.ag (.tail _ (.tail _ (.tail _ (.tail _ (.head _))))) ?_
        refine D.ak (j:=2) rfl rfl rfl rfl rfl rfl rfl rfl rfl rfl rfl (hs48.mono mup) rfl (by simp only [List.length_singleton,maxLen];omega) (by show (i+1)*24<=_;omega) fl_ (fun A49 n49 c49=>?_)
        refine D.ae ?_
        refine D.ak (j:=3) rfl rfl rfl rfl rfl rfl rfl rfl rfl rfl rfl (hs53.mono mup) rfl (by simp only [List.length_singleton,maxLen];omega) (by show (i+1)*56<=_;omega) fl_ (fun A54 n54 c54=>?_)
        refine D.ac (j:=4) ?_
        refine D.ae ?_
        refine D.ac (j:=0) ?_
        refine D.e7 0 1 5 6 14 15 16 hR ?_
        refine G.perm (L':=cqX0 xs ys Ad nd cd i b5 b6 b9 b12 A10 n10 c10 x r A49 n49 c49 A54 n54 c54) (pkL [2,1,0,2,0,0] rfl) ?_
        refine a7 ?_
        exact G.ay 0 mup (h_7 0 1 5 6 14 15 16) ⟨A49,n49,c49,A54,n54,c54,trivial,rfl,rfl⟩
     ·refine D.ag (.tail _ (.tail _ (.tail _ (.tail _ (.head _))))) ?_
      refine D.az hH rfl ⟨?_, ?_,trivial⟩
      ·refine D.ah [[.slice A10 n10 c10]] (fun p48 C48 hle48 hs48=>?_)
       refine D.az hH rfl ⟨?_, ?_,trivial⟩
       ·refine D.ak (j:=2) rfl rfl rfl rfl rfl rfl rfl rfl rfl rfl rfl (hs48.mono mup) rfl (by simp only [List.length_singleton,maxLen];omega) (by show (i+1)*24<=_;omega) fl_ (fun A49 n49 c49=>?_)
        refine D.ae ?_
        refine D.ah [x.enc] (fun p53 C53 hle53 hs53=>?_)
        refine D.ak (j:=3) rfl rfl rfl rfl rfl rfl rfl rfl rfl rfl rfl (hs53.mono mup) rfl (by simp only [List.length_singleton,maxLen];omega) (by show (i+1)*56<=_;omega) fl_ (fun A54 n54 c54=>?_)
        refine D.ac (j:=4) ?_
        refine D.ae ?_
        refine D.ac (j:=0) ?_
        refine D.e7 0 1 5 6 14 15 16 hR ?_
        refine G.perm (L':=cqX0 xs ys Ad nd cd i b5 b6 b9 b12 A10 n10 c10 x r A49 n49 c49 A54 n54 c54) (pkL [2,1,0,2,0,0] rfl) ?_
        refine a7 ?_
        exact G.ay 0 mup (h_7 0 1 5 6 14 15 16) ⟨A49,n49,c49,A54,n54,c54,trivial,rfl,rfl⟩
       ·refine D.ah [x.enc] (fun p53 C53 hle53 hs53=>?_)
        refine D.ak (j:=2) rfl rfl rfl rfl rfl rfl rfl rfl rfl rfl rfl (hs48.mono mup) rfl (by simp only [List.length_singleton,maxLen];omega) (by show (i+1)*24<=_;omega) fl_ (fun A49 n49 c49=>?_)
        refine D.ae ?_
        refine D.ak (j:=3) rfl rfl rfl rfl rfl rfl rfl rfl rfl rfl rfl (hs53.mono mup) rfl (by simp only [List.length_singleton,maxLen];omega) (by show (i+1)*56<=_;omega) fl_ (fun A54 n54 c54=>?_)
        refine D.ac (j:=4) ?_
        refine D.ae ?_
        refine D.ac (j:=0) ?_
        refine D.e7 0 1 5 6 14 15 16 hR ?_
        refine G.perm (L':=cqX0 xs ys Ad nd cd i b5 b6 b9 b12 A10 n10 c10 x r A49 n49 c49 A54 n54 c54) (pkL [2,1,0,2,0,0] rfl) ?_
        refine a7 ?_
        exact G.ay 0 mup (h_7 0 1 5 6 14 15 16) ⟨A49,n49,c49,A54,n54,c54,trivial,rfl,rfl⟩
      ·refine D.ah [x.enc] (fun p53 C53 hle53 hs53=>?_)
       refine D.ah [[.slice A10 n10 c10]] (fun p48 C48 hle48 hs48=>?_)
       refine D.ak (j:=2) rfl rfl rfl rfl rfl rfl rfl rfl rfl rfl rfl (hs48.mono mup) rfl (by simp only [List.length_singleton,maxLen];omega) (by show (i+1)*24<=_;omega) fl_ (fun A49 n49 c49=>?_)
       refine D.ae ?_
       refine D.ak (j:=3) rfl rfl rfl rfl rfl rfl rfl rfl rfl rfl rfl (hs53.mono mup) rfl (by simp only [List.length_singleton,maxLen];omega) (by show (i+1)*56<=_;omega) fl_ (fun A54 n54 c54=>?_)
       refine D.ac (j:=4) ?_
       refine D.ae ?_
       refine D.ac (j:=0) ?_
       refine D.e7 0 1 5 6 14 15 16 hR ?_
       refine G.perm (L':=cqX0 xs ys Ad nd cd i b5 b6 b9 b12 A10 n10 c10 x r A49 n49 c49 A54 n54 c54) (pkL [2,1,0,2,0,0] rfl) ?_
       refine a7 ?_
       exact G.ay 0 mup (h_7 0 1 5 6 14 15 16) ⟨A49,n49,c49,A54,n54,c54,trivial,rfl,rfl⟩
     ·refine D.ah [x.enc] (fun p53 C53 hle53 hs53=>?_)
      refine D.az hH rfl ⟨?_, ?_,trivial⟩
      ·refine D.ah [[.slice A10 n10 c10]] (fun p48 C48 hle48 hs48=>?_)
       refine D.az hH rfl ⟨?_, ?_,trivial⟩
       ·refine D.ak (j:=2) rfl rfl rfl rfl rfl rfl rfl rfl rfl rfl rfl (hs48.mono mup) rfl (by simp only [List.length_singleton,maxLen];omega) (by show (i+1)*24<=_;omega) fl_ (fun A49 n49 c49=>?_)
        refine D.ag (.tail _ (.tail _ (.tail _ (.tail _ (.head _))))) ?_
        refine D.ae ?_
        refine D.ak (j:=3) rfl rfl rfl rfl rfl rfl rfl rfl rfl rfl rfl (hs53.mono mup) rfl (by simp only [List.length_singleton,maxLen];omega) (by show (i+1)*56<=_;omega) fl_ (fun A54 n54 c54=>?_)
        refine D.ac (j:=4) ?_
        refine D.ae ?_
        refine D.ac (j:=0) ?_
        refine D.e7 0 1 5 6 14 15 16 hR ?_
        refine G.perm (L':=cqX0 xs ys Ad nd cd i b5 b6 b9 b12 A10 n10 c10 x r A49 n49 c49 A54 n54 c54) (pkL [2,1,0,2,0,0] rfl) ?_
        refine a7 ?_
        exact G.ay 0 mup (h_7 0 1 5 6 14 15 16) ⟨A49,n49,c49,A54,n54,c54,trivial,rfl,rfl⟩
       ·refine D.ag (.tail _ (.tail _ (.tail _ (.tail _ (.head _))))) ?_
        refine D.ak (j:=2) rfl rfl rfl rfl rfl rfl rfl rfl rfl rfl rfl (hs48.mono mup) rfl (by simp only [List.length_singleton,maxLen];omega) (by show (i+1)*24<=_;omega) fl_ (fun A49 n49 c49=>?_)
        refine D.ae ?_
        refine D.ak (j:=3) rfl rfl rfl rfl rfl rfl rfl rfl rfl rfl rfl (hs53.mono mup) rfl (by simp only [List.length_singleton,maxLen];omega) (by show (i+1)*56<=_;omega) fl_ (fun A54 n54 c54=>?_)
        refine D.ac (j:=4) ?_
        refine D.ae ?_
        refine D.ac (j:=0) ?_
        refine D.e7 0 1 5 6 14 15 16 hR ?_
        refine G.perm (L':=cqX0 xs ys Ad nd cd i b5 b6 b9 b12 A10 n10 c10 x r A49 n49 c49 A54 n54 c54) (pkL [2,1,0,2,0,0] rfl) ?_
        refine a7 ?_
        exact G.ay 0 mup (h_7 0 1 5 6 14 15 16) ⟨A49,n49,c49,A54,n54,c54,trivial,rfl,rfl⟩
      ·refine D.ag (.tail _ (.tail _ (.tail _ (.tail _ (.head _))))) ?_
       refine D.ah [[.slice A10 n10 c10]] (fun p48 C48 hle48 hs48=>?_)
       refine D.ak (j:=2) rfl rfl rfl rfl rfl rfl rfl rfl rfl rfl rfl (hs48.mono mup) rfl (by simp only [List.length_singleton,maxLen];omega) (by show (i+1)*24<=_;omega) fl_ (fun A49 n49 c49=>?_)
       refine D.ae ?_
       refine D.ak (j:=3) rfl rfl rfl rfl rfl rfl rfl rfl rfl rfl rfl (hs53.mono mup) rfl (by simp only [List.length_singleton,maxLen];omega) (by show (i+1)*56<=_;omega) fl_ (fun A54 n54 c54=>?_)
       refine D.ac (j:=4) ?_
       refine D.ae ?_
       refine D.ac (j:=0) ?_
       refine D.e7 0 1 5 6 14 15 16 hR ?_
       refine G.perm (L':=cqX0 xs ys Ad nd cd i b5 b6 b9 b12 A10 n10 c10 x r A49 n49 c49 A54 n54 c54) (pkL [2,1,0,2,0,0] rfl) ?_
       refine a7 ?_
       exact G.ay 0 mup (h_7 0 1 5 6 14 15 16) ⟨A49,n49,c49,A54,n54,c54,trivial,rfl,rfl⟩
   obtain ⟨A7,n7,c7,A8,n8,c8,_,rfl,rfl⟩:=hI
   refine G.rg fun R hR=>?_
   refine D.ax _ ?_
   refine D.q7 1 0 1 5 6 14 15 16 hR ?_
   refine G.aB (m':=rows.length-(i+1)) om_ mup (h_7 0 1 5 6 14 15 16) ⟨i+1,ps++[(f,b)],xs++[SV.mk A10 n10 c10],ys++[x],_,_,_,_,_,_,⟨by omega,by rw [htk,rowsM_snoc,hps,hrm],by rw [List.map_append];exact (hxs.mono mup).snoc ((hf10 f h1).mono mup),by rw [List.map_append];exact (hys.mono mup).snoc (FrC.mono hvf mup),by simp [hxl],by simp [hyl]⟩,rfl,rfl,rfl⟩
 ·have hil:i=rows.length:=by
   have:¬ i<rs.length:=by simpa using h17
   omega
  rw [hil,List.take_length] at hps
  refine G.rp 1 fun R hR=>?_
  refine D.ag (.tail _ (.tail _ (.tail _ (.head _)))) ?_
  refine D.aJ (dm _ _ d (hd.mono mup) hdl hds) (fun v61 C61 hle61 hq61=>?_)
  obtain ⟨A3,n3,c3,rfl,hm⟩:=hq61
  refine D.ps 4 ?_
  refine D.ac (j:=2) ?_
  refine D.q3 1 0 6 7 hR ?_
  have hcf:∀ D,C61.le D->(aL d).isSome=true->Gives cx.P 85 [.slice A3 n3 c3,.func (.func 86) #[] #[]] D (.bool (negD d)):=fun D hle hs=>by
   obtain ⟨ms,hms⟩:=Option.isSome_iff_exists.1 hs
   have:=contNeg ((hm ms hms).mono hle)
   unfold negD
   rw [hms]
   exact this
  refine G.rp 4 fun R hR=>?_
  refine D.ag (.head _) ?_
  refine D.ps 4 ?_
  refine D.ar ?_
  refine D.ps 2 ?_
  refine D.ag (.head _) ?_
  refine D.aU (fun hg=>(by exact hcf _ mup (or_no hg.1))) rfl rfl rfl rfl rfl rfl rfl rfl rfl ?_
  refine D.ar ?_
  refine D.e2 6 79 hR ?_
  refine G.cd (fun h79=>?_) fun h79=>?_
  ·have hno2:openM n rows d=none:=by
    unfold openM
    rw [hps]
    cases hms:aL d with
    | none=>rfl
    | some ms =>
     simp only
     rw [if_neg]
     rintro ⟨e1,e2⟩
     obtain ⟨A,c,e⟩:=(hm ms hms).form
     injection e with e3 e4 e5
     have e6:negD d=false:=by unfold negD;rw [hms];exact e2
     rw [e6,hms,e4,e1,hrl] at h79
     simp at h79
   refine G.rg fun R hR=>?_
   refine D.build (YV.mk none 0 0 none 0 0 none 0 0).enc rfl rfl rfl rfl rfl rfl rfl rfl ?_
   refine D.ac (j:=0) ?_
   refine D.q2 1 6 7 hR ?_
   refine G.aA (G.eP (.head _) rfl rfl rfl rfl rfl ?_)
   exact ⟨rfl,_,by rw [hno2];rfl,fun ps ms h=>by rw [hno2] at h;cases h⟩
  ·obtain ⟨ms,hms⟩:∃ ms,aL d=some ms:=by
    cases hms:aL d with
    | none=>rw [hms] at h79;simp at h79
    | some ms=>exact ⟨ms,rfl⟩
   have hyes:openM n rows d=some (ps,ms):=by
    unfold openM
    rw [hps,hms]
    simp only
    obtain ⟨A,c,e⟩:=(hm ms hms).form
    injection e with e3 e4 e5
    have e6:negD d=(ms.any fun q=>decide (q.num<0)):=by unfold negD;rw [hms]
    rw [hms,e6,e4] at h79
    rw [Bool.or_eq_false_iff,Bool.or_eq_false_iff] at h79
    rw [if_pos]
    refine ⟨?_,h79.2⟩
    have h8:=h79.1.2
    simp at h8
    omega
   refine G.freezeArr 1 (xs.map SV.enc) rfl rfl (by intro r hr;obtain ⟨y,_,rfl⟩:=List.mem_map.1 hr;rfl) (by rw [List.length_map,hxl]) (fun Cf hf hsd=>?_)
   refine G.freezeArr 1 (ys.map FV.enc) rfl rfl (by intro r hr;obtain ⟨y,_,rfl⟩:=List.mem_map.1 hr;rfl) (by rw [List.length_map,hyl]) (fun Cg hg hse=>?_)
   refine G.rg fun R hR=>?_
   refine D.ag (.head _) ?_
   refine D.ac (j:=0) ?_
   refine D.q2 1 6 7 hR ?_
   refine G.aA (G.eP (.head _) rfl rfl rfl rfl rfl ?_)
   refine ⟨rfl,⟨A1,n1,c1,A2,n2,c2,A3,n3,c3⟩,by rw [hyes];rfl,fun ps' ms' h=>?_⟩
   rw [hyes] at h
   cases h
   exact ⟨⟨xs,hsd.mono mup,hxs.mono mup⟩,⟨ys,hse.mono mup,hys.mono mup⟩,(hm ms hms).mono mup⟩
end Go.Proofs.YtjhmlnebikbdbaaGreatDoor
namespace Go.Jog
open Go
section
variable {F:Fx} {fr:Fr} {C:Mem} {L:List Ent}
theorem G.finC3 {r s b t:Nat}{cs:List Value}{tb:TypeId}{fz:Nat × Nat}{ti:TI}{u v:Value}(hm:Ent.obj b (.cells ⟨cs⟩ tb fz)∈L)(hres:F.fn.results=#[.tmp s,.cell r t])(hr:ev fr [] (.tmp r)=some (.pointer (some ⟨b,0,none⟩)))(hs:ev fr [] (.tmp s)=some u)
  (ht:F.cx.T.get t=some ti) (hv:bl ti (cs.take ti.size)=some v) (h:F.post (.tuple #[u,v]) C []) (he:F.ends:=by exact ⟨fun _ _ _ h=>h,rfl⟩):G F [] .ret fr C L:=fun _ a w ha hw=>by
 refine he.kq ?_
 have hr':=aT ha (fun p hp=>by cases hp) hr
 have hs':=aT ha (fun p hp=>by cases hp) hs
 simp only [Act.eval] at hr' hs'
 refine bodyPost_ret (v:=.tuple #[u,v]) ?_ (ha.defers.trans he.2) ⟨_,C,[],rfl,St.dropAll hw,h⟩
 have hl:=run_cell (F:=F) ht (hw.sep.e _ hm) hv
 simp only [Array.getD_eq_getD_getElem?] at hr' hs'
 simp [results,hres,hr',hs',asAddr,hl]
end
end Go.Jog
namespace Go.Proofs.YtjhmlnebikbdbaaGreatDoor
open Go Go.Jog
set_option maxRecDepth 100000

def colR (ps:List (List Rat × Rat))(v:Nat):List Rat:=ps.map fun p=>gQ p.1 v
def sumsR (ps:List (List Rat × Rat))(ms:List Rat)(n:Nat):List Rat:=(List.range n).map fun v=>dotR ms (colR ps v)
theorem sumsR_get {ps:List (List Rat × Rat)}{ms:List Rat}{n v:Nat}(h:v<n):gQ (sumsR ps ms n) v=dotR ms (colR ps v):=by
 unfold gQ sumsR
 rw [List.getD_eq_getElem?_getD,List.getElem?_map,List.getElem?_range h];rfl
theorem gQ_mem {l:List Rat}{i:Nat}(h:i<l.length):gQ l i∈l:=List.mem_of_getElem? (gQ_get h)
def zeroFV:FV:=⟨false,none,0,0,none,0,0⟩
theorem zrow_F (n:Nat):zrow [Value.bool false,.slice none 0 0,.slice none 0 0] n=((List.replicate n zeroFV).map FV.enc).flatten:=by
 rw [bX,List.map_replicate];rfl
def SysSm (k:Nat)(ps:List (List Rat × Rat))(ms:List Rat):Prop:=(∀ p∈ps,(∀ q∈p.1,SmQ k q)/\SmQ k p.2)/\∀ q∈ms,SmQ k q
theorem sums_fn (C:Mem)(hT:Tabs C)(y:YV)(ps:List (List Rat × Rat))(ms:List Rat)(n:Nat)(hy:SysC C y ps ms)(hlen:ms.length=ps.length)(hf:∀ p∈ps,p.1.length=n)(hs:SysSm 200 ps ms)(hl:ps.length<=1000)(hn:n<=1000000) :
  Pur cx.P 45 [.agg ⟨y.enc⟩,.int .i64 n] C fun u D=>∃ (A:Option Addr)(c:Nat)(x:FV),u=.tuple #[.slice A n c,.agg ⟨x.enc⟩]/\FrL D (.slice A n c) (sumsR ps ms n)/\FrC D (.agg ⟨x.enc⟩) (dotR ms (ps.map (·.2))):=by
 obtain ⟨⟨vs,hsv,hvs⟩,hb,hm⟩:=hy
 have hvl:vs.length=ps.length:=by have:=hvs.1;simpa using this
 obtain ⟨Av,cv,hve,_⟩:=id hsv
 have hyn:y.n=vs.length:=by injection hve with e1 e2 e3;simpa using e2
 refine Fn.it kr_ Tryz.func45 46 fun w0=>?_
 refine G.rg fun R hR=>?_
 refine D.aM (fun b2=>?_)
 refine D.ae ?_
 refine D.aj (fun b5=>?_)
 refine D.e3 1 2 5 hR ?_
 refine G.rp 1 fun R hR=>?_
 refine D.a8 rfl rfl rfl rfl rfl rfl rfl rfl rfl (Nat.le_refl _) (by show 56*n<=281474976710656;omega) (by simp only [maxLen];omega) fl_ (fun b12=>?_)
 refine D.q4 1 1 2 5 6 hR ?_
 refine G.z5 2 2 5 6 13 14 ?_
 refine G.bv (L':=[.arr (qW b12 n n) 95 3 n ((List.replicate n zeroFV).map FV.enc).flatten,.obj b5 (.cells ⟨zeroFV.enc⟩ 95 (0,0)),.obj b2 (.cells ⟨y.enc⟩ 122 (0,0))]) (by rw [<- zrow_F];rfl) ?_
 refine G.loop (fun fr C' L' μ=>∃ (v:Nat)(o:List FV),(v<=n/\o.length=n/\∀ k x,k<v->o[k]?=some x->FrC C' (.agg ⟨x.enc⟩) (dotR ms (colR ps k)))/\fr=[(2,[],.pointer (some ⟨b2,0,none⟩)),(5,[],.pointer (some ⟨b5,0,none⟩)),(6,[],qW b12 n n),(13,[],.int .i64 n),(14,[],.int .i64 v)]/\L'=[.arr (qW b12 n n) 95 3 n (o.map FV.enc).flatten,.obj b5 (.cells ⟨zeroFV.enc⟩ 95 (0,0)),.obj b2 (.cells ⟨y.enc⟩ 122 (0,0))]/\μ=n-v) (h_5 2 5 6 13 14) ⟨0,List.replicate n zeroFV,⟨Nat.zero_le _,List.length_replicate,fun k x hk=>by omega⟩,rfl,rfl,rfl⟩ (fun fr C0' L0' m hle0 hI=>?_)
 obtain ⟨v,o,⟨hv,hol,ho⟩,rfl,rfl,rfl⟩:=hI
 refine G.z6 1 2 5 6 13 14 15 ?_
 refine G.cd (fun h15=>?_) fun h15=>?_
 ·have hvn:v<n:=by simpa using h15
  refine G.z6 2 2 5 6 7 13 14 ?_
  refine G.z7 1 2 5 6 7 8 13 14 ?_
  refine G.rp 1 fun R hR=>?_
  refine D.ag (.tail _ (.tail _ (.head _))) ?_
  refine D.q10 2 2 5 6 7 8 13 14 18 19 20 hR ?_
  refine G.nilArr 95 3 ?_
  refine G.loop (fun fr C' L' μ=>∃ (i:Nat)(xs:List FV)(w:Value),(i<=ps.length/\RowsF C' xs (colR (ps.take i) v)/\xs.length=i)/\fr=[(2,[],.pointer (some ⟨b2,0,none⟩)),(5,[],.pointer (some ⟨b5,0,none⟩)),(6,[],qW b12 n n),(7,[],.int .i64 v),(8,[],w),(13,[],.int .i64 n),(14,[],.int .i64 v),(18,[],.slice y.A y.n y.c),(19,[],.int .i64 y.n),(20,[],.int .i64 i)]/\L'=[.arr w 95 3 i (xs.map FV.enc).flatten,.arr (qW b12 n n) 95 3 n (o.map FV.enc).flatten,.obj b5 (.cells ⟨zeroFV.enc⟩ 95 (0,0)),.obj b2 (.cells ⟨y.enc⟩ 122 (0,0))]/\μ=ps.length-i) (h_10 2 5 6 7 8 13 14 18 19 20) ⟨0,[],_,⟨Nat.zero_le _,RowsF.nil _,rfl⟩,rfl,rfl,rfl⟩ (fun fr C1' L1' m hle1 hI=>?_)
  obtain ⟨i,xs,w,⟨hi,hxs,hxl⟩,rfl,rfl,rfl⟩:=hI
  refine G.z11 1 2 5 6 7 8 13 14 18 19 20 21 ?_
  refine G.cd (fun h21=>?_) fun h21=>?_
  ·have hil:i<ps.length:=by
    have:(i:Int)<y.n:=by simpa using h21
    omega
   obtain ⟨p,hp⟩:∃ p,ps[i]?=some p:=⟨ps[i],List.getElem?_eq_getElem hil⟩
   obtain ⟨sv,hsv0⟩:∃ sv,vs[i]?=some sv:=⟨vs[i]'om_,List.getElem?_eq_getElem _⟩
   have hrow:(vs.map SV.enc)[i]?=some sv.enc:=by rw [List.getElem?_map,hsv0];rfl
   obtain ⟨zs,hzs,hzr⟩:=hvs.2 i sv p.1 hsv0 (by rw [List.getElem?_map,hp];rfl)
   have hpl:=hf p (List.mem_of_getElem? hp)
   obtain ⟨z,hz0,hzrow,hz⟩:=hzr.get (gQ_get (l:=p.1) (i:=v) om_)
   refine G.rg fun R hR=>?_
   refine D.ai (hsv.mono mup) rfl rfl rfl rfl rfl rfl rfl rfl rfl rfl om_ hrow fl_ (fun p22 hp22=>?_)
   refine D.aa hp22 ?_
   refine D.q11 1 2 5 6 7 8 10 13 14 18 19 20 hR ?_
   refine G.rp 3 fun R hR=>?_
   refine D.ai (hzs.mono mup) rfl rfl rfl rfl rfl rfl rfl rfl rfl rfl om_ hzrow fl_ (fun p27 hp27=>?_)
   refine D.aa hp27 ?_
   refine D.ah [z.enc] (fun p29 C29 hle29 hs29=>?_)
   refine D.append (j:=0) rfl rfl rfl rfl rfl rfl rfl rfl rfl rfl rfl hs29 rfl (by simp only [List.length_singleton,maxLen];omega) (by show (i+1)*56<=_;omega) fl_ (fun v30=>?_)
   refine D.q10 1 2 5 6 7 8 13 14 18 19 20 hR ?_
   refine G.rg fun R hR=>?_
   refine D.ax _ ?_
   refine D.q10 1 2 5 6 7 8 13 14 18 19 20 hR ?_
   refine G.bv (L':=[.arr v30 95 3 (i+1) ((xs++[z]).map FV.enc).flatten,.arr (qW b12 n n) 95 3 n (o.map FV.enc).flatten,.obj b5 (.cells ⟨zeroFV.enc⟩ 95 (0,0)),.obj b2 (.cells ⟨y.enc⟩ 122 (0,0))]) (by simp) ?_
   refine G.aB (m':=ps.length-(i+1)) om_ mup (h_10 2 5 6 7 8 13 14 18 19 20) ⟨i+1,xs++[z],v30,⟨by omega,by
    have e:colR (ps.take (i+1)) v=colR (ps.take i) v++[gQ p.1 v]:=by unfold colR;rw [List.take_add_one,hp];simp
    rw [e]
    exact (hxs.mono mup).snoc (hz.mono mup),by simp [hxl]⟩,rfl,rfl,rfl⟩
  ·have hil:i=ps.length:=by
    have:¬ (i:Int)<y.n:=by simpa using h21
    omega
   rw [hil,List.take_length] at hxs
   have hcl:(colR ps v).length=ps.length:=by unfold colR;rw [List.length_map]
   have hcs:∀ q∈colR ps v,SmQ 200 q:=fun q hq=>by
    unfold colR at hq
    obtain ⟨p,hp,rfl⟩:=List.mem_map.1 hq
    exact (hs.1 p hp).1 _ (gQ_mem (by rw [hf p hp];exact hvn))
   refine G.freezeArr 0 (xs.map FV.enc) rfl rfl (by intro r hr;obtain ⟨y,_,rfl⟩:=List.mem_map.1 hr;rfl) (by rw [List.length_map,hxl]) (fun Cf hff hsd=>?_)
   refine G.rp 3 fun R hR=>?_
   refine D.ag (.tail _ (.tail _ (.head _))) ?_
   refine D.ae ?_
   refine D.ap (sum_fn _ (hT.mono mup) _ _ ms (colR ps v) 200 200 (hm.mono mup) ⟨xs,hsd,hxs.mono mup⟩ om_ hs.2 hcs om_) rfl rfl rfl rfl rfl rfl rfl fl_ (fun v37 C37 hle37 hq37=>?_)
   obtain ⟨x2,rfl⟩:=hq37.fv
   refine D.aO (v*3) rfl rfl rfl rfl rfl rfl rfl rfl rfl rfl (fun _=>⟨by omega,by omega,rfl⟩) rfl rfl ?_
   refine D.aW (j:=0) rfl rfl rfl rfl rfl rfl rfl rfl rfl rfl rfl (by show v*3+3<=_;rw [bk fv_len,hol];omega) ?_
   refine D.e5 2 5 6 13 14 hR ?_
   refine G.rg fun R hR=>?_
   refine D.ax _ ?_
   refine D.q5 1 2 5 6 13 14 hR ?_
   refine G.bv (L':=[.arr (qW b12 n n) 95 3 n ((o.set v x2).map FV.enc).flatten,.obj b5 (.cells ⟨zeroFV.enc⟩ 95 (0,0)),.obj b2 (.cells ⟨y.enc⟩ 122 (0,0))]) (by rw [<- be fv_len _ (by omega:v<o.length)];rfl) ?_
   refine G.aB (m':=n-(v+1)) om_ mup (h_5 2 5 6 13 14) ⟨v+1,o.set v x2,⟨by omega,by simp [hol],fun k x hk hx=>by
    by_cases hkv:v=k
    ·subst hkv
     rw [List.getElem?_set_self om_] at hx
     cases hx
     exact hq37.mono mup
    ·rw [List.getElem?_set_ne hkv] at hx
     exact (ho k x om_ hx).mono mup⟩,rfl,rfl,rfl⟩
 ·have hvn:v=n:=by
   have:¬ v<n:=by simpa using h15
   omega
  refine G.rp 2 fun R hR=>?_
  refine D.ag (.tail _ (.tail _ (.head _))) ?_
  refine D.ae ?_
  refine D.ag (.tail _ (.tail _ (.head _))) ?_
  refine D.ap (sum_fn _ (hT.mono mup) _ _ ms (ps.map (·.2)) 200 200 (hm.mono mup) (hb.mono mup) (by simp [hlen]) hs.2 (fun q hq=>by obtain ⟨p,hp,rfl⟩:=List.mem_map.1 hq;exact (hs.1 p hp).2) om_) rfl rfl rfl rfl rfl rfl rfl fl_ (fun v45 C45 hle45 hq45=>?_)
  obtain ⟨x2,rfl⟩:=hq45.fv
  refine D.ae ?_
  refine D.ac (j:=1) ?_
  refine D.e2 4 5 hR ?_
  refine G.freezeArr 1 (o.map FV.enc) rfl rfl (by intro r hr;obtain ⟨y,_,rfl⟩:=List.mem_map.1 hr;rfl) (by rw [List.length_map,hol]) (fun Cf hff hsd=>?_)
  refine G.aA (G.finC3 (.head _) rfl rfl rfl rfl rfl ?_)
  refine ⟨rfl,_,_,x2,rfl,⟨o,hsd,by rw [hol];simp [sumsR],fun i x q hi hq=>?_⟩,hq45.mono mup⟩
  have hin:i<n:=by rw [<- hol];exact (List.getElem?_eq_some_iff.1 hi).1
  unfold sumsR at hq
  rw [List.getElem?_map,List.getElem?_range hin] at hq
  cases hq
  exact (ho i x om_ hi).mono mup
end Go.Proofs.YtjhmlnebikbdbaaGreatDoor
