/- Laws that the proofs of this seat share, part 6. -/
import Derived.Test.YtllimhhofkcgpaaGreatDoorG5
import Derived.Test.YtllimhhofkcgpaaGreatDoorShelf
import Derived.RangeFuncBox
import Derived.RangeFuncLeaves
import Derived.Shelf.Abstract
import Derived.WalkKit
import Derived.OwnWalkIn
import Derived.TacticsInMore
import Derived.LoopNIn
import Derived.LoopIn
import Derived.Stop.RegionWithIn
import Derived.Test.YtllimhhofkcgpaaGreatDoorProg
import Derived.Laws.IdiomRangeMap
import Derived.WideKeyRuns
set_option maxHeartbeats 4000000
namespace Go.Proofs.YtllimhhofkcgpaaGreatDoor
open Go Go.Jog
set_option maxRecDepth 100000

theorem QB_add {a b:Rat}{k:Nat}(ha:QB k a)(hb:QB k b):QB (k+k+1) (a+b):=by
 rw [rat_add_mk]
 exact mk_bound (Nat.ne_of_gt (Nat.mul_pos (ep a) (ep b))) (Nat.lt_of_le_of_lt (Int.natAbs_add_le _ _) (sum_lt9 (cD ha.1 (denI hb)) (cD hb.1 (denI ha)))) (bT (prod_lt9 ha.2 hb.2) om_)
theorem QB_mul {a b:Rat}{k:Nat}(ha:QB k a)(hb:QB k b):QB (k+k) (a*b):=by
 rw [rat_mul_mk]
 exact mk_bound (Nat.ne_of_gt (Nat.mul_pos (ep a) (ep b))) (cD ha.1 hb.1) (prod_lt9 ha.2 hb.2)
theorem QB_neg {a:Rat}{k:Nat}(ha:QB k a):QB k (-a):=⟨by rw [Rat.neg_num,Int.natAbs_neg];exact ha.1,by rw [Rat.neg_den];exact ha.2⟩
theorem QB_sub {a b:Rat}{k:Nat}(ha:QB k a)(hb:QB k b):QB (k+k+1) (a-b):=by
 rw [Rat.sub_eq_add_neg];exact QB_add ha (QB_neg hb)
theorem QB_inv {a:Rat}{k:Nat}(ha:QB k a)(h0:a≠0):QB k a⁻¹:=by
 have hn:a.num≠0:=fun e=>h0 (Rat.num_eq_zero.1 e)
 refine ⟨?_, ?_⟩
 ·rw [Rat.num_inv,Int.natAbs_mul,Int.natAbs_sign_of_ne_zero hn,Nat.one_mul,Int.natAbs_natCast];exact ha.2
 ·rw [Rat.den_inv,if_neg hn];exact ha.1
theorem QB_div {a b:Rat}{k:Nat}(ha:QB k a)(hb:QB k b)(h0:b≠0):QB (k+k) (a / b):=by
 rw [Rat.div_def];exact QB_mul ha (QB_inv hb h0)
theorem QB_int {z:Int}{k:Nat}(h:z.natAbs<B9 ^ k)(hk:0<k):QB k (z:Rat):=⟨h,by
 show 1<B9 ^ k
 exact Nat.lt_of_lt_of_le (by decide:1<B9 ^ 1) (Nat.pow_le_pow_right (by decide) hk)⟩
theorem cS (C:Mem)(hT:Tabs C)(a b:Rat)(k:Nat)(hk0:0<k)(hk:k<=10000)(ha:QB k a)(hb:QB k b):Gives cx.P 78 [strV (qtx a),strV (qtx b)] C (strV (qtx (a*b))):=by
 have hal:=bk ha hk0
 have hbl:=bk hb hk0
 have hda:=ep a
 have hdb:=ep b
 have hdd:0<a.den*b.den:=Nat.mul_pos hda hdb
 refine Fn.it kr_ Tryz.func78 66 fun w0=>?_
 refine G.z2 1 0 1 ?_
 refine G.z3 3 0 1 15 ?_
 refine G.cut (fun fr C' L' μ=>(True)/\fr=[(0,[],strV (qtx a)),(1,[],strV (qtx b)),(15,[],.bool (decide (a=0∨b=0)))]/\L'=[]) ?_ (fun fr C15 L15 μ hle15 hI=>?_)
 ·refine G.cd (fun h15=>?_) fun h15=>?_
  ·have h0:a=0:=by rw [qtxEq0] at h15;exact of_decide_eq_true h15
   rw [qtxEq0,show decide (a=0)=decide (a=0∨b=0) by simp [h0]]
   refine G.aw 0 (Mem.le.refl _) (h_3 0 1 15) ⟨trivial,rfl,rfl⟩
  ·have h0:¬ a=0:=by rw [qtxEq0] at h15;exact of_decide_eq_false h15
   refine G.z3 3 0 1 15 ?_
   rw [qtxEq0,show decide (b=0)=decide (a=0∨b=0) by simp [h0]]
   refine G.aw 0 (Mem.le.refl _) (h_3 0 1 15) ⟨trivial,rfl,rfl⟩
 ·obtain ⟨_,rfl,rfl⟩:=hI
  refine G.cd (fun h15b=>?_) fun h15b=>?_
  ·have h0:=of_decide_eq_true h15b
   refine G.z1 1 4 ?_
   refine G.rf ?_
   refine ⟨?_,rfl⟩
   rw [show a*b=0 by rcases h0 with h | h <;> simp [h],qtx_zero]
   rfl
  ·refine G.z3 3 0 1 20 ?_
   refine G.cd (fun h20=>?_) fun h20=>?_
   ·have h1:a=1:=by rw [qtxEq1] at h20;exact of_decide_eq_true h20
    refine G.z1 2 4 ?_
    refine G.rf ?_
    refine ⟨?_,rfl⟩
    rw [h1,Rat.one_mul]
   ·refine G.z3 3 0 1 24 ?_
    refine G.cd (fun h24=>?_) fun h24=>?_
    ·have h1:b=1:=by rw [qtxEq1] at h24;exact of_decide_eq_true h24
     refine G.z1 2 4 ?_
     refine G.rf ?_
     refine ⟨?_,rfl⟩
     rw [h1,Rat.mul_one]
    ·refine G.rp 1 fun R hR=>?_
     refine D.ai (rquick_q _ a om_) rfl rfl rfl rfl rfl rfl rfl fl_ ?_
     refine D.q5 7 0 1 5 6 7 hR ?_
     refine G.z5 1 0 1 5 6 34 ?_
     refine G.cut (fun fr C' L' μ=>(True)/\fr=[(0,[],strV (qtx a)),(1,[],strV (qtx b))]/\L'=[]) ?_ (fun fr C34 L34 μ hle34 hI=>?_)
     ·refine G.cd (fun h34=>?_) fun h34=>?_
      ·have hfa:fitQ a=true:=h34
       rw [if_pos hfa,if_pos hfa]
       have ha9:=fitQ_lt hfa
       refine G.rp 1 fun R hR=>?_
       refine D.ai (rquick_q _ b om_) rfl rfl rfl rfl rfl rfl rfl fl_ ?_
       refine D.q7 7 0 1 5 6 8 9 10 hR ?_
       refine G.z7 1 0 1 5 6 8 9 41 ?_
       refine G.cd (fun h41=>?_) fun h41=>?_
       ·have hfb:fitQ b=true:=h41
        rw [if_pos hfb,if_pos hfb]
        have hb9:=fitQ_lt hfb
        have hm1:=prod18 ha9.1 hb9.1
        have hm3:=nine_mulN ha9.2 hb9.2
        refine G.rp 2 fun R hR=>?_
        refine D.am _ ?_
        refine D.ps 2 ?_
        refine D.cG (((a.den*b.den:Nat):Int)) rfl rfl rfl rfl (Int.natCast_mul _ _).symm om_ om_ rfl rfl ?_
        refine D.ai (rsmall_fn _ (hT.mono mup) _ _ hdd om_ om_) rfl rfl rfl rfl rfl rfl rfl fl_ ?_
        refine D.q1 1 4 hR ?_
        refine G.rf ?_
        exact ⟨by rw [rat_mul_mk],rfl⟩
       ·refine G.aw 0 (Mem.le.refl _) (h_2 0 1) ⟨trivial,rfl,rfl⟩
      ·refine G.aw 0 (Mem.le.refl _) (h_2 0 1) ⟨trivial,rfl,rfl⟩
     ·obtain ⟨_,rfl,rfl⟩:=hI
      refine G.rp 1 fun R hR=>?_
      refine D.ai (parts_z _ a om_) rfl rfl rfl rfl rfl rfl rfl fl_ ?_
      refine D.q3 5 1 11 12 hR ?_
      refine G.rp 1 fun R hR=>?_
      refine D.ai (parts_z _ b om_) rfl rfl rfl rfl rfl rfl rfl fl_ ?_
      refine D.q4 5 11 12 13 14 hR ?_
      refine G.rp 2 fun R hR=>?_
      refine D.ai (imul_fn _ (hT.mono mup) _ _ k hk0 om_ ha.1 hb.1) rfl rfl rfl rfl rfl rfl rfl fl_ ?_
      refine D.ps 2 ?_
      refine D.ai (imul_fn _ (hT.mono mup) _ _ k hk0 om_ (denI ha) (denI hb)) rfl rfl rfl rfl rfl rfl rfl fl_ ?_
      refine D.ai (lowest_fn _ (hT.mono mup) _ _ (k+k) om_ om_ (cD ha.1 hb.1) (cD (denI ha) (denI hb)) (by rw [<- Int.natCast_mul];omega)) rfl rfl rfl rfl rfl rfl rfl fl_ ?_
      refine D.q1 1 4 hR ?_
      refine G.rf ?_
      exact ⟨by rw [rat_mul_mk,<- Int.natCast_mul,divS_pos hdd],rfl⟩
theorem bR (C:Mem)(hT:Tabs C)(a b:Rat)(k:Nat)(hk0:0<k)(hk:k<=10000)(ha:QB k a)(hb:QB k b):Gives cx.P 129 [strV (qtx a),strV (qtx b)] C (strV (qtx (a-b))):=by
 have hbl:=bk hb hk0
 refine Fn.it kr_ Tryz.func129 9 fun w0=>?_
 refine G.z2 1 0 1 ?_
 refine G.rp 2 fun R hR=>?_
 refine D.ai (rneg_fn _ b om_) rfl rfl rfl rfl rfl rfl rfl fl_ ?_
 refine D.af (radd_fn _ (hT.mono mup) a (-b) k hk0 hk ha (QB_neg hb)) ?_
 refine D.q1 1 4 hR ?_
 refine G.rf ?_
 exact ⟨by rw [Rat.sub_eq_add_neg],rfl⟩
theorem rdiv_fn (C:Mem)(hT:Tabs C)(a b:Rat)(k:Nat)(hk0:0<k)(hk:k<=10000)(ha:QB k a)(hb:QB k b)(hb0:b≠0):Gives cx.P 70 [strV (qtx a),strV (qtx b)] C (.tuple #[strV (qtx (a / b)),.int .i64 0]):=by
 have hbl:=bk hb hk0
 have hbn:b.num≠0:=fun e=>hb0 (Rat.num_eq_zero.1 e)
 obtain ⟨c,r,hcr,hcd⟩:=qtx_head b
 refine Fn.it kr_ Tryz.func70 27 fun w0=>?_
 refine G.z2 2 0 1 ?_
 refine G.z3 2 0 1 9 ?_
 refine G.cd (fun h9=>?_) fun h9=>?_
 ·exfalso
  rw [qtxEq0] at h9
  exact hb0 (of_decide_eq_true h9)
 ·refine G.rp 1 fun R hR=>?_
  refine D.ai (parts_z _ b om_) rfl rfl rfl rfl rfl rfl rfl fl_ ?_
  refine D.q4 5 0 1 6 7 hR ?_
  refine G.rp 1 fun R hR=>?_
  refine D.bf rfl rfl rfl rfl rfl rfl rfl rfl (fun _=>⟨by omega,by rw [hcr];rfl⟩) rfl rfl ?_
  refine D.q4 1 0 6 7 17 hR ?_
  refine G.cut (fun fr C' L' μ=>(True)/\fr=[(0,[],strV (qtx a)),(6,[],strV (txt (b.num.natAbs:Nat))),(7,[],strV (txt (b⁻¹).num))]/\L'=[]) ?_ (fun fr C17 L17 μ hle17 hI=>?_)
  ·refine G.cd (fun h17=>?_) fun h17=>?_
   ·have hn:b.num<0:=by rw [hcd] at h17;exact of_decide_eq_true h17
    refine G.rp 1 fun R hR=>?_
    refine D.ai (ineg_fn _ b.num (by have:=a8 hb.1 hk0;omega)) rfl rfl rfl rfl rfl rfl rfl fl_ ?_
    refine D.ac ?_
    refine D.ai (ineg_fn _ ((b.den:Nat):Int) (by have:=a8 (denI hb) hk0;omega)) rfl rfl rfl rfl rfl rfl rfl fl_ ?_
    refine D.q3 2 0 6 7 hR ?_
    rw [show -b.num=((b.num.natAbs:Nat):Int) by omega,show -((b.den:Nat):Int)=(b⁻¹).num by rw [Rat.num_inv,Int.sign_eq_neg_one_of_neg hn,Int.neg_one_mul]]
    refine G.aw 0 (Mem.le.refl _) (h_3 0 6 7) ⟨trivial,rfl,rfl⟩
   ·have hn:¬ b.num<0:=by rw [hcd] at h17;exact of_decide_eq_false h17
    rw [show b.num=((b.num.natAbs:Nat):Int) by omega,show ((b.den:Nat):Int)=(b⁻¹).num by rw [Rat.num_inv,Int.sign_eq_one_of_pos om_,Int.one_mul]]
    refine G.aw 0 (Mem.le.refl _) (h_3 0 6 7) ⟨trivial,rfl,rfl⟩
  ·obtain ⟨_,rfl,rfl⟩:=hI
   rw [bM,show b.num.natAbs=(b⁻¹).den by rw [Rat.den_inv,if_neg hbn]]
   refine G.rp 3 fun R hR=>?_
   refine D.ai (join_fn _ _ _ k hk0 om_ (QB_inv hb hb0).1 (QB_inv hb hb0).2) rfl rfl rfl rfl rfl rfl rfl fl_ ?_
   rw [<- qtx_txt b⁻¹]
   refine D.af (cS _ (hT.mono mup) a b⁻¹ k hk0 hk ha (QB_inv hb hb0)) ?_
   refine D.q2 2 4 5 hR ?_
   refine G.az (G.dropAll (G.aK rfl rfl rfl ?_))
   exact ⟨by rw [Rat.div_def],rfl⟩
theorem rnew_fn (C:Mem)(hT:Tabs C)(z w:Int)(k:Nat)(hk0:0<k)(hk:k<=40000)(hz:z.natAbs<B9 ^ k)(hw:w.natAbs<B9 ^ k)(hw0:w≠0):Gives cx.P 83 [strV (txt z),strV (txt w)] C (.tuple #[strV (qtx (divS z w)),.int .i64 0]):=by
 refine Fn.it kr_ Tryz.func83 12 fun w0=>?_
 refine G.z2 2 0 1 ?_
 refine G.rp 1 fun R hR=>?_
 refine D.af (isign_fn _ w) ?_
 refine D.q3 1 0 1 8 hR ?_
 refine G.cd (fun h8=>?_) fun h8=>?_
 ·exfalso
  have h:sgnZ w=0:=by simpa using h8
  rcases cH w with h2 | h2 | h2 <;> omega
 ·refine G.rp 2 fun R hR=>?_
  refine D.af (lowest_fn _ (hT.mono mup) z w k hk0 hk hz hw hw0) ?_
  refine D.q2 2 4 5 hR ?_
  refine G.az (G.dropAll (G.aK rfl rfl rfl ?_))
  exact ⟨rfl,rfl⟩
theorem rof_fn (C:Mem)(hT:Tabs C)(z w:Int)(hz:z.natAbs<9000000000000000000)(hw:w.natAbs<9000000000000000000)(hw0:w≠0):Gives cx.P 47 [.int .i64 z,.int .i64 w] C (.tuple #[strV (qtx (divS z w)),.int .i64 0]):=by
 have hb3:9000000000000000000<B9 ^ 3:=by decide
 refine Fn.it kr_ Tryz.func47 13 fun w0=>?_
 refine G.z2 2 0 1 ?_
 refine G.rp 1 fun R hR=>?_
 refine D.ai (iof_fn _ (hT.mono mup) z om_ om_) rfl rfl rfl rfl rfl rfl rfl fl_ ?_
 refine D.ac ?_
 refine D.ai (iof_fn _ (hT.mono mup) w om_ om_) rfl rfl rfl rfl rfl rfl rfl fl_ ?_
 refine D.ai (rnew_fn _ (hT.mono mup) z w 3 (by decide) (by decide) om_ om_ hw0) rfl rfl rfl rfl rfl rfl rfl fl_ ?_
 refine D.q2 4 4 5 hR ?_
 refine G.az (G.dropAll (G.aK rfl rfl rfl ?_))
 exact ⟨rfl,rfl⟩
theorem whole_fn (C:Mem)(hT:Tabs C)(z:Int)(hz:z.natAbs<9000000000000000000):Gives cx.P 48 [.int .i64 z] C (strV (qtx z)):=by
 refine Fn.it kr_ Tryz.func48 5 fun w0=>?_
 refine G.z1 1 0 ?_
 refine G.rp 1 fun R hR=>?_
 refine D.ai (iof_fn _ (hT.mono mup) z om_ om_) rfl rfl rfl rfl rfl rfl rfl fl_ ?_
 refine D.q1 1 2 hR ?_
 refine G.rf ?_
 exact ⟨by rw [qtx_int],rfl⟩

theorem pow9 (k:Nat):B9 ^ k=10 ^ (9*k):=by rw [Nat.pow_mul]
theorem dv {s:Str}(h:bj s=true):s=txt (decZ s)/\(decZ s).natAbs<B9 ^ 23:=by
 have h1:=rightI_iff.1 h
 refine ⟨canon_txt (by unfold bj at h;exact (Bool.and_eq_true_iff.1 h).1), ?_⟩
 rw [decZ_abs]
 have h2:=okD_can.1 h1.1
 have h3:=co h2.1.1
 exact Nat.lt_of_lt_of_le h3 (by rw [pow9];exact Nat.pow_le_pow_right (by decide) om_)
theorem rat_of {s:Str}(h:aV s=true):∃ q:Rat,s=qtx q/\QB 23 q:=by
 unfold aV at h
 rw [Bool.and_eq_true,Bool.and_eq_true] at h
 obtain ⟨⟨h1,h2⟩,h3⟩:=h
 obtain ⟨e1,b1⟩:=dv h1
 rcases ed 47 s with ⟨hc,_,_⟩ | ⟨pre,post,hc,hs,_⟩
 ·rw [hc] at e1 b1
  exact ⟨((decZ s:Int):Rat),by rw [qtx_int];exact e1,QB_int b1 (by decide)⟩
 ·rw [hc] at h2 h3 e1 b1
  simp only [Option.getD_some] at h2 e1 b1
  obtain ⟨e2,b2⟩:=dv h2
  unfold restOk at h3
  simp only [Bool.and_eq_true,decide_eq_true_eq,beq_iff_eq] at h3
  obtain ⟨⟨h4,_⟩,h6⟩:=h3
  have hd0:(decZ post).natAbs≠0:=by omega
  refine ⟨⟨decZ pre,(decZ post).natAbs,hd0,h6⟩, ?_,b1,b2⟩
  rw [qtx_txt]
  show s=txt (decZ pre)++cT (denS (decZ post).natAbs)
  rw [dI om_,<- e1,hs]
  show pre++47::post=pre++47::decS (decZ post).natAbs
  rw [<- bM,show (((decZ post).natAbs:Nat):Int)=decZ post by omega,<- e2]
theorem icompare_right (C:Mem)(b:Str)(hb:bj b=true):Gives cx.P 75 [strV b,strV [49]] C (.int .i64 (cmpZ (decZ b) 1)):=by
 obtain ⟨h1,h2⟩:=dv hb
 have h:=icompare_fn C (decZ b) 1 (by have:=a8 h2 (by decide);omega) (by rw [show decS (1:Int).natAbs=[49] from one_dec];decide)
 rwa [<- one_val,<- h1] at h
theorem igcd_right (C:Mem)(hT:Tabs C)(a b:Str)(ha:bj a=true)(hb:bj b=true):Gives cx.P 76 [strV a,strV b] C (strV (txt (Nat.gcd (decZ a).natAbs (decZ b).natAbs:Nat))):=by
 obtain ⟨h1,h2⟩:=dv ha
 obtain ⟨h3,h4⟩:=dv hb
 have h:=igcd_fn C hT (decZ a) (decZ b) 23 (by decide) (by decide) h2 h4
 rwa [<- h1,<- h3] at h
theorem chk_right {b:Bool}(h:(chkZ b != 0)=false):b=true:=by cases b <;> first | rfl | (exact absurd h (by decide))
theorem cL (C:Mem)(hT:Tabs C)(s:Str)(hl:s.length<=9223372036854775807):Gives cx.P 35 [strV s] C (.int .i64 (chkZ (aV s))):=by
 have hls:=ratOk_len hl
 obtain ⟨num,bo,hct⟩:∃ a b,cut1 47 s=(a,b):=⟨_,_,rfl⟩
 have hM:aV s=(bj num && bj (bo.getD [49]) && restOk (decZ num) bo):=by
  unfold aV;rw [hct]
 rw [hct] at hls
 simp only at hls
 refine Fn.it kr_ Tryz.func35 39 fun w0=>?_
 refine G.z1 1 0 ?_
 refine G.rp 1 fun R hR=>?_
 refine D.ai (by have h:=cut_fn C s 47 om_;rw [hct] at h;exact h) rfl rfl rfl rfl rfl rfl rfl fl_ ?_
 refine D.q3 7 3 4 5 hR ?_
 refine G.rp 1 fun R hR=>?_
 refine D.af (icheck_fn _ num) ?_
 refine D.q4 1 3 4 5 16 hR ?_
 refine G.cd (fun h16=>?_) fun h16=>?_
 ·have hno:aV s=false:=by
   rw [hM]
   cases h1:bj num with
   | false=>rfl
   | true=>rw [h1] at h16;exact absurd h16 (by decide)
  refine G.z1 1 2 ?_
  refine G.rf ?_
  exact ⟨by rw [hno];rfl,rfl⟩
 ·have hr1:bj num=true:=by
   cases h1:bj num with
   | true=>rfl
   | false=>rw [h1] at h16;exact absurd h16 (by decide)
  rw [hr1,Bool.true_and] at hM
  obtain ⟨hn1,hn2⟩:=dv hr1
  refine G.z3 2 3 4 18 ?_
  refine G.cd (fun h18=>?_) fun h18=>?_
  ·have hbo:bo=none:=by
    cases bo with
    | none=>rfl
    | some b=>simp at h18
   refine G.z1 1 2 ?_
   refine G.rf ?_
   refine ⟨?_,rfl⟩
   rw [hM,hbo]
   rfl
  ·obtain ⟨b,hbo⟩:∃ b,bo=some b:=by
    cases bo with
    | some b=>exact ⟨b,rfl⟩
    | none=>simp at h18
   subst hbo
   obtain ⟨zn,ezn⟩:∃ z,decZ num=z:=⟨_,rfl⟩
   obtain ⟨zd,ezd⟩:∃ z,decZ b=z:=⟨_,rfl⟩
   have hM2:aV s=(bj b && restOk (decZ num) (some b)):=hM
   unfold restOk at hM2
   simp only [ezn,ezd] at hM2 hn1 hn2
   have e0:(num == [48])=(zn == 0):=by
    rw [hn1]
    have h:=txtEq0 zn
    rw [show (zn == 0)=decide (zn=0) by by_cases h:zn=0 <;> simp [h]]
    exact h
   have e1:(chkZ (bj b) != 0)=!bj b:=by cases bj b <;> rfl
   have e2:decide (cmpZ zd 1<=0)=!decide (1<zd):=by
    unfold cmpZ
    by_cases h:1<zd
    ·rw [if_neg om_,if_pos h,decide_eq_true h];rfl
    ·rw [decide_eq_false h]
     refine decide_eq_true ?_
     split <;> first | omega | (split <;> omega)
   have key:(chkZ (bj b) != 0 || decide (cmpZ (decZ b) 1<=0) || (num == [48]) || !(decS ((decZ num).natAbs.gcd (decZ b).natAbs) == [49]))=!aV s:=by
    have e3:=decEq1 (zn.natAbs.gcd zd.natAbs)
    have e4:(decS (zn.natAbs.gcd zd.natAbs) == [49])=(zn.natAbs.gcd zd.natAbs == 1):=e3
    rw [ezn,ezd,e0,e1,e2,e4,hM2]
    cases bj b <;> cases decide (1<zd) <;> cases (zn == 0) <;> cases (zn.natAbs.gcd zd.natAbs == 1) <;> rfl
   rw [<- bM] at key
   refine G.z2 4 6 7 ?_
   refine G.rp 1 fun R hR=>?_
   refine D.af (icheck_fn _ b) ?_
   refine D.ps 3 ?_
   refine D.aC (fun hg=>(icompare_right _ b (by exact chk_right (show (chkZ (bj b) != 0)=false/\True from hg).1))) rfl rfl rfl rfl rfl rfl rfl rfl rfl ?_
   refine D.ac ?_
   refine D.aF rfl rfl rfl rfl rfl rfl rfl rfl ?_
   refine D.ps 3 ?_
   refine D.aF rfl rfl rfl rfl rfl rfl rfl rfl ?_
   refine D.ps 3 ?_
   refine D.aC (fun hg=>(igcd_right _ (hT.mono mup) num b hr1 (by exact chk_right (Bool.or_eq_false_iff.1 (Bool.or_eq_false_iff.1 (show (((chkZ (bj b) != 0) || decide (cmpZ (decZ b) 1<=0)) || (num == [48]))=false/\True from hg).1).1).1))) rfl rfl rfl rfl rfl rfl rfl rfl rfl ?_
   refine D.ac ?_
   refine D.aF rfl rfl rfl rfl rfl rfl rfl rfl ?_
   refine D.e1 38 hR ?_
   refine G.cd (fun h38=>?_) fun h38=>?_
   ·have hno:aV s=false:=by
     have h:(!aV s)=true:=key.symm.trans h38
     simpa using h
    refine G.z1 1 2 ?_
    refine G.rf ?_
    exact ⟨by rw [hno];rfl,rfl⟩
   ·have hno:aV s=true:=by
     have h:(!aV s)=false:=key.symm.trans h38
     simpa using h
    refine G.z1 1 2 ?_
    refine G.rf ?_
    exact ⟨by rw [hno];rfl,rfl⟩



theorem sg_div (z:Int){g:Nat}(hg:g ∣ z.natAbs):sgZ (decide (z<0) != false) (z.natAbs / g)=z / (g:Int):=by
 obtain ⟨m,hm⟩:=hg
 rcases Nat.eq_zero_or_pos g with h | hg0
 ·subst h
  have hz:z=0:=by omega
  subst hz
  rfl
 rw [hm,Nat.mul_div_cancel_left _ hg0,Bool.bne_false]
 unfold sgZ
 by_cases hz:z<0
 ·rw [decide_eq_true hz,if_pos rfl,show z=(g:Int)*(-(m:Int)) by rw [Int.mul_neg,<- Int.natCast_mul];omega,Int.mul_ediv_cancel_left _ om_]
 ·rw [decide_eq_false hz,if_neg (by decide),show z=(g:Int)*(m:Int) by rw [<- Int.natCast_mul];omega,Int.mul_ediv_cancel_left _ om_]
theorem divmod_ex_fn (C:Mem)(hT:Tabs C)(z:Int)(b:Nat)(ha:z.natAbs<BP ^ 200)(hb:b<BP ^ 200)(hb0:0<b)(hd:b ∣ z.natAbs):Gives cx.P 126 [strV (txt z),strV (decS b)] C (.tuple #[strV (txt (z / (b:Int))),strV (decS 0)]):=by
 have hBl:=BP_lt
 have hm0:z.natAbs % b=0:=Nat.mod_eq_zero_of_dvd hd
 have hdi:(b:Int) ∣ z:=Int.dvd_natAbs.1 (Int.natCast_dvd_natCast.2 hd)
 have hq:(z / (b:Int)).natAbs<=z.natAbs:=by
  rw [Int.natAbs_ediv_of_dvd hdi,Int.natAbs_natCast]
  exact Nat.div_le_self _ _
 refine Fn.it kr_ Tryz.func126 93 fun w0=>?_
 refine G.z2 2 0 1 ?_
 refine G.rp 1 fun R hR=>?_
 refine D.af (brief_fn C z) ?_
 refine D.q4 5 0 1 6 7 hR ?_
 refine G.rp 1 fun R hR=>?_
 refine D.af (brief_dec _ b) ?_
 refine D.q6 5 0 1 6 7 8 9 hR ?_
 refine G.rp 3 fun R hR=>?_
 refine D.aq ?_
 refine D.e5 0 1 6 8 31 hR ?_
 refine G.cd (fun h31=>?_) fun h31=>?_
 ·have hs:(decS z.natAbs).length<=17/\(decS b).length<=17:=by simpa using h31
  have h1:=brief_lt hs.1
  have h2:=briefN_lt hs.2
  rw [if_pos hs.1,if_pos hs.2]
  refine G.aH [0,1,2,3,4,5,6,7] [] rfl kr_ (fun R hB hR=>?_)
  refine D.ps 2 ?_
  refine D.quoT (z / (b:Int)) rfl rfl rfl rfl rfl rfl om_ (quotT_dvd hd) (wrap_i64 om_ om_) rfl rfl ?_
  refine D.ps 2 ?_
  refine D.eQ 0 rfl rfl rfl rfl rfl rfl om_ (Int.tmod_eq_zero_of_dvd hdi) rfl rfl ?_
  refine D.q4 2 6 8 10 11 hR ?_
  refine G.z5 2 6 8 10 11 39 ?_
  refine G.cd (fun h39=>?_) fun h39=>?_
  ·exfalso
   simp at h39
  ·refine G.rp 1 fun R hR=>?_
   refine D.ai (of_ref_fn _ hT (z / (b:Int)) om_ om_) rfl rfl rfl rfl rfl rfl rfl fl_ ?_
   refine D.ac ?_
   refine D.ai (of_dec _ hT 0 om_) rfl rfl rfl rfl rfl rfl rfl fl_ ?_
   refine D.q2 2 4 5 hR ?_
   refine G.az (G.dropAll (G.aK rfl rfl rfl ?_))
   exact ⟨rfl,rfl⟩
 ·refine G.rp 1 fun R hR=>?_
  refine D.af (dy _ z) ?_
  refine D.q3 5 1 12 13 hR ?_
  refine G.rp 1 fun R hR=>?_
  refine D.af (split_dec _ b) ?_
  refine D.q4 5 12 13 14 15 hR ?_
  refine G.rp 1 fun R hR=>?_
  refine D.aX (takeN_fn _ z.natAbs ha) (fun v67 C67 hle67 hq67=>?_)
  obtain ⟨lp,hcp,hvp,hlp,hsp⟩:=hq67
  refine D.ac ?_
  refine D.aX (takeN_fn _ b hb) (fun v69 C69 hle69 hq69=>?_)
  obtain ⟨lq,hcq,hvq,hlq,hsq⟩:=hq69
  refine D.aP (parts_fn _ _ _ lp lq (hsp.mono mup) (hsq.mono mup) hcp.1 hcq om_ om_ om_) rfl rfl rfl rfl rfl rfl rfl fl_ (fun v70 C70 hle70 hq70=>?_)
  obtain ⟨u1,u2,rfl,hu1,hu2⟩:=hq70
  rw [hvp,hvq] at hu1 hu2
  rw [hm0] at hu2
  obtain ⟨l1,hc1,hv1,hl1,hs1⟩:=PieC.take hu1 (by have:=Nat.div_le_self z.natAbs b;omega)
  obtain ⟨l2,hc2,hv2,hl2,hs2⟩:=PieC.take hu2 om_
  obtain ⟨A2,c2,rfl,_⟩:=id hs2
  obtain rfl:=(canP_nil hc2).1 hv2
  refine D.q5 5 12 14 15 16 17 hR ?_
  refine G.rp 5 fun R hR=>?_
  refine D.aq ?_
  refine D.e6 12 14 15 16 17 78 hR ?_
  refine G.cd (fun h78=>?_) fun h78=>?_
  ·exfalso
   simp at h78
  ·refine G.rp 4 fun R hR=>?_
   refine D.ai (made_fn _ (hT.mono mup) _ _ l1 (hs1.mono mup) hc1.1 om_) rfl rfl rfl rfl rfl rfl rfl fl_ ?_
   refine D.ac ?_
   refine D.ai (made_dec _ (hT.mono mup) _ [] (hs2.mono mup) hc2.1 (by simp)) rfl rfl rfl rfl rfl rfl rfl fl_ ?_
   refine D.q2 2 4 5 hR ?_
   refine G.az (G.dropAll (G.aK rfl rfl rfl ?_))
   refine ⟨?_,rfl⟩
   show Value.tuple #[strV (txt (sgZ (decide (z<0) != false) (valP l1))),_]=_
   rw [hv1,sg_div z hd]
   rfl

theorem nine_len {z:Int}(h:(txt z).length<=9):z.natAbs<1000000000:=by
 have h1:=abs18 h
 rwa [e9] at h1
theorem small2_fn (C:Mem)(hT:Tabs C)(z w:Int)(hz:(txt z).length<=9)(hw:(txt w).length<=9)(hw0:w≠0):Gives cx.P 122 [strV (txt z),strV (txt w)] C (strV (qtx (divS z w))):=by
 have hz9:=nine_len hz
 have hw9:=nine_len hw
 obtain ⟨n,hn⟩:∃ y,(if w<0 then -z else z)=y:=⟨_,rfl⟩
 obtain ⟨d,hd⟩:∃ d,w.natAbs=d:=⟨_,rfl⟩
 have hd0:0<d:=by omega
 have hna:n.natAbs<1000000000:=by rw [<- hn];split <;> omega
 unfold divS
 rw [hn,hd]
 obtain ⟨g,hg⟩:∃ g,Nat.gcd n.natAbs d=g:=⟨_,rfl⟩
 have hg0:0<g:=by rw [<- hg];exact Nat.gcd_pos_of_pos_right _ hd0
 have hgn:g ∣ n.natAbs:=by rw [<- hg];exact Nat.gcd_dvd_left _ _
 have hgd:g ∣ d:=by rw [<- hg];exact Nat.gcd_dvd_right _ _
 have hgl:g<=d:=Nat.le_of_dvd hd0 hgd
 have hnq:(n / (g:Int)).natAbs<=n.natAbs:=by
  rw [Int.natAbs_ediv_of_dvd (Int.dvd_natAbs.1 (Int.natCast_dvd_natCast.2 hgn)),Int.natAbs_natCast]
  exact Nat.div_le_self _ _
 have hdq:=Nat.div_le_self d g
 rw [qtx_mk om_,hg]
 refine Fn.it kr_ Tryz.func122 55 fun w0=>?_
 refine G.z2 1 0 1 ?_
 refine G.rp 1 fun R hR=>?_
 refine D.ai (atoi_fn Tryz.atoi z om_ _ kr_) rfl rfl rfl rfl rfl rfl rfl fl_ ?_
 refine D.q2 5 1 5 hR ?_
 refine G.rp 1 fun R hR=>?_
 refine D.ai (atoi_fn Tryz.atoi w om_ _ kr_) rfl rfl rfl rfl rfl rfl rfl fl_ ?_
 refine D.q2 5 5 7 hR ?_
 refine G.z3 2 5 7 22 ?_
 refine G.cut (fun fr C' L' μ=>(True)/\fr=[(5,[],.int .i64 n),(7,[],.int .i64 d)]/\L'=[]) ?_ (fun fr C22 L22 μ hle22 hI=>?_)
 ·refine G.cd (fun h22=>?_) fun h22=>?_
  ·have hneg:w<0:=by simpa using h22
   rw [if_pos hneg] at hn
   refine G.z2 6 5 7 ?_
   rw [show IntKind.i64.wrap (0-z)=n by rw [wrap_i64 om_ om_];omega,show IntKind.i64.wrap (0-w)=(d:Int) by rw [wrap_i64 om_ om_];omega]
   refine G.aw 0 (Mem.le.refl _) (h_2 5 7) ⟨trivial,rfl,rfl⟩
  ·have hneg:¬ w<0:=by simpa using h22
   rw [if_neg hneg] at hn
   rw [show z=n by omega,show w=(d:Int) by omega]
   refine G.aw 0 (Mem.le.refl _) (h_2 5 7) ⟨trivial,rfl,rfl⟩
 ·obtain ⟨_,rfl,rfl⟩:=hI
  refine G.z4 4 5 7 9 10 ?_
  refine G.z5 2 5 7 9 10 30 ?_
  refine G.cut (fun fr C' L' μ=>(True)/\fr=[(5,[],.int .i64 n),(7,[],.int .i64 d),(9,[],.int .i64 (n.natAbs:Nat)),(10,[],.int .i64 d)]/\L'=[]) ?_ (fun fr C30 L30 μ hle30 hI=>?_)
  ·refine G.cd (fun h30=>?_) fun h30=>?_
   ·have hneg:n<0:=by simpa using h30
    refine G.z4 3 5 7 9 10 ?_
    rw [show IntKind.i64.wrap (0-n)=((n.natAbs:Nat):Int) by rw [wrap_i64 om_ om_];omega]
    refine G.aw 0 (Mem.le.refl _) (h_4 5 7 9 10) ⟨trivial,rfl,rfl⟩
   ·have hneg:¬ n<0:=by simpa using h30
    refine G.aw 0 (Mem.le.refl _) (h_4 5 7 9 10) ⟨trivial,by rw [show ((n.natAbs:Nat):Int)=n by omega],rfl⟩
  ·obtain ⟨_,rfl,rfl⟩:=hI
   refine G.loop (fun fr C' L' μ=>∃ (x y:Int),(x.natAbs<9000000000000000000/\0<=x/\0<=y/\y.natAbs<9000000000000000000/\Nat.gcd x.natAbs y.natAbs=g)/\fr=[(5,[],.int .i64 n),(7,[],.int .i64 d),(9,[],.int .i64 x),(10,[],.int .i64 y)]/\L'=[]/\μ=y.natAbs+1) (h_4 5 7 9 10) ⟨(n.natAbs:Int),d,⟨by omega,by omega,by omega,by omega,by rw [Int.natAbs_natCast,Int.natAbs_natCast];exact hg⟩,rfl,rfl,rfl⟩ (fun fr C0' L0' m hle0 hI=>?_)
   obtain ⟨x,y,⟨hxa,hx0,hy0,hya,hgi⟩,rfl,rfl,rfl⟩:=hI
   refine G.z5 2 5 7 9 10 34 ?_
   refine G.cd (fun h34=>?_) fun h34=>?_
   ·have hyn:y≠0:=by simpa using h34
    have hta:(x.tmod y).natAbs=x.natAbs % y.natAbs:=Int.natAbs_tmod x y
    have htl:=Nat.mod_lt x.natAbs (show 0<y.natAbs by omega)
    have htn:=Int.tmod_nonneg y hx0
    refine G.aH [0,1,2,3,4,5] [] rfl kr_ (fun R hB hR=>?_)
    refine D.ps 3 ?_
    refine D.eQ (x.tmod y) rfl rfl rfl rfl rfl rfl hyn rfl rfl rfl ?_
    refine D.q4 2 5 7 9 10 hR ?_
    refine G.ax (m':=(x.tmod y).natAbs+1) om_ hle0 (h_4 5 7 9 10) ⟨y,x.tmod y,⟨hya,hy0,htn,by omega,by rw [hta,<- hgi,Nat.gcd_comm x.natAbs,Nat.gcd_rec y.natAbs x.natAbs,Nat.gcd_comm]⟩,rfl,rfl,rfl⟩
   ·have hyn:y=0:=by simpa using h34
    subst hyn
    rw [show (0:Int).natAbs=0 from rfl,Nat.gcd_zero_right] at hgi
    obtain rfl:x=(g:Int):=by omega
    refine G.aH [0,1,2,3,4,5,6,7] [] rfl kr_ (fun R hB hR=>?_)
    refine D.ps 2 ?_
    refine D.quoT (n / (g:Int)) rfl rfl rfl rfl rfl rfl om_ (quotT_dvd hgn) (wrap_i64 om_ om_) rfl rfl ?_
    refine D.ps 2 ?_
    refine D.quoN (d) (g) rfl rfl rfl rfl rfl rfl hg0 (.inl ⟨rfl,by omega⟩) rfl rfl ?_
    refine D.q2 2 5 7 hR ?_
    refine G.z3 2 5 7 46 ?_
    refine G.cd (fun h46=>?_) fun h46=>?_
    ·have h1:d / g=1:=by
      have h2:(((d / g:Nat):Int))=1:=by simpa using h46
      omega
     refine G.rp 1 fun R hR=>?_
     refine D.ai (itoaZ_g _ (hT.mono mup) _ om_ om_) rfl rfl rfl rfl rfl rfl rfl fl_ ?_
     refine D.q1 1 4 hR ?_
     refine G.rf ?_
     refine ⟨?_,rfl⟩
     rw [h1,dens_one rfl]
     simp [cT]
    ·have h1:d / g≠1:=by
      intro h2
      rw [h2] at h46
      exact absurd h46 (by decide)
     have hT1:=txt_len (n / (g:Int))
     have hT2:=txt_len ((d / g:Nat):Int)
     have hT3:(decS (n / (g:Int)).natAbs).length<=20:=cO (Nat.lt_of_le_of_lt hnq (Nat.lt_trans hna (by decide))) (by decide)
     have hT4:(decS ((d / g:Nat):Int).natAbs).length<=20:=cO (by rw [Int.natAbs_natCast];exact Nat.lt_of_le_of_lt hdq (Nat.lt_trans (show d<1000000000 by omega) (by decide))) (by decide)
     refine G.rp 1 fun R hR=>?_
     refine D.ai (itoaZ_g _ (hT.mono mup) _ om_ om_) rfl rfl rfl rfl rfl rfl rfl fl_ ?_
     refine D.cg rfl rfl rfl rfl rfl rfl (fun _=>(by simp only [List.length_cons,List.length_nil];omega)) rfl rfl ?_
     refine D.ac ?_
     refine D.ai (itoaZ_g _ (hT.mono mup) ((d / g:Nat):Int) (Int.le_trans (by decide) (Int.natCast_nonneg _)) (Int.le_trans (Int.ofNat_le.2 hdq) om_)) rfl rfl rfl rfl rfl rfl rfl fl_ ?_
     refine D.cg rfl rfl rfl rfl rfl rfl (fun _=>(by simp only [List.length_append,List.length_cons,List.length_nil];omega)) rfl rfl ?_
     refine D.q1 1 4 hR ?_
     refine G.rf ?_
     refine ⟨?_,rfl⟩
     rw [dI h1,bM,List.append_assoc]
     rfl

theorem abs_lt_of {z:Int}{m:Nat}(h:z.natAbs<m)(g:Nat)(hd:g ∣ z.natAbs):(z / (g:Int)).natAbs<m:=by
 rw [Int.natAbs_ediv_of_dvd (Int.dvd_natAbs.1 (Int.natCast_dvd_natCast.2 hd)),Int.natAbs_natCast]
 exact Nat.lt_of_le_of_lt (Nat.div_le_self _ _) h
theorem gcd_ref2 (C:Mem)(hT:Tabs C)(y:Int)(d:Nat)(hy:y.natAbs<BP ^ 200)(hd:d<BP ^ 200):Gives cx.P 125 [strV (txt y),strV (decS d)] C (strV (decS (Nat.gcd y.natAbs d))):=by
 have h:=gcd_ref_fn C hT y (d:Nat) hy om_
 rwa [bM,Int.natAbs_natCast] at h
theorem fraction_fn (C:Mem)(hT:Tabs C)(z w:Int)(hz:z.natAbs<BP ^ 200)(hw:w.natAbs<BP ^ 200)(hw0:w≠0):Gives cx.P 80 [strV (txt z),strV (txt w)] C (strV (qtx (divS z w))):=by
 have hzl:=ec hz
 have hwl:=ec hw
 obtain ⟨y,hy⟩:∃ y,(if w<0 then -z else z)=y:=⟨_,rfl⟩
 obtain ⟨d,hd⟩:∃ d,w.natAbs=d:=⟨_,rfl⟩
 have hd0:d≠0:=by omega
 have hya:y.natAbs=z.natAbs:=by rw [<- hy];split <;> omega
 obtain ⟨g,hg⟩:∃ g,Nat.gcd y.natAbs d=g:=⟨_,rfl⟩
 have hg0:0<g:=by rw [<- hg];exact Nat.gcd_pos_of_pos_right _ om_
 have hgd:g ∣ d:=by rw [<- hg];exact Nat.gcd_dvd_right _ _
 have hgy:g ∣ y.natAbs:=by rw [<- hg];exact Nat.gcd_dvd_left _ _
 have hgl:g<=d:=Nat.le_of_dvd om_ hgd
 refine Fn.it kr_ Tryz.func80 46 fun w0=>?_
 refine G.z2 1 0 1 ?_
 refine G.rp 7 fun R hR=>?_
 refine D.aq ?_
 refine D.e3 0 1 13 hR ?_
 refine G.cd (fun h13=>?_) fun h13=>?_
 ·have h:(txt z).length<=9/\(txt w).length<=9:=by
   have h1:=(Bool.and_eq_true _ _ ▸ h13:_/\_)
   have h2:((txt z).length:Int)<=9:=of_decide_eq_true h1.1
   have h3:((txt w).length:Int)<=9:=of_decide_eq_true h1.2
   omega
  refine G.rp 2 fun R hR=>?_
  refine D.af (small2_fn _ (hT.mono mup) z w h.1 h.2 hw0) ?_
  refine D.q1 1 4 hR ?_
  refine G.rf ?_
  exact ⟨rfl,rfl⟩
 ·refine G.rp 1 fun R hR=>?_
  refine D.af (sign_ref_fn _ w) ?_
  refine D.q3 1 0 1 19 hR ?_
  refine G.cut (fun fr C' L' μ=>(True)/\fr=[(0,[],strV (txt y)),(1,[],strV (decS d))]/\L'=[]) ?_ (fun fr C19 L19 μ hle19 hI=>?_)
  ·refine G.cd (fun h19=>?_) fun h19=>?_
   ·have hneg:w<0:=by
     have h:=of_decide_eq_true h19
     refine Classical.byContradiction fun h2=>?_
     rw [if_neg h2] at h
     revert h
     split <;> decide
    rw [if_pos hneg] at hy
    refine G.rp 1 fun R hR=>?_
    refine D.ai (neg_ref_fn _ z om_) rfl rfl rfl rfl rfl rfl rfl fl_ ?_
    refine D.ac ?_
    refine D.ai (neg_ref_fn _ w om_) rfl rfl rfl rfl rfl rfl rfl fl_ ?_
    refine D.q2 2 0 1 hR ?_
    refine G.aw 0 (Mem.le.refl _) (h_2 0 1) ⟨trivial,by rw [hy,show -w=((d:Nat):Int) by omega,bM],rfl⟩
   ·have hneg:¬ w<0:=by
     intro h2
     have h:=of_decide_eq_false h19
     rw [if_pos h2] at h
     exact h (by decide)
    rw [if_neg hneg] at hy
    refine G.aw 0 (Mem.le.refl _) (h_2 0 1) ⟨trivial,by rw [hy,show w=((d:Nat):Int) by omega,bM],rfl⟩
  ·obtain ⟨_,rfl,rfl⟩:=hI
   unfold divS
   rw [hy,hd,qtx_mk hd0,hg]
   have hyl:=abs_lt_of (z:=y) (by rw [hya];exact hz) g hgy
   have hyl2:=ec hyl
   have hdl:d / g<BP ^ 200:=Nat.lt_of_le_of_lt (Nat.div_le_self _ _) om_
   have hdl2:=ec hdl
   have hT1:=txt_len (y / (g:Int))
   refine G.rp 2 fun R hR=>?_
   refine D.ai (gcd_ref2 _ (hT.mono mup) y d om_ om_) rfl rfl rfl rfl rfl rfl rfl fl_ ?_
   refine D.q3 1 0 1 5 hR ?_
   rw [hg]
   refine G.rp 2 fun R hR=>?_
   refine D.ai (divmod_ex_fn _ (hT.mono mup) y g om_ om_ hg0 hgy) rfl rfl rfl rfl rfl rfl rfl fl_ ?_
   refine D.q3 4 0 1 5 hR ?_
   refine G.rp 2 fun R hR=>?_
   refine D.ai (divmod_ref_fn _ (hT.mono mup) d g om_ om_ hg0) rfl rfl rfl rfl rfl rfl rfl fl_ ?_
   refine D.q2 4 0 1 hR ?_
   refine G.z3 2 0 1 40 ?_
   refine G.cd (fun h40=>?_) fun h40=>?_
   ·have h1:d / g=1:=by rw [decEq1] at h40;exact of_decide_eq_true h40
    refine G.z1 2 4 ?_
    refine G.rf ?_
    refine ⟨?_,rfl⟩
    rw [dens_one h1]
    simp [cT]
   ·have h1:d / g≠1:=by rw [decEq1] at h40;exact of_decide_eq_false h40
    refine G.rp 1 fun R hR=>?_
    refine D.cg rfl rfl rfl rfl rfl rfl (fun _=>(by simp only [List.length_cons,List.length_nil];omega)) rfl rfl ?_
    refine D.ac ?_
    refine D.cg rfl rfl rfl rfl rfl rfl (fun _=>(by simp only [List.length_append,List.length_cons,List.length_nil];omega)) rfl rfl ?_
    refine D.q1 1 4 hR ?_
    refine G.rf ?_
    refine ⟨?_,rfl⟩
    rw [dI h1,List.append_assoc]
    rfl
theorem of2_fn (C:Mem)(hT:Tabs C)(z w:Int)(hz:z.natAbs<9000000000000000000)(hw:w.natAbs<9000000000000000000)(hw0:w≠0):Gives cx.P 45 [.int .i64 z,.int .i64 w] C (strV (qtx (divS z w))):=by
 have hb:9000000000000000000<BP ^ 200:=by decide +kernel
 refine Fn.it kr_ Tryz.func45 10 fun w0=>?_
 refine G.z2 1 0 1 ?_
 refine G.rp 1 fun R hR=>?_
 refine D.ai (of_ref_fn _ (hT.mono mup) z om_ om_) rfl rfl rfl rfl rfl rfl rfl fl_ ?_
 refine D.ac ?_
 refine D.ai (of_ref_fn _ (hT.mono mup) w om_ om_) rfl rfl rfl rfl rfl rfl rfl fl_ ?_
 refine D.ai (fraction_fn _ (hT.mono mup) z w om_ om_ hw0) rfl rfl rfl rfl rfl rfl rfl fl_ ?_
 refine D.q1 1 4 hR ?_
 refine G.rf ?_
 exact ⟨rfl,rfl⟩

theorem qnum_neg (q:Rat):q.num<0 ↔ q<0:=by
 rw [Rat.lt_iff];simp

theorem right_txt {z:Int}(h:(decS z.natAbs).length<=200):bj (txt z)=true:=by
 refine rightI_iff.2 ?_
 rw [bU]
 refine ⟨okD_can.2 ⟨(aO _).1,h⟩,fun hz=>?_⟩
 have h1:=of_decide_eq_true hz
 show 0<decV (decS z.natAbs)
 rw [(aO _).2]
 omega
theorem decZ_txt (z:Int):decZ (txt z)=z:=by
 unfold decZ
 rw [bU]
 show sgZ (decide (z<0)) (decV (decS z.natAbs))=z
 rw [(aO _).2]
 unfold sgZ
 by_cases h:z<0
 ·rw [decide_eq_true h,if_pos rfl];omega
 ·rw [decide_eq_false h,if_neg (by decide)];omega
theorem ba {q:Rat}(h:QB 22 q):aV (qtx q)=true:=by
 have h1:(decS q.num.natAbs).length<=200:=by have:=a8 h.1 (by decide);omega
 have h2:(decS q.den).length<=200:=by have:=a8 h.2 (by decide);omega
 unfold aV
 rw [cut1_qtx]
 show (bj (txt q.num) && bj ((denS q.den).getD [49]) && restOk (decZ (txt q.num)) (denS q.den))=true
 rw [den_get,decZ_txt,right_txt h1,<- bM,right_txt (by rw [Int.natAbs_natCast];exact h2),Bool.true_and,Bool.true_and]
 by_cases hd:q.den=1
 ·rw [dens_one hd];rfl
 ·rw [dI hd]
  unfold restOk
  show (decide (1<decZ (decS q.den)) && !(q.num == 0) && (Nat.gcd q.num.natAbs (decZ (decS q.den)).natAbs == 1))=true
  have hz:decZ (decS q.den)=((q.den:Nat):Int):=by rw [<- bM,decZ_txt]
  have hp:=ep q
  rw [hz,decide_eq_true om_,Int.natAbs_natCast,show Nat.gcd q.num.natAbs q.den=1 from q.reduced]
  have hn:q.num≠0:=by
   intro e
   have h3:=q.reduced
   rw [e] at h3
   have h4:Nat.gcd 0 q.den=1:=h3
   rw [Nat.gcd_zero_left] at h4
   exact hd h4
  simp [hn]

theorem chk_ok {q:Rat}(h:QB 22 q):chkZ (aV (qtx q))=0:=by rw [ba h];rfl
abbrev Pt:=Rat × Rat
def encP (p:Pt):List Value:=[strV (qtx p.1),strV (qtx p.2)]
def ptV (p:Pt):Value:=.agg ⟨encP p⟩
def QP (k:Nat)(p:Pt):Prop:=QB k p.1/\QB k p.2
def bB (a b c:Pt):Rat:=(b.1-a.1)*(c.2-a.2)-(b.2-a.2)*(c.1-a.1)
theorem ee (b:Bool):chkZ b=0/\b=true∨chkZ b=2/\b=false:=by cases b <;> simp [chkZ]
def encS1 (s:Str):List Value:=[strV s]
theorem numbers_fn (C:Mem)(hT:Tabs C)(v:Value)(l:List Str)(hv:Sl C 1 v (l.map encS1))(hl:∀ s∈l,s.length<=9223372036854775807):Gives cx.P 85 [v] C (.int .i64 (chkZ (l.all aV))):=by
 obtain ⟨A0,c0,rfl,hc1,hc2,_⟩:=id hv
 have hmx:maxLen<=9223372036854775807:=by simp [maxLen]
 simp only [List.length_map] at hv hc1 ⊢
 refine Fn.it kr_ Tryz.func85 18 fun w0=>?_
 refine G.z1 1 0 ?_
 refine G.z3 3 6 7 8 ?_
 refine G.loop (fun fr C' L' μ=>∃ (i:Nat),(i<=l.length/\(l.take i).all aV=true)/\fr=[(6,[],.slice A0 l.length c0),(7,[],.int .i64 l.length),(8,[],.int .i64 i)]/\L'=[]/\μ=l.length-i) (h_3 6 7 8) ⟨0,⟨Nat.zero_le _,by simp⟩,rfl,rfl,rfl⟩ (fun fr C0' L0' m hle0 hI=>?_)
 obtain ⟨i,⟨hi,hall⟩,rfl,rfl,rfl⟩:=hI
 refine G.z4 1 6 7 8 9 ?_
 refine G.cd (fun h9=>?_) fun h9=>?_
 ·have hil:i<l.length:=by simpa using h9
  obtain ⟨s,hs⟩:∃ s,l[i]?=some s:=⟨l[i],List.getElem?_eq_getElem hil⟩
  refine G.rg fun R hR=>?_
  refine D.al (hv.mono mup) rfl rfl rfl rfl rfl rfl rfl rfl rfl rfl om_ (by rw [List.getElem?_map,hs];rfl:(l.map encS1)[i]?=some (encS1 s)) fl_ (fun p10 hp10=>?_)
  refine D.aa hp10 ?_
  refine D.q4 1 4 6 7 8 hR ?_
  refine G.rp 1 fun R hR=>?_
  refine D.af (cL _ (hT.mono mup) s (hl s (List.mem_of_getElem? hs))) ?_
  refine D.q4 1 5 6 7 8 hR ?_
  refine G.z5 2 5 6 7 8 15 ?_
  refine G.cd (fun h15=>?_) fun h15=>?_
  ·have hno:aV s=false:=by
    rcases ee (aV s) with ⟨h1,h2⟩ | ⟨h1,h2⟩
    ·rw [h1] at h15;exact absurd h15 (by decide)
    ·exact h2
   refine G.z1 2 2 ?_
   refine G.rf ?_
   refine ⟨?_,rfl⟩
   rw [hno,show l.all aV=false from List.all_eq_false.2 ⟨s,List.mem_of_getElem? hs,by rw [hno];decide⟩]
  ·have hyes:aV s=true:=by
    rcases ee (aV s) with ⟨h1,h2⟩ | ⟨h1,h2⟩
    ·exact h2
    ·rw [h1] at h15;exact absurd h15 (by decide)
   refine G.rg fun R hR=>?_
   refine D.am _ ?_
   refine D.q3 1 6 7 8 hR ?_
   refine G.ax (m':=l.length-(i+1)) om_ hle0 (h_3 6 7 8) ⟨i+1,⟨by omega,by rw [List.take_add_one,hs,List.all_append,hall];simp [hyes]⟩,rfl,rfl,rfl⟩
 ·have hil:i=l.length:=by
   have:¬ i<l.length:=by simpa using h9
   omega
  refine G.z1 1 2 ?_
  refine G.rf ?_
  refine ⟨?_,rfl⟩
  rw [hil,List.take_length] at hall
  rw [hall]
  rfl
theorem two_le {s t:Str}{n:Nat}(hs:s.length<=n)(ht:t.length<=n):∀ x∈[s,t],x.length<=n:=by simp [hs,ht]
theorem three_le {s t u:Str}{n:Nat}(hs:s.length<=n)(ht:t.length<=n)(hu:u.length<=n):∀ x∈[s,t,u],x.length<=n:=by simp [hs,ht,hu]
theorem eJ (C:Mem)(hT:Tabs C)(s t:Str)(hs:s.length<=9223372036854775807)(ht:t.length<=9223372036854775807):Gives cx.P 49 [.agg ⟨[strV s,strV t]⟩] C (.int .i64 (chkZ (aV s && aV t))):=by
 refine Fn.it kr_ Tryz.func49 9 fun w0=>?_
 refine G.rg fun R hR=>?_
 refine D.aB (fun b1=>?_)
 refine D.q1 1 1 hR ?_
 refine G.rp 1 fun R hR=>?_
 refine D.ae (.head _) ?_
 refine D.ac ?_
 refine D.ae (.head _) ?_
 refine D.ah [encS1 s,encS1 t] (fun p7 C7 hle7 hs7=>?_)
 refine D.af (numbers_fn _ (hT.mono mup) _ [s,t] (hs7.mono mup) (two_le hs ht)) ?_
 refine D.q1 1 2 hR ?_
 refine G.rf ?_
 refine ⟨?_,rfl⟩
 simp
theorem checkVector_fn (C:Mem)(hT:Tabs C)(s t u:Str)(hs:s.length<=9223372036854775807)(ht:t.length<=9223372036854775807)(hu:u.length<=9223372036854775807):Gives cx.P 98 [.agg ⟨[strV s,strV t,strV u]⟩] C (.int .i64 (chkZ (aV s && aV t && aV u))):=by
 refine Fn.it kr_ Tryz.func98 11 fun w0=>?_
 refine G.rg fun R hR=>?_
 refine D.aB (fun b1=>?_)
 refine D.q1 1 1 hR ?_
 refine G.rp 1 fun R hR=>?_
 refine D.ae (.head _) ?_
 refine D.ac ?_
 refine D.ae (.head _) ?_
 refine D.ac ?_
 refine D.ae (.head _) ?_
 refine D.ah [encS1 s,encS1 t,encS1 u] (fun p9 C9 hle9 hs9=>?_)
 refine D.af (numbers_fn _ (hT.mono mup) _ [s,t,u] (hs9.mono mup) (three_le hs ht hu)) ?_
 refine D.q1 1 2 hR ?_
 refine G.rf ?_
 refine ⟨?_,rfl⟩
 simp [Bool.and_assoc]
theorem eK (C:Mem)(hT:Tabs C)(a b c:Pt)(k:Nat)(hk0:0<k)(hk:k<=1000)(ha:QP k a)(hb:QP k b)(hc:QP k c):Gives cx.P 86 [ptV a,ptV b,ptV c] C (strV (qtx (bB a b c))):=by
 have h1:=QB_sub hb.1 ha.1
 have h2:=QB_sub hc.2 ha.2
 have h3:=QB_sub hb.2 ha.2
 have h4:=QB_sub hc.1 ha.1
 refine Fn.it kr_ Tryz.func86 32 fun w0=>?_
 refine G.rg fun R hR=>?_
 refine D.aB (fun b3=>?_)
 refine D.aB (fun b4=>?_)
 refine D.aB (fun b5=>?_)
 refine D.q3 1 3 4 5 hR ?_
 refine G.aH [0,1,2,3,4,5,6,7,8,9,10,11] [(4,1),(9,1),(10,1)] rfl kr_ (fun R hB hR=>?_)
 refine D.ac ?_
 refine D.ae (.tail _ (.head _)) ?_
 refine D.ac ?_
 refine D.ae (.tail _ (.tail _ (.head _))) ?_
 refine D.aC (fun _=>(bR _ (hT.mono mup) b.1 a.1 k hk0 om_ hb.1 ha.1)) rfl rfl rfl rfl rfl rfl rfl rfl rfl ?_
 refine D.ac ?_
 refine D.ae (.head _) ?_
 refine D.ac ?_
 refine D.ae (.tail _ (.tail _ (.head _))) ?_
 refine D.aC (fun _=>(bR _ (hT.mono mup) c.2 a.2 k hk0 om_ hc.2 ha.2)) rfl rfl rfl rfl rfl rfl rfl rfl rfl ?_
 refine D.aC (fun _=>(cS _ (hT.mono mup) (b.1-a.1) (c.2-a.2) (k+k+1) om_ om_ h1 h2)) rfl rfl rfl rfl rfl rfl rfl rfl rfl ?_
 refine D.q4 1 3 4 5 7 hR ?_
 refine G.aH [0,1,2,3,4,5,6,7,8,9,10,11,12,13] [(5,1),(10,1),(11,1),(12,1)] rfl kr_ (fun R hB hR=>?_)
 refine D.ps 2 ?_
 refine D.ae (.tail _ (.head _)) ?_
 refine D.ac ?_
 refine D.ae (.tail _ (.tail _ (.head _))) ?_
 refine D.aC (fun _=>(bR _ (hT.mono mup) b.2 a.2 k hk0 om_ hb.2 ha.2)) rfl rfl rfl rfl rfl rfl rfl rfl rfl ?_
 refine D.ac ?_
 refine D.ae (.head _) ?_
 refine D.ac ?_
 refine D.ae (.tail _ (.tail _ (.head _))) ?_
 refine D.aC (fun _=>(bR _ (hT.mono mup) c.1 a.1 k hk0 om_ hc.1 ha.1)) rfl rfl rfl rfl rfl rfl rfl rfl rfl ?_
 refine D.aC (fun _=>(cS _ (hT.mono mup) (b.2-a.2) (c.1-a.1) (k+k+1) om_ om_ h3 h4)) rfl rfl rfl rfl rfl rfl rfl rfl rfl ?_
 refine D.aC (fun _=>(bR _ (hT.mono mup) ((b.1-a.1)*(c.2-a.2)) ((b.2-a.2)*(c.1-a.1)) (k+k+1+(k+k+1)) om_ om_ (QB_mul h1 h2) (QB_mul h3 h4))) rfl rfl rfl rfl rfl rfl rfl rfl rfl ?_
 refine D.q1 1 6 hR ?_
 refine G.rf ?_
 exact ⟨rfl,rfl⟩
theorem QB_area {a b c:Pt}{k:Nat}(ha:QP k a)(hb:QP k b)(hc:QP k c):QB (8*k+5) (bB a b c):=by
 have h:=QB_sub (QB_mul (QB_sub hb.1 ha.1) (QB_sub hc.2 ha.2)) (QB_mul (QB_sub hb.2 ha.2) (QB_sub hc.1 ha.1))
 exact h.le om_
theorem turn_fn (C:Mem)(hT:Tabs C)(a b c:Pt)(k:Nat)(hk0:0<k)(hk:k<=1000)(ha:QP k a)(hb:QP k b)(hc:QP k c):Gives cx.P 50 [ptV a,ptV b,ptV c] C (.int .i64 (sgnZ (bB a b c).num)):=by
 refine Fn.it kr_ Tryz.func50 12 fun w0=>?_
 refine G.rg fun R hR=>?_
 refine D.aB (fun b3=>?_)
 refine D.aB (fun b4=>?_)
 refine D.aB (fun b5=>?_)
 refine D.q3 1 3 4 5 hR ?_
 refine G.rg fun R hR=>?_
 refine D.ae (.tail _ (.tail _ (.head _))) ?_
 refine D.ae (.tail _ (.head _)) ?_
 refine D.ae (.head _) ?_
 refine D.af (eK _ (hT.mono mup) a b c k hk0 hk ha hb hc) ?_
 refine D.ai (rsign_fn _ (bB a b c) (by have:=bk (QB_area ha hb hc) om_;omega)) rfl rfl rfl rfl rfl rfl rfl fl_ ?_
 refine D.q1 1 6 hR ?_
 refine G.rf ?_
 exact ⟨rfl,rfl⟩
theorem right_fn (C:Mem)(hT:Tabs C)(q:Rat)(hq:QB 22 q):Gives cx.P 138 [strV (qtx q)] C (.tuple #[strV (qtx q),.int .i64 0]):=by
 refine Fn.it kr_ Tryz.func138 8 fun w0=>?_
 refine G.z1 2 0 ?_
 refine G.rp 1 fun R hR=>?_
 refine D.ai (cL _ (hT.mono mup) _ (by have:=bk hq (by decide);omega)) rfl rfl rfl rfl rfl rfl rfl fl_ ?_
 refine D.q2 1 0 6 hR ?_
 refine G.cd (fun h6=>?_) fun h6=>?_
 ·exfalso
  rw [chk_ok hq] at h6
  exact absurd h6 (by decide)
 ·refine G.z2 3 2 3 ?_
  refine G.az (G.dropAll (G.aK rfl rfl rfl ?_))
  exact ⟨rfl,rfl⟩

abbrev Tri:=Nat × Nat × Nat
def encT (t:Tri):List Value:=[.int .i64 (t.1:Nat),.int .i64 (t.2.1:Nat),.int .i64 (t.2.2:Nat)]
def cornV (a b c:Pt):Value:=.agg ⟨encP a++encP b++encP c⟩
theorem corners_fn (C:Mem)(v1 v2:Value)(pts:List Pt)(tris:List Tri)(i:Nat)(t:Tri)(a b c:Pt)(h1:Sl C 2 v1 (pts.map encP))(h2:Sl C 3 v2 (tris.map encT))(ht:tris[i]?=some t)(ha:pts[t.1]?=some a)(hb:pts[t.2.1]?=some b)(hc:pts[t.2.2]?=some c) :
  Gives cx.P 90 [.agg ⟨[v1,v2]⟩,.int .i64 i] C (cornV a b c):=by
 obtain ⟨A1,c1,rfl,hq1,hq2,_⟩:=id h1
 obtain ⟨A2,c2,rfl,hq3,hq4,_⟩:=id h2
 have hmx:maxLen<=9223372036854775807:=by simp [maxLen]
 simp only [List.length_map] at h1 h2 hq1 hq3 ⊢
 have hil:=(List.getElem?_eq_some_iff.1 ht).1
 have hal:=(List.getElem?_eq_some_iff.1 ha).1
 have hbl:=(List.getElem?_eq_some_iff.1 hb).1
 have hcl:=(List.getElem?_eq_some_iff.1 hc).1
 refine Fn.it kr_ Tryz.func90 30 fun w0=>?_
 refine G.rg fun R hR=>?_
 refine D.aB (fun b2=>?_)
 refine D.aj (fun b4=>?_)
 refine D.e3 1 2 4 hR ?_
 refine G.rp 1 fun R hR=>?_
 refine D.ae (.tail _ (.head _)) ?_
 refine D.ac ?_
 refine D.al (h2.mono mup) rfl rfl rfl rfl rfl rfl rfl rfl rfl rfl om_ (by rw [List.getElem?_map,ht];rfl:(tris.map encT)[i]?=some (encT t)) fl_ (fun p9 hp9=>?_)
 refine D.aa hp9 ?_
 refine D.aj (fun b5=>?_)
 refine D.ag (j:=0) ?_
 refine D.e3 2 4 5 hR ?_
 refine G.aH [0,1,2,3,4,5,6,7,8,9,10,11,12,13,14,15,16,17,18,19] [] rfl kr_ (fun R hB hR=>?_)
 refine D.ac ?_
 refine D.ae (.tail _ (.tail _ (.head _))) ?_
 refine D.ar (0) rfl rfl rfl rfl rfl rfl rfl rfl rfl (fun _=>⟨by decide,by decide,rfl⟩) rfl rfl ?_
 refine D.ae (.head _) ?_
 refine D.al (h1.mono mup) rfl rfl rfl rfl rfl rfl rfl rfl rfl rfl om_ (by rw [List.getElem?_map,ha];rfl:(pts.map encP)[t.1]?=some (encP a)) fl_ (fun p15 hp15=>?_)
 refine D.aa hp15 ?_
 refine D.ac ?_
 refine D.ae (.tail _ (.tail _ (.head _))) ?_
 refine D.ar (1) rfl rfl rfl rfl rfl rfl rfl rfl rfl (fun _=>⟨by decide,by decide,rfl⟩) rfl rfl ?_
 refine D.ae (.head _) ?_
 refine D.al (h1.mono mup) rfl rfl rfl rfl rfl rfl rfl rfl rfl rfl om_ (by rw [List.getElem?_map,hb];rfl:(pts.map encP)[t.2.1]?=some (encP b)) fl_ (fun p21 hp21=>?_)
 refine D.aa hp21 ?_
 refine D.ac ?_
 refine D.ae (.tail _ (.tail _ (.head _))) ?_
 refine D.ar (2) rfl rfl rfl rfl rfl rfl rfl rfl rfl (fun _=>⟨by decide,by decide,rfl⟩) rfl rfl ?_
 refine D.ae (.head _) ?_
 refine D.al (h1.mono mup) rfl rfl rfl rfl rfl rfl rfl rfl rfl rfl om_ (by rw [List.getElem?_map,hc];rfl:(pts.map encP)[t.2.2]?=some (encP c)) fl_ (fun p27 hp27=>?_)
 refine D.aa hp27 ?_
 refine D.ak (encP a++encP b++encP c) ?_
 refine D.ag (j:=1) ?_
 refine D.e1 4 hR ?_
 refine G.az (G.di (.head _) rfl rfl rfl rfl ?_)
 exact ⟨rfl,rfl⟩
theorem inside_fn (C:Mem)(hT:Tabs C)(a b c p:Pt)(k:Nat)(hk0:0<k)(hk:k<=1000)(ha:QP k a)(hb:QP k b)(hc:QP k c)(hp:QP k p) :
  Gives cx.P 128 [cornV a b c,ptV p] C (.bool (decide (0<=bB a b p) && decide (0<=bB b c p) && decide (0<=bB c a p))):=by
 refine Fn.it kr_ Tryz.func128 30 fun w0=>?_
 refine G.rg fun R hR=>?_
 refine D.aB (fun b2=>?_)
 refine D.aB (fun b3=>?_)
 refine D.q2 1 2 3 hR ?_
 refine G.rg fun R hR=>?_
 refine D.ar (0) rfl rfl rfl rfl rfl rfl rfl rfl rfl (fun _=>⟨by decide,by decide,rfl⟩) rfl rfl ?_
 refine D.ae (.tail _ (.head _)) ?_
 refine D.ar (2) rfl rfl rfl rfl rfl rfl rfl rfl rfl (fun _=>⟨by decide,by decide,rfl⟩) rfl rfl ?_
 refine D.ae (.tail _ (.head _)) ?_
 refine D.ae (.head _) ?_
 refine D.af (turn_fn _ (hT.mono mup) a b p k hk0 hk ha hb hp) ?_
 refine D.ps 2 ?_
 refine D.ar (2) rfl rfl rfl rfl rfl rfl rfl rfl rfl (fun _=>⟨by decide,by decide,rfl⟩) rfl rfl ?_
 refine D.ae (.tail _ (.head _)) ?_
 refine D.ar (4) rfl rfl rfl rfl rfl rfl rfl rfl rfl (fun _=>⟨by decide,by decide,rfl⟩) rfl rfl ?_
 refine D.ae (.tail _ (.head _)) ?_
 refine D.ae (.head _) ?_
 refine D.aW (fun _=>(turn_fn _ (hT.mono mup) b c p k hk0 hk hb hc hp)) ?_
 refine D.ac ?_
 refine D.aq ?_
 refine D.ac ?_
 refine D.ar (4) rfl rfl rfl rfl rfl rfl rfl rfl rfl (fun _=>⟨by decide,by decide,rfl⟩) rfl rfl ?_
 refine D.ae (.tail _ (.head _)) ?_
 refine D.ar (0) rfl rfl rfl rfl rfl rfl rfl rfl rfl (fun _=>⟨by decide,by decide,rfl⟩) rfl rfl ?_
 refine D.ae (.tail _ (.head _)) ?_
 refine D.ae (.head _) ?_
 refine D.aW (fun _=>(turn_fn _ (hT.mono mup) c a p k hk0 hk hc ha hp)) ?_
 refine D.ac ?_
 refine D.aq ?_
 refine D.q1 1 4 hR ?_
 refine G.rf ?_
 refine ⟨?_,rfl⟩
 have hs:∀ q:Rat,decide (sgnZ q.num ≥ 0)=decide (0<=q):=fun q=>by
  rw [decide_eq_decide,<- Rat.num_nonneg]
  rcases cH q.num with h | h | h <;> omega
 rw [<- hs,<- hs,<- hs]
open Go Go.Jog Go.RowKit Go.Shelf
attribute [local go_sem] Oper.semAt_some

def sideW (zs:Nat->Int)(k:Nat):Value:=.agg #[.int .i64 (zs k),.int .i64 (zs ((k+1) % 3))]
set_option maxRecDepth 100000 in
theorem sides_in (l Bs:Nat)(zs:Nat->Int)(J:Nat->World->Prop)
  (hD:∀ k W,J k W->J k W.drew)
  (hJ:∀ k W,J k W->∀ j,j<3->W.cell? ⟨Bs,j,none⟩=some (.int .i64 (zs j)))
  (hY:∀ k W,J k W->k<3->YieldAt Fence.wide 1 Tryz.prog l #[.int .i64 (k:Nat),sideW zs k] W fun e W'=>e=.returned (.bool true)/\J (k+1) W')
  (W:World) (h0:J 0 W) :
  CallsIn Fence.wide 2 Tryz.prog 167 #[.func (.yield l) #[] #[],.pointer (some ⟨Bs,0,none⟩)] W fun e W'=>(∃ v,e=.returned v)/\J 3 W':=by
 refine callsIn_of_wp Tryz.func167 rfl trivial ?_ rfl
 simp only [Tryz.ntmps167,List.size_toArray,List.length_cons,List.length_nil,Nat.reduceAdd,Nat.reduceSub,Array.replicate_succ,Array.replicate_zero,List.push_toArray,List.append_toArray,List.nil_append,List.cons_append]
 gi_wp2
 gi_loopw [4] (fun i wr=>∃ k:Nat,k<=3/\i=.int .i64 k/\J k wr) (fun i _=>(3-intOf i).toNat)
 case atStart=>exact ⟨0,by omega,rfl,h0⟩
 case round =>
  obtain ⟨k,hk,rfl,hJs⟩:=hrel
  by_cases hlt:k<3
  ·have hJd:=hD k wr hJs
   have hcd:=hJ k _ hJd
   obtain ⟨fn,tmps,assign,body,hy,hR⟩:=hY k _ hJd hlt
   rcases (by omega:k=0∨k=1∨k=2) with rfl | rfl | rfl
   ·have hc0:=hcd 0 om_
    have hc1:=hcd 1 om_
    have hy2:Sem.run Tryz.prog (Instr.yield l #[Value.int .i64 0,Value.agg #[.int .i64 (zs 0),.int .i64 (zs 1)]]) wr.drew=.ok (.round l fn tmps assign body) wr.drew:=hy
    clear hy
    gi_wp2
    gi_region_with (refine hR.mono ?_;rintro e W3 ⟨rfl,hJ3⟩)
    all_goals
     gi_wp2
     go_roundw
     case rel=>exact ⟨1,by omega,rfl,hJ3⟩
     case measure=>simp [intOf]
   ·have hc0:=hcd 1 om_
    have hc1:=hcd 2 om_
    have hy2:Sem.run Tryz.prog (Instr.yield l #[Value.int .i64 1,Value.agg #[.int .i64 (zs 1),.int .i64 (zs 2)]]) wr.drew=.ok (.round l fn tmps assign body) wr.drew:=hy
    clear hy
    gi_wp2
    gi_region_with (refine hR.mono ?_;rintro e W3 ⟨rfl,hJ3⟩)
    all_goals
     gi_wp2
     go_roundw
     case rel=>exact ⟨2,by omega,rfl,hJ3⟩
     case measure=>simp [intOf]
   ·have hc0:=hcd 2 om_
    have hc1:=hcd 0 om_
    have hy2:Sem.run Tryz.prog (Instr.yield l #[Value.int .i64 2,Value.agg #[.int .i64 (zs 2),.int .i64 (zs 0)]]) wr.drew=.ok (.round l fn tmps assign body) wr.drew:=hy
    clear hy
    gi_wp2
    gi_region_with (refine hR.mono ?_;rintro e W3 ⟨rfl,hJ3⟩)
    all_goals
     gi_wp2
     go_roundw
     case rel=>exact ⟨3,by omega,rfl,hJ3⟩
     case measure=>simp [intOf]
  ·obtain rfl:k=3:=by omega
   gi_wp2
   go_end0
   exact ⟨⟨_,rfl⟩,hJs⟩

def triZ (t:Tri)(j:Nat):Int:=if j=0 then (t.1:Nat) else if j=1 then (t.2.1:Nat) else (t.2.2:Nat)
def sidesV (t:Tri):List (Value × Value):=(List.range 3).map fun k=>(.int .i64 (k:Nat),sideW (triZ t) k)
theorem sidesV_len (t:Tri):(sidesV t).length=3:=rfl
theorem sidesV_at {t:Tri}{k:Nat}(h:k<3):(sidesV t)[k]?=some (.int .i64 (k:Nat),sideW (triZ t) k):=by
 simp [sidesV,h]
theorem sides_iter (C:Mem)(b ty:Nat)(t:Tri)(hb:C b=some (.cells ⟨encT t⟩ ty (0,0))) :
  Iter Tryz.prog 167 #[.pointer (some ⟨b,0,none⟩)] C (sidesV t):=by
 intro l J W hC hD hY h0
 refine sides_in l b (triZ t) J hD (fun k W hj j hj3=>?_) (fun k W hj hk=>hY k _ W hj (sidesV_at hk)) W h0
 have h1:=hC k W hj b _ hb
 rcases (by omega:j=0∨j=1∨j=2) with rfl | rfl | rfl <;> simp [World.cell?,h1,encT,triZ]
theorem sides_fn (C:Mem)(t:Tri):Pur cx.P 130 [.agg ⟨encT t⟩] C fun r C'=>∃ b,r=.func (.func 167) #[] #[.pointer (some ⟨b,0,none⟩)]/\C' b=some (.cells ⟨encT t⟩ 109 (0,0)):=by
 refine Fn.it kr_ Tryz.func130 4 fun w0=>?_
 refine G.rg fun R hR=>?_
 refine D.aB (fun b1=>?_)
 refine D.q1 1 1 hR ?_
 refine G.z1 2 2 ?_
 refine G.freeze 0 rfl (fun Cf hf hb1=>?_)
 refine G.rf ?_
 exact ⟨rfl,_,rfl,hb1⟩
end Go.Proofs.YtllimhhofkcgpaaGreatDoor
namespace Go.Jog
open Go

end Go.Jog
namespace Go.Jog
open Go

end Go.Jog
namespace Go.Jog
open Go Go.MapKept

section
variable {cx:Cx} {n:Nat} {ds:List (Option Nat)} {R:Rg n ds} {its:List It} {fr:Fr} {C:Mem} {L:List Ent} {i k d:Nat} {o:Oper} {g:GL} {v:Value}
variable {kd:TypeDesc} {κ:Type} [DecidableEq κ] (K:KeyT kd κ)
theorem D.insert {t kt et j b:Nat}{x y z:Operand}{m:List (κ × Value)}{key:κ}{ti:TI}(hk:k=3)(hg:gOn ds fr o.guard=true)(hd:o.dst=none)(hop:o.op=.insert t x y z)
  (hx:ev fr [] x=some (.map (some b))) (hy:ev fr [] y=some (K.enc key)) (hz:ev fr [] z=some v) (hm:L[j]?=some (.obj b (aD K.enc m)))
  (ht:cx.T.get t=some ti) (htk:ti.k=.map kt et) (hkt:cx.P.underlying kt=some kd)
  (h:D cx R its fr C (.obj b (aD K.enc (mset m key v))::L.eraseIdx j)):D cx R ((i,k,o)::its) fr C L :=
 D.eff0 (S:=fun C' L'=>C'=C/\L'=.obj b (aD K.enc (mset m key v))::L.eraseIdx j) (by subst hk;rfl) hg (fun a hs w _ hw=>by
  have hw':=St.perm hw (aN hm)
  have hb:w.heap[b]?=some (aD K.enc m):=hw'.sep.e _ (List.mem_cons_self ..)
  have hu:=dN cx.hT ht htk
  have hf:=dq K key m 0 0
  have h1:(getObj b).run cx.P w=.ok (.map ⟨aR K.enc m 0⟩ m.length) w:=Go.MapKept.run_getObj_map hb
  have h2:=run_findKey (P:=cx.P) (w:=w) hkt hf
  have hrun:(Instr.mapUpdate t (.map (some b)) (K.enc key) v).run cx.P w=.ok () { w with heap:=w.heap.setIfInBounds b (aD K.enc (mset m key v)) }:=by
   unfold Instr.mapUpdate
   simp only [Sem.run_bind,run_underlying hu,Result.andThen_ok,h1,run_checkKey hkt (K.isKey key)]
   rw [h2]
   cases hi:midx m key with
   | none =>
    obtain ⟨h3,h4⟩:=mapEs_none K (v:=v) (i:=0) hi
    simp only [Option.map_none,Result.andThen_ok]
    rw [Go.MapKept.run_setObj_map (P:=cx.P) _ hb]
    congr 2
    simp only [aD,h4,<- h3,Nat.zero_add]
    congr 2
    apply Array.ext'
    simp
   | some p =>
    obtain ⟨q,u⟩:=p
    obtain ⟨h3,h4,h5⟩:=mapEs_some K (v:=v) (i:=0) hi
    have hq:(((⟨aR K.enc m 0⟩:Array MapEntry)[0+q]?).map (·.key)).getD (K.enc key)=K.enc key:=by
     rw [Nat.zero_add]
     show (((aR K.enc m 0).toArray[q]?).map (·.key)).getD (K.enc key)=K.enc key
     rw [List.getElem?_toArray,h5];rfl
    simp only [Option.map_some,Result.andThen_ok,Sem.run_bind]
    rw [hq,run_keyThatStays (d:=kd) (K.isKey key)]
    simp only [Result.andThen_ok]
    rw [Go.MapKept.run_setObj_map (P:=cx.P) _ hb]
    congr 2
    simp only [aD,h4,<- h3,Nat.zero_add]
    congr 2
    apply Array.ext'
    simp
  have hex:(execOp a.eval o).run cx.P w=.ok .skip { w with heap:=w.heap.setIfInBounds b (aD K.enc (mset m key v)) }:=by
   have e1:execOp a.eval o=(do Instr.mapUpdate t (a.eval x) (a.eval y) (a.eval z);Pure.pure .skip:Sem Next):=by unfold execOp;rw [hop]
   rw [e1,hs _ _ hx,hs _ _ hy,hs _ _ hz]
   simp only [Sem.run_bind,hrun,Result.andThen_ok,Sem.run_pure]
  unfold Oper.wp
  rw [hex]
  have hset:=heap_set (o':=aD K.enc (mset m key v)) hb
  refine ⟨C,.obj b (aD K.enc (mset m key v))::L.eraseIdx j, ?_,Mem.le.refl _,fun h2=>by omega,St.put hw' hset.1 hset.2 (by simp) rfl rfl rfl (Nat.le_refl _),rfl,rfl⟩
  rw [hd];rfl)
  (fun C' L' _ ⟨e1,e2⟩=>by subst e1;subst e2;exact h)
end
end Go.Jog
namespace Go.Jog
open Go Go.MapKept

def aM (bm n:Nat)(seen:List Nat):Obj:=.mapIter (some bm) n seen.toArray n

theorem mapEs_get {κ:Type}(enc:κ->Value):∀ (m:List (κ × Value))(i j:Nat),(aR enc m i)[j]?=(m[j]?).map fun p=>⟨enc p.1,p.2,i+j⟩
 | [],i,j=>by simp [aR]
 | (k,v)::m,i,0=>by simp [aR]
 | (k,v)::m,i,j+1=>by
  simp only [aR,List.getElem?_cons_succ,mapEs_get enc m (i+1) j]
  cases m[j]? with
  | none=>rfl
  | some p=>simp;omega
theorem mapEs_mem {κ:Type}{enc:κ->Value}{m:List (κ × Value)}{e:MapEntry}(h:e∈aR enc m 0):∃ p,m[e.born]?=some p/\e.key=enc p.1/\e.val=p.2:=by
 obtain ⟨j,hj⟩:=List.getElem?_of_mem h
 rw [mapEs_get] at hj
 cases hp:m[j]? with
 | none=>rw [hp] at hj;cases hj
 | some p =>
  rw [hp] at hj
  cases hj
  exact ⟨p,by simpa using hp,rfl,rfl⟩
theorem mapEs_nodup {κ:Type}(enc:κ->Value)(m:List (κ × Value)):((aR enc m 0).map (·.born)).Nodup:=by
 have:∀ (m:List (κ × Value))(i:Nat),(aR enc m i).map (·.born)=List.range' i m.length:=by
  intro m
  induction m with
  | nil=>intro i;rfl
  | cons p m ih=>intro i;simp only [aR,List.map_cons,ih,List.length_cons,List.range'_succ]
 rw [this]
 exact List.nodup_range'

section
variable {cx:Cx} {n:Nat} {ds:List (Option Nat)} {R:Rg n ds} {its:List It} {fr:Fr} {C:Mem} {L:List Ent} {i k d:Nat} {o:Oper} {g:GL} {v:Value}
variable {kd:TypeDesc} {κ:Type} [DecidableEq κ] (K:KeyT kd κ)

theorem D.rangeMap {t kt et bm:Nat}{x:Operand}{m:List (κ × Value)}{ti:TI}(hc:C bm=some (aD K.enc m))(hk:Nat.ble k 1=false)(hd:o.dst=some d)(hg:gOn ds fr o.guard=true)(hop:o.op=.range t x)(hx:ev fr [] x=some (.map (some bm)))
  (ht:cx.T.get t=some ti) (htk:ti.k=.map kt et) (hp:∀ v,aG n ds ((d,[],v)::fr) d=true)
  (h:∀ b,D cx R its ((d,[],.pointer (some ⟨b,0,none⟩))::fr) C (.obj b (aM bm m.length [])::L)):D cx R ((i,k,o)::its) fr C L :=
 D.eg (S:=fun v C' L'=>C'=C/\∃ b,v=.pointer (some ⟨b,0,none⟩)/\L'=.obj b (aM bm m.length [])::L) hk hd hg hp (fun a hs w _ hw=>by
  have hb:w.heap[bm]?=some (aD K.enc m):=hw.sep.c _ _ hc
  have hu:=dN cx.hT ht htk
  have hex:(execOp a.eval o).run cx.P w=.ok (.value (.pointer (some ⟨w.heap.size,0,none⟩))) (w.alloc (aM bm m.length [])):=by
   have e1:execOp a.eval o=(do Pure.pure (.value (<- Instr.range t (a.eval x))):Sem Next):=by unfold execOp;rw [hop]
   rw [e1,hs _ _ hx]
   simp only [Sem.run_bind,run_range_map w t kt et bm _ _ hu hb,Result.andThen_ok,Sem.run_pure]
   rfl
  unfold Oper.wp
  rw [hex]
  exact ⟨_,C,.obj w.heap.size (aM bm m.length [])::L,rfl,Mem.le.refl _,fun _ x hx=>by simp [hx],St.alloc hw _,rfl,_,rfl,rfl⟩)
  (fun v C' L' _ ⟨e1,b,e2,e3⟩=>by subst e1;subst e2;subst e3;exact h b)

theorem mem_leftOf {κ:Type}{enc:κ->Value}{m:List (κ × Value)}{seen:List Nat}{j:Nat}{p:κ × Value}(hj:m[j]?=some p)(hs:j ∉ seen):(⟨enc p.1,p.2,j⟩:MapEntry)∈(leftOf (aR enc m 0).toArray seen.toArray).toList:=by
 unfold leftOf
 simp only [Array.toList_filter,List.mem_filter]
 refine ⟨?_, ?_⟩
 ·refine List.mem_of_getElem? (i:=j) ?_
  rw [mapEs_get,hj];simp
 ·simpa using hs

theorem D.nextMap {b q bm:Nat}{x:Operand}{m:List (κ × Value)}{seen:List Nat}(hc:C bm=some (aD K.enc m))(hk:k=3)(hd:o.dst=some d)(hg:gOn ds fr o.guard=true)(hop:o.op=.next x false)(hx:ev fr [] x=some (.pointer (some ⟨b,0,none⟩)))
  (hm:L[q]?=some (.obj b (aM bm m.length seen))) (hp:∀ v,aG n ds ((d,[],v)::fr) d=true)
  (h:∀ (go:Bool)(rest:List Value)(seen':List Nat),(go=false/\seen'=seen/\∀ j,j<m.length->j∈seen)∨(go=true/\∃ j,j<m.length/\j ∉ seen/\seen'=seen++[j]) ->
   D cx R its ((d,[],.tuple ⟨.bool go::rest⟩)::fr) C (.obj b (aM bm m.length seen')::L.eraseIdx q)):D cx R ((i,k,o)::its) fr C L :=
 D.eg (S:=fun v C' L'=>C'=C/\∃ (go:Bool)(rest:List Value)(seen':List Nat),((go=false/\seen'=seen/\∀ j,j<m.length->j∈seen)∨(go=true/\∃ j,j<m.length/\j ∉ seen/\seen'=seen++[j]))/\v=.tuple ⟨.bool go::rest⟩/\L'=.obj b (aM bm m.length seen')::L.eraseIdx q) (by subst hk;rfl) hd hg hp (fun a hs w _ hw=>by
  have hw':=St.perm hw (aN hm)
  have hb:w.heap[b]?=some (aM bm m.length seen):=hw'.sep.e _ (List.mem_cons_self ..)
  have hbm:w.heap[bm]?=some (aD K.enc m):=hw.sep.c _ _ hc
  have e1:execOp a.eval o=(do Pure.pure (.value (<- Instr.next (a.eval x) false 0)):Sem Next):=by unfold execOp;rw [hop];rfl
  have hold:∀ x∈(aR K.enc m 0).toArray.toList,x.born<m.length:=fun x hx=>by
   obtain ⟨p,h1,_⟩:=mapEs_mem (show x∈aR K.enc m 0 by simpa using hx)
   exact (List.getElem?_eq_some_iff.1 h1).1
  have hg1:∀ w:World,w.heap[b]?=some (aM bm m.length seen)->(getObj b).run cx.P w=.ok (aM bm m.length seen) w:=fun w h=>by
   simp only [getObj,Sem.run,h,aM]
  have hrun:(∀ j,j<m.length->j∈seen)/\(Instr.next (.pointer (some ⟨b,0,none⟩)) false 0).run cx.P w=.ok (.tuple #[.bool false]) w ∨
    ∃ (j:Nat)(p:κ × Value)(w1:World),m[j]?=some p/\j ∉ seen/\w1.heap=w.heap/\w1.os=w.os/\w1.tape=w.tape/\w1.output=w.output/\w.drawn<=w1.drawn /\
     (Instr.next (.pointer (some ⟨b,0,none⟩)) false 0).run cx.P w=.ok (.tuple #[.bool true,K.enc p.1,p.2]) { w1 with heap:=w1.heap.setIfInBounds b (aM bm m.length (seen++[j])) }:=by
   have hnx:(Instr.next (.pointer (some ⟨b,0,none⟩)) false 0).run cx.P w=(do
     let candidates:=(if (leftOf (aR K.enc m 0).toArray seen.toArray).isEmpty then #[none] else #[])++(leftOf (aR K.enc m 0).toArray seen.toArray).map some
     match candidates[<- choose (.mapNext candidates.size)]? with
     | some (some e) =>
      setObj b (.mapIter (some bm) m.length (seen.toArray.push e.born) m.length)
      Pure.pure (Value.tuple #[.bool true,e.key,e.val])
     | some none=>Pure.pure (Value.tuple #[.bool false])
     | none => stuck "Next: no such candidate" : Sem Value).run cx.P w := by
    have hmem:∀ x∈(leftOf (aR K.enc m 0).toArray seen.toArray).toList,x.born<m.length:=fun x hx=>hold x (mem_left hx).1
    have f1:(leftOf (aR K.enc m 0).toArray seen.toArray).filter (fun x=>decide (x.born<m.length))=leftOf (aR K.enc m 0).toArray seen.toArray:=Array.filter_eq_self.2 (fun x hx=>by simpa using hmem x (by simpa using hx))
    have f2:(leftOf (aR K.enc m 0).toArray seen.toArray).filter (fun x=>decide (x.born ≥ m.length))=#[]:=by
     rw [Array.filter_eq_empty_iff]
     intro x hx
     have:=hmem x (by simpa using hx)
     simp;omega
    unfold Instr.next
    simp only [Sem.run_bind,hg1 w hb,Result.andThen_ok,aM]
    have hg2:(getObj bm).run cx.P w=.ok (.map (aR K.enc m 0).toArray m.length) w:=Go.MapKept.run_getObj_map hbm
    simp only [Sem.run_bind,hg2,Result.andThen_ok,next_test_false seen.toArray (aR K.enc m 0).toArray m.length m.length hold (Nat.le_refl _),Bool.false_eq_true,if_false]
    unfold leftOf at f1 f2 ⊢
    simp only [f1,f2,Array.append_empty]
    refine congrArg _ (funext fun a=>funext fun w'=>?_)
    congr 1
   rw [hnx]
   have hcorr:∀ e∈(leftOf (aR K.enc m 0).toArray seen.toArray).toList,∃ p,m[e.born]?=some p/\e.born ∉ seen/\e.key=K.enc p.1/\e.val=p.2:=fun e he=>by
    obtain ⟨h1,h2⟩:=mem_left he
    obtain ⟨p,h3,h4,h5⟩:=mapEs_mem (show e∈aR K.enc m 0 by simpa using h1)
    exact ⟨p,h3,by simpa using h2,h4,h5⟩
   have hall:(leftOf (aR K.enc m 0).toArray seen.toArray)=#[]->∀ j,j<m.length->j∈seen:=fun he j hj=>by
    by_cases hs:j∈seen
    ·exact hs
    ·have:=mem_leftOf (enc:=K.enc) (List.getElem?_eq_getElem hj) hs
     rw [he] at this;cases this
   generalize leftOf (aR K.enc m 0).toArray seen.toArray=F at hcorr hall ⊢
   by_cases h0:F.size=0
   ·have:F=#[]:=Array.eq_empty_of_size_eq_zero h0
    subst this
    left
    refine ⟨hall rfl, ?_⟩
    simp [choose,Sem.run,Question.forced]
   ·right
    have hne:F.isEmpty=false:=by simp [Array.isEmpty,h0]
    simp only [hne,Bool.false_eq_true,if_false,Array.empty_append,Array.size_map]
    have hch:∃ (j:Nat)(w1:World),j<F.size/\w1.heap=w.heap/\w1.os=w.os/\w1.tape=w.tape/\w1.output=w.output/\w.drawn<=w1.drawn/\(choose (Question.mapNext F.size)).run cx.P w=.ok j w1:=by
     by_cases hf:F.size<=1
     ·exact ⟨0,w,by omega,rfl,rfl,rfl,rfl,Nat.le_refl _,by simp [choose,Sem.run,Question.forced,hf]⟩
     ·exact ⟨_,w.drew,Nat.mod_lt _ om_,rfl,rfl,rfl,rfl,Nat.le_succ _,by
       simp only [choose,Sem.run,Question.forced,decide_eq_true_eq,hf,if_false,Question.cut]
       rfl⟩
    obtain ⟨j,w1,hj,hh,ho,htp,hou,hdr,hrun⟩:=hch
    obtain ⟨p,h1,h2,h3,h4⟩:=hcorr F[j] (by simp)
    refine ⟨F[j].born,p,w1,h1,h2,hh,ho,htp,hou,hdr, ?_⟩
    have hset:(setObj b (.mapIter (some bm) m.length (seen.toArray.push F[j].born) m.length)).run cx.P w1=.ok () { w1 with heap:=w1.heap.setIfInBounds b (aM bm m.length (seen++[F[j].born])) }:=by
     have hb1:w1.heap[b]?=some (aM bm m.length seen):=by rw [hh];exact hb
     simp only [setObj,Sem.run,hb1,aM]
     simp
    simp only [hrun,Array.getElem?_map,Array.getElem?_eq_getElem hj,Option.map_some,Sem.run_bind,Result.andThen_ok,hset,Sem.run_pure,h3,h4]
  rw [show a.eval x=.pointer (some ⟨b,0,none⟩) from hs _ _ hx] at e1
  unfold Oper.wp
  rw [e1]
  rcases hrun with ⟨h1,hr⟩ | ⟨j,p,w1,h1,h2,hh,ho,htp,hou,hdr,hr⟩
  ·simp only [Sem.run_bind,hr,Result.andThen_ok,Sem.run_pure]
   exact ⟨_,C,.obj b (aM bm m.length seen)::L.eraseIdx q,rfl,Mem.le.refl _,fun h2=>by omega,hw',rfl,false,[],seen,.inl ⟨rfl,rfl,h1⟩,rfl,rfl⟩
  ·simp only [Sem.run_bind,hr,Result.andThen_ok,Sem.run_pure]
   have hw1:=hw'.same (w':=w1) ho htp hou hh hdr
   have hset:=heap_set (o':=aM bm m.length (seen++[j])) (show w1.heap[b]?=_ from by rw [hh];exact hb)
   exact ⟨_,C,.obj b (aM bm m.length (seen++[j]))::L.eraseIdx q,rfl,Mem.le.refl _,fun h2=>by omega,St.put hw1 hset.1 hset.2 (by simp) rfl rfl rfl (Nat.le_refl _),rfl,true,[K.enc p.1,p.2],_,
    .inr ⟨rfl,j,(List.getElem?_eq_some_iff.1 h1).1,h2,rfl⟩,rfl,rfl⟩)
  (fun v C' L' _ ⟨e1,go,rest,seen',h1,e2,e3⟩=>by subst e1;subst e2;subst e3;exact h go rest seen' h1)

theorem D.entryMap {b bm j:Nat}{x:Operand}{m:List (κ × Value)}{seen:List Nat}{p:κ × Value}(hc:C bm=some (aD K.enc m))(hj:m[j]?=some p)(hm:Ent.obj b (aM bm m.length (seen++[j]))∈L)(hk:k=1)(hd:o.dst=some d)(hop:o.op=.entry x)(hg:gOf ds fr o.guard=some g)(hx:ev fr g x=some (.pointer (some ⟨b,0,none⟩)))
  (hp:aG n ds ((d,g,.tuple #[K.enc p.1,p.2])::fr) d=true) (hwf:wfG ds fr g=true)
  (h:D cx R its ((d,g,.tuple #[K.enc p.1,p.2])::fr) C L):D cx R ((i,k,o)::its) fr C L :=
 D.det (by subst hk;rfl) hd hg hp hwf (fun _ a hs κ' hκ w hw=>by
  have hb:w.heap[b]?=some (aM bm m.length (seen++[j])):=hw.sep.e _ ((hκ hk).2 _ hm)
  have hbm:w.heap[bm]?=some (aD K.enc m):=hw.sep.c _ _ ((hκ hk).1 _ _ hc)
  have hf:(aR K.enc m 0).toArray.find? (·.born == j)=some ⟨K.enc p.1,p.2,j⟩:=by
   rw [<- Array.find?_toList]
   refine find_born ⟨K.enc p.1,p.2,j⟩ _ (by simpa using mapEs_nodup K.enc m) ?_
   refine List.mem_of_getElem? (i:=j) ?_
   simp [mapEs_get,hj]
  have hrun:(Instr.entry (.pointer (some ⟨b,0,none⟩))).run cx.P w=.ok (.tuple #[K.enc p.1,p.2]) w:=by
   have hg2:(getObj bm).run cx.P w=.ok (.map (aR K.enc m 0).toArray m.length) w:=Go.MapKept.run_getObj_map hbm
   have hg1:(getObj b).run cx.P w=.ok (aM bm m.length (seen++[j])) w:=by simp only [getObj,Sem.run,hb,aM]
   unfold Instr.entry
   simp only [Sem.run_bind,hg1,Result.andThen_ok,aM]
   have hbk:(seen++[j]).toArray.back?=some j:=by simp
   simp only [hbk,hg2,Sem.run_bind,Result.andThen_ok,bne_self_eq_false,Bool.false_eq_true,if_false,hf,Sem.run_pure]
  have hex:(execOp a.eval o).run cx.P w=.ok (.value (.tuple #[K.enc p.1,p.2])) w:=by
   have e1:execOp a.eval o=(do Pure.pure (.value (<- Instr.entry (a.eval x))):Sem Next):=by unfold execOp;rw [hop]
   rw [e1,hs _ _ hx]
   simp only [Sem.run_bind,hrun,Result.andThen_ok,Sem.run_pure]
  unfold Oper.quietAt
  rw [hex]
  exact ⟨rfl,rfl⟩) h
end
end Go.Jog
namespace Go.Jog
open Go Go.MapKept

structure KeyP (P:Program)(kt:TypeId)(κ:Type)[DecidableEq κ] where
 enc:κ->Value
 check:∀ a em w,(Instr.checkKey em 10000 kt (enc a)).run P w=.ok () w
 ask:∀ x es w,(Instr.findKey kt x es).run P w=(Instr.findAsking kt x es).run P w
 same:∀ a b w,(Op.equal kt (enc a) (enc b)).run P w=.ok (decide (a=b)) w
 stays:∀ a w,(Instr.keyThatStays (enc a) (enc a)).run P w=.ok (enc a) w
section
variable {κ:Type} [DecidableEq κ] {enc:κ->Value}
theorem mapEs_noneP {k:κ}{v:Value}:∀ {m:List (κ × Value)}{i:Nat},midx m k=none->aR enc m i++[⟨enc k,v,i+m.length⟩]=aR enc (mset m k v) i/\(mset m k v).length=m.length+1
 | [],i,_=>⟨rfl,rfl⟩
 | (k',v')::m,i,h=>by
  simp only [midx] at h
  split at h
  ·cases h
  ·rename_i hne
   have h':midx m k=none:=by
    cases hx:midx m k with
    | none=>rfl
    | some p=>rw [hx] at h;cases h
   obtain ⟨h1,h2⟩:=mapEs_noneP (i:=i+1) (v:=v) h'
   simp only [mset,if_neg hne,aR,List.cons_append,List.length_cons,h2]
   refine ⟨?_,trivial⟩
   rw [<- h1]
   congr 3
   congr 1
   omega
theorem mapEs_someP {k:κ}{v:Value}:∀ {m:List (κ × Value)}{i q:Nat}{u:Value},midx m k=some (q,u)->(aR enc m i).modify q (fun e=>{ e with key:=enc k,val:=v })=aR enc (mset m k v) i/\(mset m k v).length=m.length/\((aR enc m i)[q]?).map (·.key)=some (enc k)
 | [],_,_,_,h=>by cases h
 | (k',v')::m,i,q,u,h=>by
  simp only [midx] at h
  split at h
  ·rename_i e
   subst e
   cases h
   simp [aR,mset]
  ·rename_i hne
   cases hx:midx m k with
   | none=>rw [hx] at h;cases h
   | some p =>
    obtain ⟨q',u'⟩:=p
    rw [hx] at h
    cases h
    obtain ⟨h1,h2,h3⟩:=mapEs_someP (i:=i+1) (v:=v) hx
    simp only [mset,if_neg hne,aR,List.length_cons,h2,List.modify_succ_cons,h1]
    exact ⟨trivial,trivial,by simpa using h3⟩
end
section
variable {P:Program} {kt:TypeId} {κ:Type} [DecidableEq κ] (K:KeyP P kt κ)
theorem run_askP (k:κ)(w:World):∀ (m:List (κ × Value))(i j:Nat),(Instr.findAsking kt (K.enc k) (aR K.enc m i) j).run P w=.ok ((midx m k).map fun p=>(j+p.1,p.2)) w
 | [],i,j=>rfl
 | (k',v)::m,i,j=>by
  simp only [aR,Instr.findAsking,Sem.run_bind,K.same,Result.andThen_ok]
  by_cases h:k=k'
  ·subst h
   simp [midx]
  ·have h':¬ k'=k:=fun e=>h e.symm
   simp only [h,decide_false,run_askP k w m (i+1) (j+1),midx,if_neg h',Bool.false_eq_true,if_false]
   cases midx m k with
   | none=>rfl
   | some p=>simp;omega
theorem run_findP (k:κ)(m:List (κ × Value))(i:Nat)(w:World):(Instr.findKey kt (K.enc k) (aR K.enc m i)).run P w=.ok (midx m k) w:=by
 rw [K.ask,run_askP K k w m i 0]
 cases midx m k <;> simp
theorem run_lookupP {T:Tab}(hT:tabB P T=true){t et:Nat}{ti te:TI}{ok:Bool}(ht:T.get t=some ti)(htk:ti.k=.map kt et)(hte:T.get et=some te){w:World}{b:Nat}{m:List (κ × Value)}(hb:w.heap[b]?=some (aD K.enc m))(y:κ) :
  (Instr.lookup t (.map (some b)) (K.enc y) ok).run P w=.ok (lookV te.zv ok (mget m y)) w:=by
 have hu:=dN hT ht htk
 have h1:(getObj b).run P w=.ok (.map ⟨aR K.enc m 0⟩ m.length) w:=Go.MapKept.run_getObj_map hb
 have h2:=run_findP K y m 0 w
 rw [<- midx_mget]
 unfold Instr.lookup
 simp only [Sem.run_bind,run_underlying hu,Result.andThen_ok,h1,Sem.run_pure,K.check]
 rw [h2]
 cases midx m y with
 | none=>cases ok <;> simp [lookV,zero_of hT hte w]
 | some p=>cases ok <;> simp [lookV]
end
section
variable {cx:Cx} {n:Nat} {ds:List (Option Nat)} {R:Rg n ds} {its:List It} {fr:Fr} {C:Mem} {L:List Ent} {i k d:Nat} {o:Oper} {g:GL} {v:Value}
variable {κ:Type} [DecidableEq κ]
theorem D.lookupLP {b t kt et:Nat}(K:KeyP cx.P kt κ){x y:Operand}{ok:Bool}{m:List (κ × Value)}{key:κ}{ti te:TI}(hm:Ent.obj b (aD K.enc m)∈L)(hk:k=1)(hd:o.dst=some d)(hop:o.op=.lookup t x y ok)(hg:gOf ds fr o.guard=some g)(hx:ev fr g x=some (.map (some b)))(hy:ev fr g y=some (K.enc key))
  (ht:cx.T.get t=some ti) (htk:ti.k=.map kt et) (hte:cx.T.get et=some te) (hv:lookV te.zv ok (mget m key)=v) (hp:aG n ds ((d,g,v)::fr) d=true) (hwf:wfG ds fr g=true)
  (h:D cx R its ((d,g,v)::fr) C L):D cx R ((i,k,o)::its) fr C L :=
 D.det (by subst hk;rfl) hd hg hp hwf (fun _ a hs κ' hκ w hw=>by
  have hb:w.heap[b]?=some (aD K.enc m):=hw.sep.e _ ((hκ hk).2 _ hm)
  have hex:(execOp a.eval o).run cx.P w=.ok (.value v) w:=by
   have e1:execOp a.eval o=(do Pure.pure (.value (<- Instr.lookup t (a.eval x) (a.eval y) ok)):Sem Next):=by unfold execOp;rw [hop]
   rw [e1,hs _ _ hx,hs _ _ hy,<- hv]
   simp only [Sem.run_bind,run_lookupP K cx.hT ht htk hte hb key,Result.andThen_ok,Sem.run_pure]
  unfold Oper.quietAt
  rw [hex]
  exact ⟨rfl,rfl⟩) h

theorem D.lookupCP {b t kt et:Nat}(K:KeyP cx.P kt κ){x y:Operand}{ok:Bool}{m:List (κ × Value)}{key:κ}{ti te:TI}(hm:GT ds fr g->C b=some (aD K.enc m))(hk:k=1)(hd:o.dst=some d)(hop:o.op=.lookup t x y ok)(hg:gOf ds fr o.guard=some g)(hx:ev fr g x=some (.map (some b)))(hy:ev fr g y=some (K.enc key))
  (ht:cx.T.get t=some ti) (htk:ti.k=.map kt et) (hte:cx.T.get et=some te) (hv:lookV te.zv ok (mget m key)=v) (hp:aG n ds ((d,g,v)::fr) d=true) (hwf:wfG ds fr g=true)
  (h:D cx R its ((d,g,v)::fr) C L):D cx R ((i,k,o)::its) fr C L :=
 D.det (by subst hk;rfl) hd hg hp hwf (fun hGT a hs κ' hκ w hw=>by
  have hb:w.heap[b]?=some (aD K.enc m):=hw.sep.c _ _ ((hκ hk).1 _ _ (hm hGT))
  have hex:(execOp a.eval o).run cx.P w=.ok (.value v) w:=by
   have e1:execOp a.eval o=(do Pure.pure (.value (<- Instr.lookup t (a.eval x) (a.eval y) ok)):Sem Next):=by unfold execOp;rw [hop]
   rw [e1,hs _ _ hx,hs _ _ hy,<- hv]
   simp only [Sem.run_bind,run_lookupP K cx.hT ht htk hte hb key,Result.andThen_ok,Sem.run_pure]
  unfold Oper.quietAt
  rw [hex]
  exact ⟨rfl,rfl⟩) h

theorem D.eZ {t kt et j b:Nat}(K:KeyP cx.P kt κ){x y z:Operand}{m:List (κ × Value)}{key:κ}{ti:TI}(hk:k=3)(hg:gOn ds fr o.guard=true)(hd:o.dst=none)(hop:o.op=.mapUpdate t x y z)
  (hx:ev fr [] x=some (.map (some b))) (hy:ev fr [] y=some (K.enc key)) (hz:ev fr [] z=some v) (hm:L[j]?=some (.obj b (aD K.enc m)))
  (ht:cx.T.get t=some ti) (htk:ti.k=.map kt et)
  (h:D cx R its fr C (.obj b (aD K.enc (mset m key v))::L.eraseIdx j)):D cx R ((i,k,o)::its) fr C L :=
 D.eff0 (S:=fun C' L'=>C'=C/\L'=.obj b (aD K.enc (mset m key v))::L.eraseIdx j) (by subst hk;rfl) hg (fun a hs w _ hw=>by
  have hw':=St.perm hw (aN hm)
  have hb:w.heap[b]?=some (aD K.enc m):=hw'.sep.e _ (List.mem_cons_self ..)
  have hu:=dN cx.hT ht htk
  have h1:(getObj b).run cx.P w=.ok (.map ⟨aR K.enc m 0⟩ m.length) w:=Go.MapKept.run_getObj_map hb
  have h2:=run_findP K key m 0 w
  have hrun:(Instr.mapUpdate t (.map (some b)) (K.enc key) v).run cx.P w=.ok () { w with heap:=w.heap.setIfInBounds b (aD K.enc (mset m key v)) }:=by
   unfold Instr.mapUpdate
   simp only [Sem.run_bind,run_underlying hu,Result.andThen_ok,h1,K.check]
   rw [h2]
   cases hi:midx m key with
   | none =>
    obtain ⟨h3,h4⟩:=mapEs_noneP (enc:=K.enc) (v:=v) (i:=0) hi
    simp only [Result.andThen_ok]
    rw [Go.MapKept.run_setObj_map (P:=cx.P) _ hb]
    congr 2
    simp only [aD,h4,<- h3,Nat.zero_add]
    congr 2
    apply Array.ext'
    simp
   | some p =>
    obtain ⟨q,u⟩:=p
    obtain ⟨h3,h4,h5⟩:=mapEs_someP (enc:=K.enc) (v:=v) (i:=0) hi
    have hq:(((⟨aR K.enc m 0⟩:Array MapEntry)[q]?).map (·.key)).getD (K.enc key)=K.enc key:=by
     show (((aR K.enc m 0).toArray[q]?).map (·.key)).getD (K.enc key)=K.enc key
     rw [List.getElem?_toArray,h5];rfl
    simp only [Result.andThen_ok,Sem.run_bind]
    rw [hq,K.stays]
    simp only [Result.andThen_ok]
    rw [Go.MapKept.run_setObj_map (P:=cx.P) _ hb]
    congr 2
    simp only [aD,h4,<- h3]
    congr 2
    apply Array.ext'
    simp
  have hex:(execOp a.eval o).run cx.P w=.ok .skip { w with heap:=w.heap.setIfInBounds b (aD K.enc (mset m key v)) }:=by
   have e1:execOp a.eval o=(do Instr.mapUpdate t (a.eval x) (a.eval y) (a.eval z);Pure.pure .skip:Sem Next):=by unfold execOp;rw [hop]
   rw [e1,hs _ _ hx,hs _ _ hy,hs _ _ hz]
   simp only [Sem.run_bind,hrun,Result.andThen_ok,Sem.run_pure]
  unfold Oper.wp
  rw [hex]
  have hset:=heap_set (o':=aD K.enc (mset m key v)) hb
  refine ⟨C,.obj b (aD K.enc (mset m key v))::L.eraseIdx j, ?_,Mem.le.refl _,fun h2=>by omega,St.put hw' hset.1 hset.2 (by simp) rfl rfl rfl (Nat.le_refl _),rfl,rfl⟩
  rw [hd];rfl)
  (fun C' L' _ ⟨e1,e2⟩=>by subst e1;subst e2;exact h)
end
end Go.Jog
namespace Go.Jog
open Go Go.MapKept

section
variable {cx:Cx} {n:Nat} {ds:List (Option Nat)} {R:Rg n ds} {its:List It} {fr:Fr} {C:Mem} {L:List Ent} {i k d:Nat} {o:Oper} {g:GL} {v:Value}
variable {κ:Type} (enc:κ->Value)

theorem D.rangeMapE {t kt et bm:Nat}{x:Operand}{m:List (κ × Value)}{ti:TI}(hc:C bm=some (aD enc m))(hk:Nat.ble k 1=false)(hd:o.dst=some d)(hg:gOn ds fr o.guard=true)(hop:o.op=.range t x)(hx:ev fr [] x=some (.map (some bm)))
  (ht:cx.T.get t=some ti) (htk:ti.k=.map kt et) (hp:∀ v,aG n ds ((d,[],v)::fr) d=true)
  (h:∀ b,D cx R its ((d,[],.pointer (some ⟨b,0,none⟩))::fr) C (.obj b (aM bm m.length [])::L)):D cx R ((i,k,o)::its) fr C L :=
 D.eg (S:=fun v C' L'=>C'=C/\∃ b,v=.pointer (some ⟨b,0,none⟩)/\L'=.obj b (aM bm m.length [])::L) hk hd hg hp (fun a hs w _ hw=>by
  have hb:w.heap[bm]?=some (aD enc m):=hw.sep.c _ _ hc
  have hu:=dN cx.hT ht htk
  have hex:(execOp a.eval o).run cx.P w=.ok (.value (.pointer (some ⟨w.heap.size,0,none⟩))) (w.alloc (aM bm m.length [])):=by
   have e1:execOp a.eval o=(do Pure.pure (.value (<- Instr.range t (a.eval x))):Sem Next):=by unfold execOp;rw [hop]
   rw [e1,hs _ _ hx]
   simp only [Sem.run_bind,run_range_map w t kt et bm _ _ hu hb,Result.andThen_ok,Sem.run_pure]
   rfl
  unfold Oper.wp
  rw [hex]
  exact ⟨_,C,.obj w.heap.size (aM bm m.length [])::L,rfl,Mem.le.refl _,fun _ x hx=>by simp [hx],St.alloc hw _,rfl,_,rfl,rfl⟩)
  (fun v C' L' _ ⟨e1,b,e2,e3⟩=>by subst e1;subst e2;subst e3;exact h b)

theorem D.nextMapE {b q bm:Nat}{x:Operand}{m:List (κ × Value)}{seen:List Nat}(hc:C bm=some (aD enc m))(hk:k=3)(hd:o.dst=some d)(hg:gOn ds fr o.guard=true)(hop:o.op=.next x false)(hx:ev fr [] x=some (.pointer (some ⟨b,0,none⟩)))
  (hm:L[q]?=some (.obj b (aM bm m.length seen))) (hp:∀ v,aG n ds ((d,[],v)::fr) d=true)
  (h:∀ (go:Bool)(rest:List Value)(seen':List Nat),(go=false/\seen'=seen/\∀ j,j<m.length->j∈seen)∨(go=true/\∃ j,j<m.length/\j ∉ seen/\seen'=seen++[j]) ->
   D cx R its ((d,[],.tuple ⟨.bool go::rest⟩)::fr) C (.obj b (aM bm m.length seen')::L.eraseIdx q)):D cx R ((i,k,o)::its) fr C L :=
 D.eg (S:=fun v C' L'=>C'=C/\∃ (go:Bool)(rest:List Value)(seen':List Nat),((go=false/\seen'=seen/\∀ j,j<m.length->j∈seen)∨(go=true/\∃ j,j<m.length/\j ∉ seen/\seen'=seen++[j]))/\v=.tuple ⟨.bool go::rest⟩/\L'=.obj b (aM bm m.length seen')::L.eraseIdx q) (by subst hk;rfl) hd hg hp (fun a hs w _ hw=>by
  have hw':=St.perm hw (aN hm)
  have hb:w.heap[b]?=some (aM bm m.length seen):=hw'.sep.e _ (List.mem_cons_self ..)
  have hbm:w.heap[bm]?=some (aD enc m):=hw.sep.c _ _ hc
  have e1:execOp a.eval o=(do Pure.pure (.value (<- Instr.next (a.eval x) false 0)):Sem Next):=by unfold execOp;rw [hop];rfl
  have hold:∀ x∈(aR enc m 0).toArray.toList,x.born<m.length:=fun x hx=>by
   obtain ⟨p,h1,_⟩:=mapEs_mem (show x∈aR enc m 0 by simpa using hx)
   exact (List.getElem?_eq_some_iff.1 h1).1
  have hg1:∀ w:World,w.heap[b]?=some (aM bm m.length seen)->(getObj b).run cx.P w=.ok (aM bm m.length seen) w:=fun w h=>by
   simp only [getObj,Sem.run,h,aM]
  have hrun:(∀ j,j<m.length->j∈seen)/\(Instr.next (.pointer (some ⟨b,0,none⟩)) false 0).run cx.P w=.ok (.tuple #[.bool false]) w ∨
    ∃ (j:Nat)(p:κ × Value)(w1:World),m[j]?=some p/\j ∉ seen/\w1.heap=w.heap/\w1.os=w.os/\w1.tape=w.tape/\w1.output=w.output/\w.drawn<=w1.drawn /\
     (Instr.next (.pointer (some ⟨b,0,none⟩)) false 0).run cx.P w=.ok (.tuple #[.bool true,enc p.1,p.2]) { w1 with heap:=w1.heap.setIfInBounds b (aM bm m.length (seen++[j])) }:=by
   have hnx:(Instr.next (.pointer (some ⟨b,0,none⟩)) false 0).run cx.P w=(do
     let candidates:=(if (leftOf (aR enc m 0).toArray seen.toArray).isEmpty then #[none] else #[])++(leftOf (aR enc m 0).toArray seen.toArray).map some
     match candidates[<- choose (.mapNext candidates.size)]? with
     | some (some e) =>
      setObj b (.mapIter (some bm) m.length (seen.toArray.push e.born) m.length)
      Pure.pure (Value.tuple #[.bool true,e.key,e.val])
     | some none=>Pure.pure (Value.tuple #[.bool false])
     | none => stuck "Next: no such candidate" : Sem Value).run cx.P w := by
    have hmem:∀ x∈(leftOf (aR enc m 0).toArray seen.toArray).toList,x.born<m.length:=fun x hx=>hold x (mem_left hx).1
    have f1:(leftOf (aR enc m 0).toArray seen.toArray).filter (fun x=>decide (x.born<m.length))=leftOf (aR enc m 0).toArray seen.toArray:=Array.filter_eq_self.2 (fun x hx=>by simpa using hmem x (by simpa using hx))
    have f2:(leftOf (aR enc m 0).toArray seen.toArray).filter (fun x=>decide (x.born ≥ m.length))=#[]:=by
     rw [Array.filter_eq_empty_iff]
     intro x hx
     have:=hmem x (by simpa using hx)
     simp;omega
    unfold Instr.next
    simp only [Sem.run_bind,hg1 w hb,Result.andThen_ok,aM]
    have hg2:(getObj bm).run cx.P w=.ok (.map (aR enc m 0).toArray m.length) w:=Go.MapKept.run_getObj_map hbm
    simp only [Sem.run_bind,hg2,Result.andThen_ok,next_test_false seen.toArray (aR enc m 0).toArray m.length m.length hold (Nat.le_refl _),Bool.false_eq_true,if_false]
    unfold leftOf at f1 f2 ⊢
    simp only [f1,f2,Array.append_empty]
    refine congrArg _ (funext fun a=>funext fun w'=>?_)
    congr 1
   rw [hnx]
   have hcorr:∀ e∈(leftOf (aR enc m 0).toArray seen.toArray).toList,∃ p,m[e.born]?=some p/\e.born ∉ seen/\e.key=enc p.1/\e.val=p.2:=fun e he=>by
    obtain ⟨h1,h2⟩:=mem_left he
    obtain ⟨p,h3,h4,h5⟩:=mapEs_mem (show e∈aR enc m 0 by simpa using h1)
    exact ⟨p,h3,by simpa using h2,h4,h5⟩
   have hall:(leftOf (aR enc m 0).toArray seen.toArray)=#[]->∀ j,j<m.length->j∈seen:=fun he j hj=>by
    by_cases hs:j∈seen
    ·exact hs
    ·have:=mem_leftOf (enc:=enc) (List.getElem?_eq_getElem hj) hs
     rw [he] at this;cases this
   generalize leftOf (aR enc m 0).toArray seen.toArray=F at hcorr hall ⊢
   by_cases h0:F.size=0
   ·have:F=#[]:=Array.eq_empty_of_size_eq_zero h0
    subst this
    left
    refine ⟨hall rfl, ?_⟩
    simp [choose,Sem.run,Question.forced]
   ·right
    have hne:F.isEmpty=false:=by simp [Array.isEmpty,h0]
    simp only [hne,Bool.false_eq_true,if_false,Array.empty_append,Array.size_map]
    have hch:∃ (j:Nat)(w1:World),j<F.size/\w1.heap=w.heap/\w1.os=w.os/\w1.tape=w.tape/\w1.output=w.output/\w.drawn<=w1.drawn/\(choose (Question.mapNext F.size)).run cx.P w=.ok j w1:=by
     by_cases hf:F.size<=1
     ·exact ⟨0,w,by omega,rfl,rfl,rfl,rfl,Nat.le_refl _,by simp [choose,Sem.run,Question.forced,hf]⟩
     ·exact ⟨_,w.drew,Nat.mod_lt _ om_,rfl,rfl,rfl,rfl,Nat.le_succ _,by
       simp only [choose,Sem.run,Question.forced,decide_eq_true_eq,hf,if_false,Question.cut]
       rfl⟩
    obtain ⟨j,w1,hj,hh,ho,htp,hou,hdr,hrun⟩:=hch
    obtain ⟨p,h1,h2,h3,h4⟩:=hcorr F[j] (by simp)
    refine ⟨F[j].born,p,w1,h1,h2,hh,ho,htp,hou,hdr, ?_⟩
    have hset:(setObj b (.mapIter (some bm) m.length (seen.toArray.push F[j].born) m.length)).run cx.P w1=.ok () { w1 with heap:=w1.heap.setIfInBounds b (aM bm m.length (seen++[F[j].born])) }:=by
     have hb1:w1.heap[b]?=some (aM bm m.length seen):=by rw [hh];exact hb
     simp only [setObj,Sem.run,hb1,aM]
     simp
    simp only [hrun,Array.getElem?_map,Array.getElem?_eq_getElem hj,Option.map_some,Sem.run_bind,Result.andThen_ok,hset,Sem.run_pure,h3,h4]
  rw [show a.eval x=.pointer (some ⟨b,0,none⟩) from hs _ _ hx] at e1
  unfold Oper.wp
  rw [e1]
  rcases hrun with ⟨h1,hr⟩ | ⟨j,p,w1,h1,h2,hh,ho,htp,hou,hdr,hr⟩
  ·simp only [Sem.run_bind,hr,Result.andThen_ok,Sem.run_pure]
   exact ⟨_,C,.obj b (aM bm m.length seen)::L.eraseIdx q,rfl,Mem.le.refl _,fun h2=>by omega,hw',rfl,false,[],seen,.inl ⟨rfl,rfl,h1⟩,rfl,rfl⟩
  ·simp only [Sem.run_bind,hr,Result.andThen_ok,Sem.run_pure]
   have hw1:=hw'.same (w':=w1) ho htp hou hh hdr
   have hset:=heap_set (o':=aM bm m.length (seen++[j])) (show w1.heap[b]?=_ from by rw [hh];exact hb)
   exact ⟨_,C,.obj b (aM bm m.length (seen++[j]))::L.eraseIdx q,rfl,Mem.le.refl _,fun h2=>by omega,St.put hw1 hset.1 hset.2 (by simp) rfl rfl rfl (Nat.le_refl _),rfl,true,[enc p.1,p.2],_,
    .inr ⟨rfl,j,(List.getElem?_eq_some_iff.1 h1).1,h2,rfl⟩,rfl,rfl⟩)
  (fun v C' L' _ ⟨e1,go,rest,seen',h1,e2,e3⟩=>by subst e1;subst e2;subst e3;exact h go rest seen' h1)

theorem D.entryMapE {b bm j:Nat}{x:Operand}{m:List (κ × Value)}{seen:List Nat}{p:κ × Value}(hc:C bm=some (aD enc m))(hj:m[j]?=some p)(hm:Ent.obj b (aM bm m.length (seen++[j]))∈L)(hk:k=1)(hd:o.dst=some d)(hop:o.op=.entry x)(hg:gOf ds fr o.guard=some g)(hx:ev fr g x=some (.pointer (some ⟨b,0,none⟩)))
  (hp:aG n ds ((d,g,.tuple #[enc p.1,p.2])::fr) d=true) (hwf:wfG ds fr g=true)
  (h:D cx R its ((d,g,.tuple #[enc p.1,p.2])::fr) C L):D cx R ((i,k,o)::its) fr C L :=
 D.det (by subst hk;rfl) hd hg hp hwf (fun _ a hs κ' hκ w hw=>by
  have hb:w.heap[b]?=some (aM bm m.length (seen++[j])):=hw.sep.e _ ((hκ hk).2 _ hm)
  have hbm:w.heap[bm]?=some (aD enc m):=hw.sep.c _ _ ((hκ hk).1 _ _ hc)
  have hf:(aR enc m 0).toArray.find? (·.born == j)=some ⟨enc p.1,p.2,j⟩:=by
   rw [<- Array.find?_toList]
   refine find_born ⟨enc p.1,p.2,j⟩ _ (by simpa using mapEs_nodup enc m) ?_
   refine List.mem_of_getElem? (i:=j) ?_
   simp [mapEs_get,hj]
  have hrun:(Instr.entry (.pointer (some ⟨b,0,none⟩))).run cx.P w=.ok (.tuple #[enc p.1,p.2]) w:=by
   have hg2:(getObj bm).run cx.P w=.ok (.map (aR enc m 0).toArray m.length) w:=Go.MapKept.run_getObj_map hbm
   have hg1:(getObj b).run cx.P w=.ok (aM bm m.length (seen++[j])) w:=by simp only [getObj,Sem.run,hb,aM]
   unfold Instr.entry
   simp only [Sem.run_bind,hg1,Result.andThen_ok,aM]
   have hbk:(seen++[j]).toArray.back?=some j:=by simp
   simp only [hbk,hg2,Sem.run_bind,Result.andThen_ok,bne_self_eq_false,Bool.false_eq_true,if_false,hf,Sem.run_pure]
  have hex:(execOp a.eval o).run cx.P w=.ok (.value (.tuple #[enc p.1,p.2])) w:=by
   have e1:execOp a.eval o=(do Pure.pure (.value (<- Instr.entry (a.eval x))):Sem Next):=by unfold execOp;rw [hop]
   rw [e1,hs _ _ hx]
   simp only [Sem.run_bind,hrun,Result.andThen_ok,Sem.run_pure]
  unfold Oper.quietAt
  rw [hex]
  exact ⟨rfl,rfl⟩) h
end
end Go.Jog
namespace Go.Jog
open Go Go.MapKept

def encI2 (p:Int × Int):Value:=.agg ⟨[.int .i64 p.1,.int .i64 p.2]⟩
theorem checkKey_arr2 {P:Program}{kt e:TypeId}(hu:P.underlying kt=some (.array 2 e))(he:P.underlying e=some (.int .i64)){i:TypeInfo}(hi:P.info? e=some i)(hs:i.size=1)(p:Int × Int)(em:Bool)(w:World) :
  (Instr.checkKey em 10000 kt (encI2 p)).run P w=.ok () w:=by
 have hk:∀ z:Int,(Instr.checkKey em (9998+1) e (.int .i64 z)).run P w=.ok () w:=fun z=>run_checkKey he (by simp [IsKey]) em 9998
 show (Instr.checkKey em (9999+1) kt (encI2 p)).run P w=_
 unfold Instr.checkKey
 simp only [Sem.run_bind,run_underlying hu,Result.andThen_ok,encI2]
 have hpart:∀ (z:Int)(xs:Array Value)(j:Nat),xs[j]?=some (.int .i64 z)->(part e xs j).run P w=.ok (.int .i64 z) w:=fun z xs j h=>by
  unfold part
  simp only [Sem.run_bind,dB he rfl w,Result.andThen_ok,Bool.false_eq_true,if_false,h,Sem.run_pure]
 have hsz:(sizeOf e).run P w=.ok 1 w:=by simp [sizeOf,typeInfo,hi,hs]
 have q0:=hpart p.1 ⟨[.int .i64 p.1,.int .i64 p.2]⟩ 0 rfl
 have q1:=hpart p.2 ⟨[.int .i64 p.1,.int .i64 p.2]⟩ 1 rfl
 rw [Std.Legacy.Range.forIn_eq_forIn_range']
 simp [Std.Legacy.Range.size,List.range',hsz,q0,q1,hk]
theorem stays_row {xs:List Value}(h:Instr.sameBits 10000 (.agg ⟨xs⟩) (.agg ⟨xs⟩)=true){P:Program}(w:World):(Instr.keyThatStays (.agg ⟨xs⟩) (.agg ⟨xs⟩)).run P w=.ok (.agg ⟨xs⟩) w:=by
 simp [Instr.keyThatStays,h]
theorem wide_ask {P:Program}{kt:TypeId}(hw:(match P.underlying kt with | some (.array _ _) | some (.struct _)=>true | _=>false)=true)(x:Value)(es:List MapEntry)(w:World):(Instr.findKey kt x es).run P w=(Instr.findAsking kt x es).run P w:=run_findKey_eq w hw x es
def keyI2 {P:Program}{kt e:TypeId}(hu:P.underlying kt=some (.array 2 e))(he:P.underlying e=some (.int .i64))(hi:(P.info? e).map (·.size)=some 1)(ht:flatArr P kt=true):KeyP P kt (Int × Int) where
 enc:=encI2
 check p em w:=by
  obtain ⟨i,h1,h2⟩:=Option.map_eq_some_iff.1 hi
  exact checkKey_arr2 hu he h1 h2 p em w
 ask x es w:=wide_ask (by rw [hu]) x es w
 same a b w:=by
  have h:=run_eq_arr (P:=P) ht (xs:=[.int .i64 a.1,.int .i64 a.2]) (ys:=[.int .i64 b.1,.int .i64 b.2]) (by unfold fitE;rw [hu];show (Nat.beq 2 2 && List.all _ (fun x=>fitOne (P.underlying e) x))=true;rw [he];rfl) (b:=decide (a=b)) (by
   obtain ⟨a1,a2⟩:=a
   obtain ⟨b1,b2⟩:=b
   simp [eqRow,scal]
   by_cases h1:a1=b1 <;> by_cases h2:a2=b2 <;> simp [h1,h2]) w
  exact h
 stays a w:=stays_row (by simp [Instr.sameBits]) w
def encS2 (p:List UInt8 × List UInt8):Value:=.agg ⟨[strV p.1,strV p.2]⟩
theorem checkKey_str2 {P : Program} {kt : TypeId} {f0 f1 : Field} (hu : P.underlying kt = some (.struct #[f0, f1])) (h0 : P.underlying f0.type = some .string) (h1 : P.underlying f1.type = some .string) (hn0 : f0.name ≠ "_") (hn1 : f1.name ≠ "_") (ho0 : f0.offset = 0) (ho1 : f1.offset = 1) (p : List UInt8 × List UInt8) (em : Bool) (w : World) :
  (Instr.checkKey em 10000 kt (encS2 p)).run P w=.ok () w:=by
 have hk:∀ (f:Field)(s:List UInt8),P.underlying f.type=some .string->(Instr.checkKey em (9998+1) f.type (strV s)).run P w=.ok () w:=fun f s h=>run_checkKey h (by simp [IsKey,strV]) em 9998
 have hpart:∀ (f:Field)(s:List UInt8)(xs:Array Value)(j:Nat),P.underlying f.type=some .string->xs[j]?=some (strV s)->(part f.type xs j).run P w=.ok (strV s) w:=fun f s xs j hf h=>by
  unfold part
  simp only [Sem.run_bind,dB hf rfl w,Result.andThen_ok,Bool.false_eq_true,if_false,h,Sem.run_pure]
 have q0:=hpart f0 p.1 ⟨[strV p.1,strV p.2]⟩ 0 h0 rfl
 have q1:=hpart f1 p.2 ⟨[strV p.1,strV p.2]⟩ 1 h1 rfl
 have k0:=hk f0 p.1 h0
 have k1:=hk f1 p.2 h1
 show (Instr.checkKey em (9999+1) kt (encS2 p)).run P w=_
 unfold Instr.checkKey
 simp only [Sem.run_bind,run_underlying hu,Result.andThen_ok,encS2]
 simp [hn0,hn1,ho0,ho1,q0,q1,k0,k1]
def keyS2 {P : Program} {kt : TypeId} {f0 f1 : Field} (hu : P.underlying kt = some (.struct #[f0, f1])) (h0 : P.underlying f0.type = some .string) (h1 : P.underlying f1.type = some .string) (hn0 : f0.name ≠ "_") (hn1 : f1.name ≠ "_") (ho0 : f0.offset = 0) (ho1 : f1.offset = 1) (ht : flatEq P kt = true) : KeyP P kt (List UInt8 × List UInt8) where
 enc:=encS2
 check p em w:=checkKey_str2 hu h0 h1 hn0 hn1 ho0 ho1 p em w
 ask x es w:=wide_ask (by rw [hu]) x es w
 same a b w:=by
  have h:=run_eq_flat (P:=P) ht (xs:=[strV a.1,strV a.2]) (ys:=[strV b.1,strV b.2]) (by unfold fitB;rw [hu];show fitF P [f0,f1] _=true;unfold fitF;rw [h0];unfold fitF;rw [h1];rfl) (b:=decide (a=b)) (by
   obtain ⟨a1,a2⟩:=a
   obtain ⟨b1,b2⟩:=b
   simp [eqRow,scal,strV]
   by_cases h1:a1=b1 <;> by_cases h2:a2=b2 <;> simp [h1,h2]) w
  exact h
 stays a w:=stays_row (by simp [Instr.sameBits,strV,str_beq]) w
section
variable {cx:Cx} {n:Nat} {ds:List (Option Nat)} {R:Rg n ds} {its:List It} {fr:Fr} {C:Mem} {L:List Ent} {i k d:Nat} {o:Oper} {g:GL} {v:Value} {κ:Type} [DecidableEq κ]
theorem D.makeMapP {t kt:Nat}(K:KeyP cx.P kt κ)(hk:Nat.ble k 1=false)(hd:o.dst=some d)(hg:gOn ds fr o.guard=true)(hop:o.op=.makeMap t none)(hp:∀ v,aG n ds ((d,[],v)::fr) d=true)
  (h:∀ b,D cx R its ((d,[],.map (some b))::fr) C (.obj b (aD K.enc [])::L)):D cx R ((i,k,o)::its) fr C L :=
 D.newObj (f:=fun b=>.map (some b)) (ob:=aD K.enc []) hk hd hg hp (fun a _ w=>by
  have e1:execOp a.eval o=(do Pure.pure (.value (<- Instr.makeMap t none)):Sem Next):=by unfold execOp;rw [hop];rfl
  rw [e1]
  rfl) h
end
end Go.Jog
namespace Go.Jog
open Go

section
variable {F:Fx} {k:List KI} {fr:Fr} {C:Mem} {L:List Ent}
theorem G.assignEndA {cx:Cx}{fn:Func}{n:Nat}{W1:World}{C C':Mem}{L' LA:List Ent}{post:Value->Mem->List Ent->Prop}{W:Cw cx.P}{fr':Fr}{A:Fr->List Ent->Prop}(hs:Has fr fr')(h:A fr' LA) :
  G ⟨cx,fn,n,⟨W1,C,L'⟩,post,W,[],fun e a w'=>e=.normal/\∃ frA LA,A frA LA/\FrOk n [] [] frA a/\St W1 C L' C LA w'⟩ [] .normal fr C' LA:=fun hle _ _ ha hw =>
 ⟨rfl,fr',LA,h,ha.weaken hs.sub,St.less hw (Mem.le.refl _) hle⟩
end
end Go.Jog
namespace Go.Jog
open Go

section
variable {F:Fx} {k:List KI} {fr:Fr} {C:Mem} {L:List Ent}
def IAD (F:Fx)(I:List Deferred->Fr->Mem->List Ent->Nat->Prop)(C:Mem)(m:Nat)(a:Act)(w:World):Prop :=
 ∃ dd fr C' L',C.le C'/\I dd fr C' L' m/\FrOk F.n [] dd fr a/\F.b.cls (C',L') w
theorem G.loopD {c:Code}(I:List Deferred->Fr->Mem->List Ent->Nat->Prop){m:Nat}{fr':Fr}(hs:Has fr fr')(hI:I F.dd fr' C L m)
  (hr:∀ dd fr C' L' m,C.le C'->I dd fr C' L' m->G { F with dd:=dd } (norm 64 (.code c::.inv (fun a w=>∃ m',m'<m/\IAD F I C m' a w)::k)) .normal fr C' L'):G F (.code (.loop c)::k) .normal fr C L:=fun h0 a w ha hw=>by
 simp only [Kq]
 refine wp_loop_ex F.W (IAD F I C) ⟨F.dd,fr',C,L,Mem.le.refl _,hI,ha.weaken hs.sub,hw⟩ (fun m a w ⟨dd1,fr1,C1,L1,hle,hI1,ha1,hw1⟩=>?_)
 have h1:=G.bG 64 (hr dd1 fr1 C1 L1 m hle hI1) (h0.trans hle) a w ha1 hw1
 rw [Kq_dd] at h1
 refine F.W.mono (fun e a w q=>?_) h1
 cases e <;> exact q
theorem G.againD {dd:List Deferred}{I:List Deferred->Fr->Mem->List Ent->Nat->Prop}{C0:Mem}{m m':Nat}{fr':Fr}(hlt:m'<m)(hle:C0.le C)(hs:Has fr fr')(hI:I dd fr' C L m') :
  G { F with dd:=dd } (.inv (fun a w=>∃ m',m'<m/\IAD F I C0 m' a w)::k) .normal fr C L:=fun _ _a _w ha hw =>
 ⟨m',hlt,dd,fr',C,L,hle,hI,ha.weaken hs.sub,hw⟩
theorem G.rangeFuncD {g:Operand}{p0 p1:Nat}{assign body:Code}{gf:FuncId}{lb:Array Value}{vss:List (Value × Value)}(hW:F.W=Cw.plain F.cx.P)
  (hg:ev fr [] g=some (.func (.func gf) #[] lb)) (hen:Enters F.cx.P gf=true) (hseq:Iter F.cx.P gf lb C vss) (I:Nat->List Ent->Prop) (h0:I 0 L) (_hp:fr.all (fun x=>x.2.1.isEmpty)=true)
  (hok:∀ u v,(aG F.n [] ((p0,[],u)::fr) p0 && aG F.n [] ((p1,[],v)::(p0,[],u)::fr) p1)=true) (A:Nat->List Ent->Fr->List Ent->Prop)
  (hassign:∀ l j u v L' W1,I j L'->vss[j]?=some (u,v)->G ⟨F.cx,F.fn,F.n,⟨W1,C,L'⟩,F.post,Cw.round F.cx.P l 1,[],fun e a w'=>e=.normal/\∃ frA LA,A j L' frA LA/\FrOk F.n [] [] frA a/\St W1 C L' C LA w'⟩ (norm 64 [.code assign]) .normal ((p1,[],v)::(p0,[],u)::fr) C L')
  (hbody:∀ l j u v L' frA LA W1,I j L'->vss[j]?=some (u,v)->A j L' frA LA ->
   G ⟨F.cx,F.fn,F.n,⟨W1,C,LA⟩,F.post,Cw.round F.cx.P l 1,[],fun e _ w'=>e=.normal/\∃ L1,I (j+1) L1/\St W1 C LA C L1 w'⟩ (norm 64 [.code body]) .normal frA C LA)
  (hdone:∀ D L',I vss.length L'->G { F with dd:={ target:=.collected D,args:=#[] }::F.dd } (norm 64 k) .normal fr C (.obj D (.deferred (some []))::L')) :
  G F (.code (.rangeFunc g #[p0,p1] assign body)::k) .normal fr C L:=fun hle a w ha hw=>by
 simp only [Kq,hW]
 show (Code.rangeFunc g #[p0,p1] assign body).wp F.cx.P (Kq F k) a w
 refine (wpIn_wide (n:=3)).1 (wpIn_rangeFunc fun fn _=>?_)
 have hga:a.eval g=.func (.func gf) #[] lb:=bl ha (fun p hp=>by cases hp) hg
 obtain ⟨rec,hrec⟩:∃ rec:LoopState->Loop,rec=fun st=>{ state:=st,pending:=none,fn,tmps:=a.tmps,params:=#[p0,p1],assign,body,defers:=w.heap.size }:=⟨_,rfl⟩
 obtain ⟨W1,hW1⟩:∃ W1,(w.alloc (.deferred (some []))).alloc (.loop (rec .ready))=W1:=⟨_,rfl⟩
 have hS1:St F.b.w0 F.b.C0 F.b.L0 C (.obj (w.heap.size+1) (.loop (rec .ready))::.obj w.heap.size (.deferred (some []))::L) W1:=by
  have:=St.alloc (St.alloc hw (.deferred (some []))) (.loop (rec .ready))
  rw [World.size_alloc] at this
  rw [<- hW1];exact this
 refine ⟨w.heap.size+1,[{ target:=.collected w.heap.size,args:=#[] }],W1,{ target:=.fn (.func gf) lb,args:=#[.func (.yield (w.heap.size+1)) #[] #[]] },W1,gf,
  #[.func (.yield (w.heap.size+1)) #[] #[]]++lb,W1, ?_, ?_,fun _ _=>trivial, ?_,fun _=>by decide, ?_⟩
 ·rw [<- hW1,hrec];exact run_enterLoop_outer _ _ _ _ _
 ·simp only [resolve,hga]
  simp [go_sem]
 ·simp [invoke,go_sem,run_callFunc hen]
 ·refine (hseq (w.heap.size+1) (fun j W=>∃ L',I j L'/\St F.b.w0 F.b.C0 F.b.L0 C (.obj (w.heap.size+1) (.loop (rec .ready))::.obj w.heap.size (.deferred (some []))::L') W) W1
   (fun j W ⟨L',_,hs⟩=>hs.sep.c) (fun j W ⟨L',hi,hs⟩=>⟨L',hi,hs.drew⟩) ?_ ⟨L,h0,hS1⟩).mono ?_
  ·rintro j ⟨u,v⟩ W ⟨L',hi,hs⟩ hj
   have hl:W.heap[w.heap.size+1]?=some (.loop (rec .ready)):=hs.sep.e _ (List.mem_cons_self ..)
   have hy:=run_yield (P:=F.cx.P) (args:=#[u,v]) hl (by rw [hrec];rfl)
   rw [hrec] at hy
   have hz:(#[p0,p1].zip #[u,v]).foldl (fun tmps (x:Nat × Value)=>match x with | (t,a)=>tmps.setIfInBounds t a) a.tmps=(a.tmps.setIfInBounds p0 u).setIfInBounds p1 v:=by simp
   dsimp only at hy
   rw [hz] at hy
   refine ⟨fn,_,assign,body,hy,roundIn_of_wpIn trivial ?_⟩
   have hfr:FrOk F.n [] [] ((p1,[],v)::(p0,[],u)::fr) { tmps:=(a.tmps.setIfInBounds p0 u).setIfInBounds p1 v,defers:=[] }:=by
    have hk:=hok u v
    rw [Bool.and_eq_true] at hk
    have h1:=FrOk.put (u:=u) (FrOk.mk (dd:=F.dd) ha.size ha.defers ha.ent:FrOk F.n [] F.dd fr a) hk.1 ⟨fun _=>rfl,fun hn=>absurd (fun p hp=>by cases hp) hn⟩
    have h2:=FrOk.put (u:=v) h1 hk.2 ⟨fun _=>rfl,fun hn=>absurd (fun p hp=>by cases hp) hn⟩
    exact ⟨h2.size,rfl,h2.ent⟩
   have hA:=G.asIn (hassign (w.heap.size+1) j u v L' W hi hj) (Mem.le.refl _) hfr (St.start hs.drop.drop.sep)
   refine wpIn_mono hA (fun e a1 W2 q=>?_)
   obtain ⟨rfl,frA,LA,hAA,hfr1,hs1⟩:=q
   have hs2a:=St.call (Lp:=L') (Lr:=[.obj (w.heap.size+1) (.loop (rec .ready)),.obj w.heap.size (.deferred (some []))]) (St.perm hs (List.perm_append_comm (l₁:=[_,_]))) hs1
   have hs2:St F.b.w0 F.b.C0 F.b.L0 C (.obj (w.heap.size+1) (.loop (rec .ready))::.obj w.heap.size (.deferred (some []))::LA) W2:=St.perm hs2a (List.perm_append_comm (l₂:=[_,_]))
   have hl2:W2.heap[w.heap.size+1]?=some (.loop (rec .ready)):=hs2.sep.e _ (List.mem_cons_self ..)
   refine ⟨_,run_beginRound hl2 (by rw [hrec]), ?_⟩
   have hs3:St F.b.w0 F.b.C0 F.b.L0 C (.obj (w.heap.size+1) (.loop (rec .busy))::.obj w.heap.size (.deferred (some []))::LA) (W2.putObj (w.heap.size+1) (.loop { rec .ready with state:=.busy })):=by
    have:=St.putObj (o':=.loop { rec .ready with state:=.busy }) hs2
    rw [hrec] at this ⊢
    exact this
   have hB:=G.asIn (hbody (w.heap.size+1) j u v L' frA LA (W2.putObj (w.heap.size+1) (.loop { rec .ready with state:=.busy })) hi hj hAA) (Mem.le.refl _) hfr1 (St.start hs3.drop.drop.sep)
   refine wpIn_mono hB (fun e a2 W4 q=>?_)
   obtain ⟨rfl,L1,hi1,hs4⟩:=q
   have hs5:=St.call (Lp:=LA) (Lr:=[.obj (w.heap.size+1) (.loop (rec .busy)),.obj w.heap.size (.deferred (some []))]) (St.perm hs3 (List.perm_append_comm (l₁:=[_,_]))) hs4
   have hs6:St F.b.w0 F.b.C0 F.b.L0 C (.obj (w.heap.size+1) (.loop (rec .busy))::.obj w.heap.size (.deferred (some []))::L1) W4:=St.perm hs5 (List.perm_append_comm (l₂:=[_,_]))
   have hl4:W4.heap[w.heap.size+1]?=some (.loop (rec .busy)):=hs6.sep.e _ (List.mem_cons_self ..)
   refine ⟨_,_,run_endRound none hl4,rfl,L1,hi1, ?_⟩
   have:=St.putObj (o':=.loop { rec .busy with state:=if (none:Option Code).isNone then .ready else .done,pending:=none }) hs6
   rw [hrec] at this ⊢
   exact this
  ·rintro e W2 ⟨⟨v,rfl⟩,L',hi,hs⟩
   have hl:W2.heap[w.heap.size+1]?=some (.loop (rec .ready)):=hs.sep.e _ (List.mem_cons_self ..)
   refine ⟨none,_,by have:=run_endLoop (P:=F.cx.P) hl (by rw [hrec];simp);rw [hrec] at this;exact this, ?_⟩
   have hs2:St F.b.w0 F.b.C0 F.b.L0 C (.obj w.heap.size (.deferred (some []))::L') (W2.putObj (w.heap.size+1) (.loop { rec .ready with state:=.exhausted })):=(St.putObj hs).drop
   have:=G.bG 64 (hdone w.heap.size L' hi) hle { a with defers:=[{ target:=.collected w.heap.size,args:=#[] }]++a.defers } _ ⟨ha.size,by rw [ha.defers];rfl,ha.ent⟩ hs2
   rw [Kq_dd] at this
   rw [hrec] at this
   exact this

theorem res_cc {cx:Cx}{fn:Func}{n s t b u t2 b2:Nat}{fr:Fr}{C:Mem}{L:List Ent}{dd:List Deferred}{w0:World}{C0:Mem}{L0:List Ent}{tb tb2:TypeId}{fz fz2:Nat × Nat}{cs cs2:List Value}{ti ti2:TI}{y z:Value}(hm:Ent.obj b (.cells ⟨cs⟩ tb fz)∈L)(hm2:Ent.obj b2 (.cells ⟨cs2⟩ tb2 fz2)∈L)(hres:fn.results=#[.cell s t,.cell u t2])
  (hs:ev fr [] (.tmp s)=some (.pointer (some ⟨b,0,none⟩))) (hu:ev fr [] (.tmp u)=some (.pointer (some ⟨b2,0,none⟩))) (ht:cx.T.get t=some ti) (hv:bS ti (cs.take ti.size)=some y) (ht2:cx.T.get t2=some ti2) (hv2:bS ti2 (cs2.take ti2.size)=some z) :
  ∀ a w,FrOk n [] dd fr a->St w0 C0 L0 C L w->(results fn a.tmps).run cx.P w=.ok (.tuple #[y,z]) w:=fun a w ha hw=>by
 have hs':=bl ha (fun p hp=>by cases hp) hs
 have hu':=bl ha (fun p hp=>by cases hp) hu
 simp only [Act.eval] at hs' hu'
 have hl:=run_cell (F:=⟨cx,fn,n,⟨w0,C0,L0⟩,fun _ _ _=>True,Cw.plain cx.P,dd,fun _ _ _=>True⟩) ht (hw.sep.e _ hm) hv
 have hl2:=run_cell (F:=⟨cx,fn,n,⟨w0,C0,L0⟩,fun _ _ _=>True,Cw.plain cx.P,dd,fun _ _ _=>True⟩) ht2 (hw.sep.e _ hm2) hv2
 simp only [Array.getD_eq_getD_getElem?] at hs' hu'
 simp [results,hres,hs',hu',asAddr,hl,hl2]
def collD (D:Nat):Deferred:={ target:=.collected D,args:=#[] }
def collO (D:Nat):Ent:=.obj D (.deferred (some []))
theorem G.finMD {cx:Cx}{fn:Func}{n:Nat}{Ds:List Nat}{b:Bs}{post:Value->Mem->List Ent->Prop}{v:Value}
  (hr:∀ a w,FrOk n [] (Ds.map collD) fr a->St b.w0 b.C0 b.L0 C L w->(results fn a.tmps).run cx.P w=.ok v w) (h:post v C []) (hne:Ds≠[]) :
  G ⟨cx,fn,n,b,post,Cw.plain cx.P,Ds.map collD,bodyPostM Fence.wide 3 cx.P fn (finOf b post)⟩ [] .ret fr C (Ds.map collO++L):=fun hle a w ha hw=>by
 show LeavesInM _ _ _ _ _ _ a.defers _ _
 have ha':=ha
 rw [ha.defers]
 have key:∀ (Es:List Nat)(w:World),Es≠[]->St b.w0 b.C0 b.L0 C (Es.map collO++L) w->LeavesInM Fence.wide 3 cx.P fn a.tmps (finOf b post) (Es.map collD) .returning w:=by
  intro Es
  induction Es with
  | nil=>exact fun _ h0=>absurd rfl h0
  | cons D Es ih =>
   intro w _ hw
   have hD:w.heap[D]?=some (.deferred (some [])):=hw.sep.e _ (List.mem_cons_self ..)
   have hs:=(St.putObj (o':=.deferred none) hw).drop
   cases Es with
   | nil=>exact ⟨by simp,.inl ⟨D,_,rfl,run_takeDeferred hD,v,hr a _ ha' hs,v,C,[],rfl,St.dropAll hs,h⟩⟩
   | cons E Es=>exact ⟨by simp,.inl ⟨D,_,rfl,run_takeDeferred hD,ih _ (by simp) hs⟩⟩
 exact key Ds w hne hw
end
end Go.Jog
namespace Go.Proofs.YtllimhhofkcgpaaGreatDoor
open Go Go.Jog
set_option maxRecDepth 100000

def sideK (t:Tri)(k:Nat):Int × Int:=(triZ t k,triZ t ((k+1) % 3))
abbrev OwnM:=List ((Int × Int) × Value)
def ownT (m:OwnM)(i:Nat)(t:Tri):Nat->OwnM
 | 0=>m
 | k+1=>mset (ownT m i t k) (sideK t k) (.int .i64 (i:Nat))
def ownN (tris:List Tri):Nat->OwnM
 | 0=>[]
 | n+1=>ownT (ownN tris n) n (tris.getD n (0,0,0)) 3
noncomputable def kI2:KeyP cx.P 116 (Int × Int):=keyI2 rfl rfl rfl kr_
theorem owners_fn (C:Mem)(v1 v2:Value)(tris:List Tri)(h0:tris≠[])(h2:Sl C 3 v2 (tris.map encT))(hd:∀ i t k,tris[i]?=some t->k<3->mget (ownT (ownN tris i) i t k) (sideK t k)=none) :
  Pur cx.P 87 [.agg ⟨[v1,v2]⟩] C fun u D=>∃ b,u=.tuple #[.map (some b),.bool true]/\D b=some (aD encI2 (ownN tris tris.length)):=by
 obtain ⟨A2,c2,rfl,hq3,hq4,_⟩:=id h2
 have hmx:maxLen<=9223372036854775807:=by simp [maxLen]
 simp only [List.length_map] at h2 hq3 ⊢
 refine Fn.introM kr_ Tryz.func87 rfl 36 rfl rfl (fun w0=>?_)
 refine G.rg fun R hR=>?_
 refine D.aB (fun b1=>?_)
 refine D.aj (fun b2=>?_)
 refine D.aj (fun b3=>?_)
 refine D.e3 1 2 3 hR ?_
 refine G.rg fun R hR=>?_
 refine D.makeMapP kI2 rfl rfl rfl rfl fl_ (fun b11=>?_)
 refine D.aj (fun b4=>?_)
 refine D.ag (j:=0) ?_
 refine D.e4 1 2 3 4 hR ?_
 refine G.rp 1 fun R hR=>?_
 refine D.ae (.tail _ (.tail _ (.tail _ (.tail _ (.head _))))) ?_
 refine D.q6 2 2 3 4 13 14 15 hR ?_
 refine G.perm (L':=[.obj b4 (.cells ⟨[.map (some b11)]⟩ 169 (0,0)),.obj b11 (aD encI2 []),.obj b3 (.cells ⟨[.bool false]⟩ 4 (0,0)),.obj b2 (.cells ⟨[.map none]⟩ 169 (0,0)),.obj b1 (.cells ⟨[v1,.slice A2 tris.length c2]⟩ 43 (0,0))]) (List.Perm.refl _) ?_
 refine G.loopD (fun dd fr C' L' μ=>∃ (i:Nat)(Ds:List Nat),(i<=tris.length/\Ds.length=i)/\dd=Ds.map collD/\fr=[(2,[],.pointer (some ⟨b2,0,none⟩)),(3,[],.pointer (some ⟨b3,0,none⟩)),(4,[],.pointer (some ⟨b4,0,none⟩)),(13,[],.slice A2 tris.length c2),(14,[],.int .i64 tris.length),(15,[],.int .i64 i)]/\L'=[.obj b4 (.cells ⟨[.map (some b11)]⟩ 169 (0,0)),.obj b11 (aD encI2 (ownN tris i)),.obj b3 (.cells ⟨[.bool false]⟩ 4 (0,0)),.obj b2 (.cells ⟨[.map none]⟩ 169 (0,0)),.obj b1 (.cells ⟨[v1,.slice A2 tris.length c2]⟩ 43 (0,0))]++Ds.map collO/\μ=tris.length-i) (h_6 2 3 4 13 14 15) ⟨0,[],⟨Nat.zero_le _,rfl⟩,rfl,rfl,rfl,rfl⟩ (fun dd fr C0' L0' m hle0 hI=>?_)
 obtain ⟨i,Ds,⟨hi,hDs⟩,rfl,rfl,rfl,rfl⟩:=hI
 refine G.z7 1 2 3 4 13 14 15 16 ?_
 refine G.cd (fun h16=>?_) fun h16=>?_
 ·have hil:i<tris.length:=by simpa using h16
  obtain ⟨t,ht⟩:∃ t,tris[i]?=some t:=⟨tris[i],List.getElem?_eq_getElem hil⟩
  refine G.rp 1 fun R hR=>?_
  refine D.al (h2.mono mup) rfl rfl rfl rfl rfl rfl rfl rfl rfl rfl om_ (by rw [List.getElem?_map,ht];rfl:(tris.map encT)[i]?=some (encT t)) fl_ (fun p18 hp18=>?_)
  refine D.aa hp18 ?_
  refine D.aj (fun b5=>?_)
  refine D.aj (fun b6=>?_)
  refine D.ag (j:=1) ?_
  refine D.ag (j:=1) ?_
  refine D.e8 2 3 4 5 6 13 14 15 hR ?_
  refine G.rg fun R hR=>?_
  refine D.ae (.head _) ?_
  refine D.aX (sides_fn _ t) (fun v21 C21 hle21 hq21=>?_)
  refine D.e8 2 3 4 5 13 14 15 21 hR ?_
  obtain ⟨bb,rfl,hbb⟩:=hq21
  refine G.rangeFuncD rfl rfl kr_ (sides_iter _ bb _ t hbb) (fun j L'=>∃ (z:Unit),(j<=3)/\L'=[.obj b6 (.cells ⟨encT t⟩ 109 (0,0)),.obj b5 (.cells ⟨[.int .i64 i]⟩ 3 (0,0)),.obj b4 (.cells ⟨[.map (some b11)]⟩ 169 (0,0)),.obj b11 (aD encI2 (ownT (ownN tris i) i t j)),.obj b3 (.cells ⟨[.bool false]⟩ 4 (0,0)),.obj b2 (.cells ⟨[.map none]⟩ 169 (0,0)),.obj b1 (.cells ⟨[v1,.slice A2 tris.length c2]⟩ 43 (0,0))]++Ds.map collO) ⟨(),Nat.zero_le _,rfl⟩ rfl (fun _ _=>rfl) (fun j L' fr LA=>∃ (b8:Nat),fr=[(2,[],.pointer (some ⟨b2,0,none⟩)),(3,[],.pointer (some ⟨b3,0,none⟩)),(4,[],.pointer (some ⟨b4,0,none⟩)),(5,[],.pointer (some ⟨b5,0,none⟩)),(8,[],.pointer (some ⟨b8,0,none⟩))]/\LA=.obj b8 (.cells ⟨[.int .i64 (sideK t j).1,.int .i64 (sideK t j).2]⟩ 116 (0,0))::L') (fun l j u v L' W1 hI hj=>?_) (fun l j u v L' frA LA W1 hI hj hA=>?_) (fun bD L' hI=>?_)
  ·obtain ⟨z,hj3,rfl⟩:=hI
   have hjl:j<3:=by have:=(List.getElem?_eq_some_iff.1 hj).1;rwa [sidesV_len] at this
   rw [sidesV_at hjl] at hj
   cases hj
   refine G.rg fun R hR=>?_
   refine D.aj (fun b8=>?_)
   refine D.ag (j:=0) ?_
   refine D.e5 2 3 4 5 8 hR ?_
   exact G.assignEndA (h_5 2 3 4 5 8) ⟨b8,rfl,rfl⟩
  ·obtain ⟨z,hj3,rfl⟩:=hI
   obtain ⟨b8,rfl,rfl⟩:=hA
   have hjl:j<3:=by have:=(List.getElem?_eq_some_iff.1 hj).1;rwa [sidesV_len] at this
   refine G.rg fun R hR=>?_
   refine D.ae (.tail _ (.tail _ (.tail _ (.head _)))) ?_
   refine D.ae (.head _) ?_
   refine D.lookupLP kI2 (.tail _ (.tail _ (.tail _ (.tail _ (.head _))))) rfl rfl rfl rfl rfl rfl rfl rfl rfl (congrArg (lookV _ true) (hd i t j ht hjl)) rfl rfl ?_
   refine D.q6 5 2 3 4 5 8 10 hR ?_
   refine G.z6 1 2 3 4 5 8 30 ?_
   refine G.cd (fun h30=>?_) fun h30=>?_
   ·exact absurd h30 (by decide)
   ·refine G.rg fun R hR=>?_
    refine D.ae (.tail _ (.tail _ (.tail _ (.head _)))) ?_
    refine D.ae (.head _) ?_
    refine D.ae (.tail _ (.tail _ (.head _))) ?_
    refine D.eZ kI2 (j:=4) rfl rfl rfl rfl rfl rfl rfl rfl rfl rfl ?_
    refine D.done [] trivial (hR _ _ _ rfl ?_)
    refine G.cW 1 rfl ?_
    exact G.eX (R:=fun L'=>∃ (z:Unit),((j+1)<=3)/\L'=[.obj b6 (.cells ⟨encT t⟩ 109 (0,0)),.obj b5 (.cells ⟨[.int .i64 i]⟩ 3 (0,0)),.obj b4 (.cells ⟨[.map (some b11)]⟩ 169 (0,0)),.obj b11 (aD encI2 (ownT (ownN tris i) i t (j+1))),.obj b3 (.cells ⟨[.bool false]⟩ 4 (0,0)),.obj b2 (.cells ⟨[.map none]⟩ 169 (0,0)),.obj b1 (.cells ⟨[v1,.slice A2 tris.length c2]⟩ 43 (0,0))]++Ds.map collO) (List.perm_middle (l₁:=[_,_,_])).symm ⟨(),om_,rfl⟩
  ·obtain ⟨z,hj3,rfl⟩:=hI
   refine G.rg fun R hR=>?_
   refine D.am _ ?_
   refine D.q6 1 2 3 4 13 14 15 hR ?_
   refine G.cW 1 rfl ?_
   refine G.cW 1 rfl ?_
   refine G.perm (L':=[.obj b4 (.cells ⟨[.map (some b11)]⟩ 169 (0,0)),.obj b11 (aD encI2 (ownN tris (i+1))),.obj b3 (.cells ⟨[.bool false]⟩ 4 (0,0)),.obj b2 (.cells ⟨[.map none]⟩ 169 (0,0)),.obj b1 (.cells ⟨[v1,.slice A2 tris.length c2]⟩ 43 (0,0))]++(bD::Ds).map collO) (by
    rw [show ownN tris (i+1)=ownT (ownN tris i) i t (sidesV t).length by rw [sidesV_len,ownN,List.getD_eq_getElem?_getD,ht];rfl]
    exact (List.perm_middle (l₁:=[_,_,_,_,_])).symm) ?_
   refine G.againD (m':=tris.length-(i+1)) om_ mup (h_6 2 3 4 13 14 15) ⟨i+1,bD::Ds,⟨by omega,by simp [hDs]⟩,rfl,rfl,rfl,rfl⟩
 ·have hil:i=tris.length:=by
   have:¬ i<tris.length:=by simpa using h16
   omega
  refine G.rg fun R hR=>?_
  refine D.ae (.head _) ?_
  refine D.ag (j:=3) ?_
  refine D.ag (j:=3) ?_
  refine D.e2 2 3 hR ?_
  refine G.freeze 3 rfl (fun Cf hlef hbf=>?_)
  refine G.perm (L':=Ds.map collO++[_,_,_,_]) (List.perm_append_comm (l₁:=[_,_,_,_])) ?_
  refine G.az (G.finMD (res_cc (.tail _ (.head _)) (.head _) rfl rfl rfl rfl rfl rfl rfl) ?_ ?_)
  ·exact ⟨rfl,b11,rfl,by rw [<- hil];exact hbf⟩
  ·intro e
   rw [e] at hDs
   have:=List.length_pos_iff.2 h0
   simp at hDs
   omega

theorem divS_one (z:Int):divS z 1=(z:Rat):=by
 unfold divS
 rw [if_neg (by decide),show (1:Int).natAbs=1 from rfl]
 exact (Rat.mkRat_one z)
theorem at_fn (C:Mem)(hT:Tabs C)(x y:Int)(hx:x.natAbs<9000000000000000000)(hy:y.natAbs<9000000000000000000):Gives cx.P 40 [.int .i64 x,.int .i64 y] C (ptV ((x:Rat),(y:Rat))):=by
 refine Fn.it kr_ Tryz.func40 10 fun w0=>?_
 refine G.rg fun R hR=>?_
 refine D.aj (fun b4=>?_)
 refine D.e3 0 1 4 hR ?_
 refine G.rp 1 fun R hR=>?_
 refine D.ai (of2_fn _ (hT.mono mup) x 1 hx (by decide) (by decide)) rfl rfl rfl rfl rfl rfl rfl fl_ ?_
 refine D.ac ?_
 refine D.ai (of2_fn _ (hT.mono mup) y 1 hy (by decide) (by decide)) rfl rfl rfl rfl rfl rfl rfl fl_ ?_
 rw [divS_one,divS_one]
 refine D.ak (encP ((x:Rat),(y:Rat))) ?_
 refine D.ag (j:=0) ?_
 refine D.e1 4 hR ?_
 refine G.az (G.di (.head _) rfl rfl rfl rfl ?_)
 exact ⟨rfl,rfl⟩
theorem vec_fn (C:Mem)(hT:Tabs C)(x y z:Int)(hx:x.natAbs<9000000000000000000)(hy:y.natAbs<9000000000000000000)(hz:z.natAbs<9000000000000000000):Gives cx.P 41 [.int .i64 x,.int .i64 y,.int .i64 z] C (.agg ⟨[strV (qtx (x:Rat)),strV (qtx (y:Rat)),strV (qtx (z:Rat))]⟩):=by
 refine Fn.it kr_ Tryz.func41 14 fun w0=>?_
 refine G.rg fun R hR=>?_
 refine D.aj (fun b6=>?_)
 refine D.e4 0 1 2 6 hR ?_
 refine G.rp 1 fun R hR=>?_
 refine D.ai (of2_fn _ (hT.mono mup) x 1 hx (by decide) (by decide)) rfl rfl rfl rfl rfl rfl rfl fl_ ?_
 refine D.ac ?_
 refine D.ai (of2_fn _ (hT.mono mup) y 1 hy (by decide) (by decide)) rfl rfl rfl rfl rfl rfl rfl fl_ ?_
 refine D.ac ?_
 refine D.ai (of2_fn _ (hT.mono mup) z 1 hz (by decide) (by decide)) rfl rfl rfl rfl rfl rfl rfl fl_ ?_
 rw [divS_one,divS_one,divS_one]
 refine D.ak [strV (qtx (x:Rat)),strV (qtx (y:Rat)),strV (qtx (z:Rat))] ?_
 refine D.ag (j:=0) ?_
 refine D.e1 6 hR ?_
 refine G.az (G.di (.head _) rfl rfl rfl rfl ?_)
 exact ⟨rfl,rfl⟩

theorem str_row {l:List Str}{i:Nat}{s:Str}(h:l[i]?=some s):(l.map encS1)[i]?=some (encS1 s):=by rw [List.getElem?_map,h];rfl
theorem same13_fn (C:Mem)(v w:Value)(l m:List Str)(hv:Sl C 1 v (l.map encS1))(hw:Sl C 1 w (m.map encS1)):Gives cx.P 42 [v,w] C (.bool (decide (l=m))):=by
 obtain ⟨A0,c0,rfl,hc1,hc2,_⟩:=id hv
 obtain ⟨A1,c1,rfl,hd1,hd2,_⟩:=id hw
 have hmx:maxLen<=9223372036854775807:=by simp [maxLen]
 simp only [List.length_map] at hv hw hc1 hd1 ⊢
 refine Fn.it kr_ Tryz.func42 26 fun w0=>?_
 refine G.z2 1 0 1 ?_
 refine G.z3 5 0 1 10 ?_
 refine G.cd (fun h10=>?_) fun h10=>?_
 ·have hne:l.length≠m.length:=by
   intro e
   rw [e] at h10
   simp at h10
  refine G.z1 1 4 ?_
  refine G.rf ?_
  refine ⟨?_,rfl⟩
  rw [decide_eq_false (fun e:l=m=>hne (by rw [e]))]
 ·have hlen:l.length=m.length:=by
   have h:(l.length:Int)=(m.length:Int):=by simpa using h10
   omega
  refine G.z3 1 0 1 5 ?_
  refine G.loop (fun fr C' L' μ=>∃ (i:Nat),(i<=l.length/\l.take i=m.take i)/\fr=[(0,[],.slice A0 l.length c0),(1,[],.slice A1 m.length c1),(5,[],.int .i64 i)]/\L'=[]/\μ=l.length-i) (h_3 0 1 5) ⟨0,⟨Nat.zero_le _,rfl⟩,rfl,rfl,rfl⟩ (fun fr C0' L0' m hle0 hI=>?_)
  obtain ⟨i,⟨hi,he⟩,rfl,rfl,rfl⟩:=hI
  refine G.z4 4 0 1 5 14 ?_
  refine G.cd (fun h14=>?_) fun h14=>?_
  ·have hil:i<l.length:=by simpa using h14
   obtain ⟨s,hs⟩:∃ s,l[i]?=some s:=⟨l[i],List.getElem?_eq_getElem hil⟩
   obtain ⟨t,ht⟩:∃ t,m[i]?=some t:=⟨m[i]'om_,List.getElem?_eq_getElem om_⟩
   refine G.aH [0,1,2,3,4,5,6,7,8] [] rfl kr_ (fun R hB hR=>?_)
   refine D.ps 2 ?_
   refine D.al (hv.mono mup) rfl rfl rfl rfl rfl rfl rfl rfl rfl rfl om_ (str_row hs) fl_ (fun p19 hp19=>?_)
   refine D.aa hp19 ?_
   refine D.ps 2 ?_
   refine D.al (hw.mono mup) rfl rfl rfl rfl rfl rfl rfl rfl rfl rfl om_ (str_row ht) fl_ (fun p23 hp23=>?_)
   refine D.aa hp23 ?_
   refine D.q4 1 0 1 5 25 hR ?_
   refine G.cd (fun h25=>?_) fun h25=>?_
   ·have hne:s≠t:=by
     intro e
     subst e
     simp at h25
    refine G.z1 1 4 ?_
    refine G.rf ?_
    refine ⟨?_,rfl⟩
    rw [decide_eq_false (fun e:l=m=>hne (by rw [e,ht] at hs;exact (Option.some.inj hs).symm))]
   ·have heq:s=t:=by simpa using h25
    refine G.rp 1 fun R hR=>?_
    refine D.am _ ?_
    refine D.q3 1 0 1 5 hR ?_
    refine G.ax (m':=l.length-(i+1)) om_ hle0 (h_3 0 1 5) ⟨i+1,⟨by omega,by rw [List.take_add_one,List.take_add_one,hs,ht,he,heq]⟩,rfl,rfl,rfl⟩
  ·have hil:i=l.length:=by
    have:¬ i<l.length:=by simpa using h14
    omega
   refine G.z1 1 4 ?_
   refine G.rf ?_
   refine ⟨?_,rfl⟩
   rw [hil,List.take_length,hlen,List.take_length] at he
   rw [decide_eq_true he]

def sheetV (kd a b:Int)(h:Bool):Value:=.agg ⟨[.int .u8 kd,.int .i8 a,.int .i8 b,.bool h]⟩
def cU (h:Bool):Int:=if h then 2 else 1
def ci (a b:Int)(h:Bool)(x y by':Int):Pt:=(divS (x+a.tmod 8*by') (cU h*by'),divS (y+b.tmod 8*by') (cU h*by'))
theorem tmod8 (a:Int):-8<a.tmod 8/\a.tmod 8<8:=by
 have h:(a.tmod 8).natAbs=a.natAbs % 8:=Int.natAbs_tmod a 8
 omega
theorem place_fn (C:Mem)(hT:Tabs C)(kd a b:Int)(h:Bool)(x y n:Int)(hn:0<n)(hn4:n<=4)(hx:-128<=x/\x<=127)(hy:-128<=y/\y<=127) :
  Gives cx.P 44 [sheetV kd a b h,.agg ⟨[.int .i8 x,.int .i8 y]⟩,.int .i64 n] C (ptV (ci a b h x y n)):=by
 have ha:=tmod8 a
 have hb:=tmod8 b
 have hprod:∀ z:Int, -8<z->z<8->-32<z*n/\z*n<32:=fun z h1 h2=>by
  rcases (by omega:n=1∨n=2∨n=3∨n=4) with e | e | e | e <;> subst e <;> omega
 have hpa:=hprod _ ha.1 ha.2
 have hpb:=hprod _ hb.1 hb.2
 have hh:cU h=1∨cU h=2:=by cases h <;> simp [cU]
 have hd:0<cU h*n/\cU h*n<=8:=by rcases hh with e | e <;> rw [e] <;> omega
 refine Fn.it kr_ Tryz.func44 53 fun w0=>?_
 refine G.rg fun R hR=>?_
 refine D.aB (fun b3=>?_)
 refine D.aB (fun b4=>?_)
 refine D.aj (fun b6=>?_)
 refine D.e4 2 3 4 6 hR ?_
 refine G.z5 1 2 3 4 6 7 ?_
 refine G.rp 1 fun R hR=>?_
 refine D.ae (.tail _ (.tail _ (.head _))) ?_
 refine D.e6 2 3 4 6 7 13 hR ?_
 refine G.cut (fun fr C' L' μ=>(True)/\fr=[(2,[],.int .i64 n),(3,[],.pointer (some ⟨b3,0,none⟩)),(4,[],.pointer (some ⟨b4,0,none⟩)),(6,[],.pointer (some ⟨b6,0,none⟩)),(7,[],.int .i64 (cU h))]/\L'=[.obj b6 (.cells ⟨[strV [],strV []]⟩ 34 (0,0)),.obj b4 (.cells ⟨[.int .i8 x,.int .i8 y]⟩ 23 (0,0)),.obj b3 (.cells ⟨[.int .u8 kd,.int .i8 a,.int .i8 b,.bool h]⟩ 25 (0,0))]) ?_ (fun fr C13 L13 μ hle13 hI=>?_)
 ·refine G.cd (fun h13=>?_) fun h13=>?_
  ·have h1:h=true:=h13
   subst h1
   refine G.z5 1 2 3 4 6 7 ?_
   refine G.aw 0 (Mem.le.refl _) (h_5 2 3 4 6 7) ⟨trivial,rfl,rfl⟩
  ·have h1:h=false:=by simpa using h13
   subst h1
   refine G.aw 0 (Mem.le.refl _) (h_5 2 3 4 6 7) ⟨trivial,rfl,rfl⟩
 ·obtain ⟨_,rfl,rfl⟩:=hI
  refine G.rg fun R hR=>?_
  refine D.ar (0) rfl rfl rfl rfl rfl rfl rfl rfl rfl (fun _=>⟨by decide,by decide,rfl⟩) rfl rfl ?_
  refine D.ae (.tail _ (.head _)) ?_
  refine D.cR (c:=x) rfl rfl rfl rfl rfl rfl rfl rfl (wrap_i64 om_ om_) fl_ ?_
  refine D.ac ?_
  refine D.ar (1) rfl rfl rfl rfl rfl rfl rfl rfl rfl (fun _=>⟨by decide,by decide,rfl⟩) rfl rfl ?_
  refine D.ae (.tail _ (.tail _ (.head _))) ?_
  refine D.eQ (a.tmod 8) rfl rfl rfl rfl rfl rfl (by decide) rfl rfl rfl ?_
  refine D.cR (c:=a.tmod 8) rfl rfl rfl rfl rfl rfl rfl rfl (wrap_i64 om_ om_) fl_ ?_
  refine D.ac ?_
  refine D.am _ ?_
  refine D.am _ ?_
  refine D.ps 2 ?_
  refine D.am _ ?_
  refine D.ai (rof_fn _ (hT.mono mup) (x+a.tmod 8*n) (cU h*n) om_ om_ om_) rfl rfl rfl rfl rfl rfl rfl fl_ ?_
  refine D.q6 5 2 3 4 6 7 8 hR ?_
  refine G.rg fun R hR=>?_
  refine D.ar (1) rfl rfl rfl rfl rfl rfl rfl rfl rfl (fun _=>⟨by decide,by decide,rfl⟩) rfl rfl ?_
  refine D.ae (.tail _ (.head _)) ?_
  refine D.cR (c:=y) rfl rfl rfl rfl rfl rfl rfl rfl (wrap_i64 om_ om_) fl_ ?_
  refine D.ac ?_
  refine D.ar (2) rfl rfl rfl rfl rfl rfl rfl rfl rfl (fun _=>⟨by decide,by decide,rfl⟩) rfl rfl ?_
  refine D.ae (.tail _ (.tail _ (.head _))) ?_
  refine D.eQ (b.tmod 8) rfl rfl rfl rfl rfl rfl (by decide) rfl rfl rfl ?_
  refine D.cR (c:=b.tmod 8) rfl rfl rfl rfl rfl rfl rfl rfl (wrap_i64 om_ om_) fl_ ?_
  refine D.ac ?_
  refine D.am _ ?_
  refine D.am _ ?_
  refine D.ps 2 ?_
  refine D.am _ ?_
  refine D.ai (rof_fn _ (hT.mono mup) (y+b.tmod 8*n) (cU h*n) om_ om_ om_) rfl rfl rfl rfl rfl rfl rfl fl_ ?_
  refine D.q3 5 6 8 10 hR ?_
  refine G.rp 2 fun R hR=>?_
  refine D.ak (encP (ci a b h x y n)) ?_
  refine D.ag (j:=0) ?_
  refine D.e1 6 hR ?_
  refine G.az (G.di (.head _) rfl rfl rfl rfl ?_)
  exact ⟨rfl,rfl⟩

def shapeV (s p:Nat):Value:=.agg ⟨[.int .i64 (s:Nat),.int .i64 (p:Nat)]⟩
theorem scount_fn (C:Mem)(s p:Nat)(h:s*p<=1000000000):Gives cx.P 28 [shapeV s p] C (.int .i64 ((s*p:Nat):Int)):=by
 refine Fn.it kr_ Tryz.func28 8 fun w0=>?_
 refine G.rg fun R hR=>?_
 refine D.aB (fun b1=>?_)
 refine D.q1 1 1 hR ?_
 refine G.rp 1 fun R hR=>?_
 refine D.ae (.head _) ?_
 refine D.ac ?_
 refine D.ae (.head _) ?_
 refine D.am _ ?_
 refine D.q1 1 2 hR ?_
 refine G.rf ?_
 exact ⟨rfl,rfl⟩
theorem sat_fn (C:Mem)(s p:Nat)(i k:Int)(h:-1000000000000<=i*p/\i*p<=1000000000000)(hk:-1000000000<=k/\k<=1000000000):Gives cx.P 29 [shapeV s p,.int .i64 i,.int .i64 k] C (.int .i64 (i*p+k)):=by
 refine Fn.it kr_ Tryz.func29 13 fun w0=>?_
 refine G.rg fun R hR=>?_
 refine D.aB (fun b3=>?_)
 refine D.q3 1 1 2 3 hR ?_
 refine G.rp 2 fun R hR=>?_
 refine D.ae (.head _) ?_
 refine D.am _ ?_
 refine D.ac ?_
 refine D.am _ ?_
 refine D.q1 1 6 hR ?_
 refine G.rf ?_
 exact ⟨rfl,rfl⟩
end Go.Proofs.YtllimhhofkcgpaaGreatDoor
namespace Go.Jog
open Go Go.MapKept

section
variable {cx:Cx} {n:Nat} {ds:List (Option Nat)} {R:Rg n ds} {its:List It} {fr:Fr} {C:Mem} {L:List Ent} {i k d:Nat} {o:Oper} {g:GL} {v:Value}
variable {κ:Type} (enc:κ->Value)

theorem run_lenMap {P:Program}{T:Tab}(hT:tabB P T=true){t kt et:Nat}{ti:TI}(ht:T.get t=some ti)(htk:ti.k=.map kt et){a:Act}{o:Oper}{x:Operand}{b:Nat}{m:List (κ × Value)}(hop:o.op=.call ⟨.builtin .len,#[x],#[t]⟩)(hx:a.eval x=.map (some b)){w:World}(hb:w.heap[b]?=some (aD enc m)) :
  (execOp a.eval o).run P w=.ok (.value (.int .i64 (m.length:Nat))) w:=by
 have hu:=dN hT ht htk
 have e1:execOp a.eval o=(do let dd <- resolve a.eval ⟨.builtin .len,#[x],#[t]⟩ o.type;invoke dd.target dd.args:Sem Next):=by unfold execOp;rw [hop]
 have h1:(getObj b).run P w=.ok (.map ⟨aR enc m 0⟩ m.length) w:=Go.MapKept.run_getObj_map hb
 have hc:(Builtin.len_ #[t] o.type #[.map (some b)]).run P w=.ok (.int .i64 (m.length:Nat)) w:=by
  simp [Builtin.len_,run_underlying hu,h1,mapEs_length,goInt]
 rw [e1]
 simp only [resolve,invoke,builtin,Sem.run_bind,Sem.run_pure,Result.andThen_ok,List.map_toArray,List.map_cons,List.map_nil,hx,hc]

theorem D.lenMapL {b t kt et:Nat}{x:Operand}{m:List (κ × Value)}{ti:TI}(hm:Ent.obj b (aD enc m)∈L)(hk:k=1)(hd:o.dst=some d)(hop:o.op=.call ⟨.builtin .len,#[x],#[t]⟩)(hg:gOf ds fr o.guard=some g)(hx:ev fr g x=some (.map (some b)))
  (ht:cx.T.get t=some ti) (htk:ti.k=.map kt et) (hp:aG n ds ((d,g,.int .i64 (m.length:Nat))::fr) d=true) (hwf:wfG ds fr g=true)
  (h:D cx R its ((d,g,.int .i64 (m.length:Nat))::fr) C L):D cx R ((i,k,o)::its) fr C L :=
 D.det (by subst hk;rfl) hd hg hp hwf (fun _ a hs κ' hκ w hw=>by
  have hb:w.heap[b]?=some (aD enc m):=hw.sep.e _ ((hκ hk).2 _ hm)
  unfold Oper.quietAt
  rw [run_lenMap enc cx.hT ht htk hop (hs _ _ hx) hb]
  exact ⟨rfl,rfl⟩) h
end
end Go.Jog
namespace Go.Jog
open Go Go.MapKept

def keyZ:KeyT (.int .i64) Int where
 enc z:=.int .i64 z
 isKey _:=rfl
 same a b:=by
  simp only [Instr.sameNow,if_true]
  congr 1
section
variable {κ β:Type} [DecidableEq κ]
theorem bi:∀ {m:List (κ × β)}{k:κ},mget m k=none ↔ k ∉ m.map (·.1)
 | [],k=>by simp [mget]
 | (k',v)::m,k=>by
  simp only [mget,List.map_cons,List.mem_cons,not_or]
  by_cases h:k'=k
  ·simp [h]
  ·rw [if_neg h,bi (m:=m)]
   exact ⟨fun h2=>⟨fun e=>h e.symm,h2⟩,fun h2=>h2.2⟩
theorem mset_new:∀ {m:List (κ × β)}{k:κ}{v:β},mget m k=none->mset m k v=m++[(k,v)]
 | [],k,v,_=>rfl
 | (k',v')::m,k,v,h=>by
  simp only [mget] at h
  split at h
  ·cases h
  ·rename_i hne
   simp only [mset,if_neg hne,List.cons_append,mset_new h]
theorem eA:∀ {m:List (κ × β)}{k:κ}{v:β},mget m k=some v->(k,v)∈m
 | (k',v')::m,k,v,h=>by
  simp only [mget] at h
  split at h
  ·rename_i e;cases h;subst e;exact List.mem_cons_self
  ·exact List.mem_cons_of_mem _ (eA h)
theorem dF:∀ {m:List (κ × β)}{k:κ}{v:β},(m.map (·.1)).Nodup->(k,v)∈m->mget m k=some v
 | (k',v')::m,k,v,hn,h=>by
  simp only [List.map_cons,List.nodup_cons] at hn
  rcases List.mem_cons.1 h with h | h
  ·cases h;simp [mget]
  ·have:k'≠k:=fun e=>hn.1 (e ▸ List.mem_map_of_mem (f:=(·.1)) h)
   simp only [mget,if_neg this]
   exact dF hn.2 h
theorem mget_perm {m m':List (κ × β)}(h:m.Perm m')(hn:(m.map (·.1)).Nodup)(k:κ):mget m k=mget m' k:=by
 have hn':(m'.map (·.1)).Nodup:=(h.map (·.1)).nodup_iff.1 hn
 cases hg:mget m k with
 | some v=>exact (dF hn' (h.mem_iff.1 (eA hg))).symm
 | none =>
  cases hg':mget m' k with
  | none=>rfl
  | some v=>rw [dF hn (h.mem_iff.2 (eA hg'))] at hg;cases hg
end
abbrev Side:=Int × Int
def swapI (s:Side):Side:=(s.2,s.1)
def bordB (ks:List Side)(s:Side):Bool:=!(decide (swapI s∈ks))
def nxtV (B:List Side):List (Int × Value):=B.map fun s=>(s.1,.int .i64 s.2)
theorem nxtV_len (B:List Side):(nxtV B).length=B.length:=by simp [nxtV]
theorem er (B:List Side)(p:Int):mget (nxtV B) p=(mget B p).map (.int .i64):=mget_map (fun z:Int=>Value.int .i64 z) B p
theorem nxtV_new {B:List Side}{p q:Int}(h:mget B p=none):mset (nxtV B) p (.int .i64 q)=nxtV (B++[(p,q)]):=by
 rw [mset_new (by rw [er,h];rfl)]
 simp [nxtV]
def leastP (B:List Side)(f:Int):Prop:=(B=[]/\f=-1)∨(0<=f/\f∈B.map (·.1)/\∀ s∈B,f<=s.1)
def firstM (B:List Side):Int:=B.foldl (fun f s=>if f<0∨s.1<f then s.1 else f) (-1)
theorem leastP_snoc {B:List Side}{f:Int}(h:leastP B f)(s:Side)(hs:0<=s.1):leastP (B++[s]) (if f<0∨s.1<f then s.1 else f):=by
 right
 rcases h with ⟨rfl,rfl⟩ | ⟨h1,h2,h3⟩
 ·rw [if_pos (.inl (by decide))]
  exact ⟨hs,by simp,by simp⟩
 ·by_cases hlt:s.1<f
  ·rw [if_pos (.inr hlt)]
   refine ⟨hs,by simp,fun t ht=>?_⟩
   rcases List.mem_append.1 ht with ht | ht
   ·have:=h3 t ht;omega
   ·rw [List.mem_singleton.1 ht];exact Int.le_refl _
  ·rw [if_neg om_]
   refine ⟨h1,by rw [List.map_append];exact List.mem_append_left _ h2,fun t ht=>?_⟩
   rcases List.mem_append.1 ht with ht | ht
   ·exact h3 t ht
   ·rw [List.mem_singleton.1 ht];omega
theorem leastP_first {B:List Side}(h:∀ s∈B,0<=s.1):leastP B (firstM B):=by
 have key:∀ (B2 B1:List Side)(f:Int),(∀ s∈B2,0<=s.1)->leastP B1 f->leastP (B1++B2) (B2.foldl (fun f s=>if f<0∨s.1<f then s.1 else f) f):=by
  intro B2
  induction B2 with
  | nil=>intro B1 f _ h;simpa using h
  | cons s B2 ih =>
   intro B1 f h1 h2
   have:=ih (B1++[s]) _ (fun t ht=>h1 t (List.mem_cons_of_mem _ ht)) (leastP_snoc h2 s (h1 s List.mem_cons_self))
   simpa using this
 exact key B [] (-1) h (.inl ⟨rfl,rfl⟩)
theorem leastP_perm {B B':List Side}{f f':Int}(hp:B.Perm B')(h:leastP B f)(h':leastP B' f'):f=f':=by
 rcases h with ⟨rfl,rfl⟩ | ⟨h1,h2,h3⟩
 ·rcases h' with ⟨_,rfl⟩ | ⟨_,h5,_⟩
  ·rfl
  ·rw [<- hp.nil_eq] at h5;simp at h5
 ·rcases h' with ⟨rfl,_⟩ | ⟨h4,h5,h6⟩
  ·rw [hp.eq_nil] at h2;simp at h2
  ·obtain ⟨s,hs,rfl⟩:=List.mem_map.1 h2
   obtain ⟨t,ht,rfl⟩:=List.mem_map.1 h5
   have a:=h3 t (hp.mem_iff.2 ht)
   have b:=h6 s (hp.mem_iff.1 hs)
   omega
def walkM (B:List Side)(first:Int):Nat->Int->List Int->Option (List Int)
 | 0,_,out=>some out
 | k+1,p,out=>match mget B p with
  | none=>none
  | some q=>if p=first/\out≠[] then none else walkM B first k q (out++[p])
theorem walkM_perm {B B':List Side}(hp:B.Perm B')(hn:(B.map (·.1)).Nodup)(first:Int):∀ (k:Nat)(p:Int)(out:List Int),walkM B first k p out=walkM B' first k p out
 | 0,_,_=>rfl
 | k+1,p,out=>by
  simp only [walkM,mget_perm hp hn]
  cases mget B' p with
  | none=>rfl
  | some q=>simp only [walkM_perm hp hn first k]
def outM (ks:List Side):Option (List Int) :=
 if ((ks.filter (bordB ks)).map (·.1)).Nodup then walkM (ks.filter (bordB ks)) (firstM (ks.filter (bordB ks))) (ks.filter (bordB ks)).length (firstM (ks.filter (bordB ks))) [] else none
def outL (ks:List Side):List Int:=(outM ks).getD []
theorem outM_twice {ks B:List Side}{s t:Side}(hB:(B++[s]).Nodup)(hsub:∀ x∈B++[s],x∈ks.filter (bordB ks))(ht:t∈B)(he:t.1=s.1):outM ks=none:=by
 unfold outM
 rw [if_neg]
 intro hn
 have h1:=hsub s (by simp)
 have h2:=hsub t (by simp [ht])
 have hne:t≠s:=by
  rintro rfl
  rw [List.nodup_append] at hB
  exact hB.2.2 t ht t (by simp) rfl
 have h3:=dF hn (k:=s.1) (v:=s.2) h1
 have h4:=dF hn (k:=t.1) (v:=t.2) h2
 rw [he,h3] at h4
 exact hne (Prod.ext he (Option.some.inj h4).symm)
theorem outM_all {ks B:List Side}{f:Int}(hp:B.Perm (ks.filter (bordB ks)))(hn:(B.map (·.1)).Nodup)(hk:∀ s∈ks,0<=s.1)(hf:leastP B f):outM ks=walkM B f B.length f []:=by
 unfold outM
 rw [if_pos ((hp.map (·.1)).nodup_iff.1 hn),<- walkM_perm hp hn,<- hp.length_eq,<- leastP_perm hp hf (leastP_first fun s hs=>hk s (List.mem_filter.1 hs).1)]
theorem walkM_none {B:List Side}{first:Int}{k:Nat}{p:Int}{out:List Int}(h:mget B p=none∨(p=first/\out≠[])):walkM B first (k+1) p out=none:=by
 simp only [walkM]
 rcases h with h | h
 ·rw [h]
 ·cases mget B p with
  | none=>rfl
  | some q=>simp [h]
theorem walkM_some {B:List Side}{first:Int}{k:Nat}{p q:Int}{out:List Int}(h:mget B p=some q)(h2:¬ (p=first/\out≠[])):walkM B first (k+1) p out=walkM B first k q (out++[p]):=by
 simp only [walkM,h]
 rw [if_neg h2]
def dm (ks:List Side)(seen:List Nat):List Side:=(seen.map fun j=>ks.getD j (0,0)).filter (bordB ks)
theorem seen_perm {α:Type}{d:α}{seen:List Nat}{ks:List α}(hn:seen.Nodup)(hl:∀ j∈seen,j<ks.length)(hall:∀ j,j<ks.length->j∈seen):(seen.map fun j=>ks.getD j d).Perm ks:=by
 have hp:seen.Perm (List.range ks.length):=(List.perm_ext_iff_of_nodup hn List.nodup_range).2 (fun j=>by
  rw [List.mem_range]
  exact ⟨fun h=>hl j h,fun h=>hall j h⟩)
 refine (hp.map _).trans (List.Perm.of_eq ?_)
 refine List.ext_getElem? (fun i=>?_)
 rw [List.getElem?_map]
 rcases Nat.lt_or_ge i ks.length with h | h
 ·rw [List.getElem?_range h]
  simp [List.getD_eq_getElem?_getD,List.getElem?_eq_getElem h]
 ·rw [List.getElem?_eq_none (by simpa using h),List.getElem?_eq_none h];rfl
theorem seenB_snoc {ks:List Side}{seen:List Nat}{j:Nat}{s:Side}(h:ks[j]?=some s):dm ks (seen++[j])=dm ks seen++if bordB ks s then [s] else []:=by
 unfold dm
 rw [List.map_append,List.filter_append]
 congr 1
 rw [List.map_cons,List.map_nil,List.getD_eq_getElem?_getD,h,List.filter_cons]
 rfl
theorem seenB_sub {ks:List Side}{seen:List Nat}(hl:∀ j∈seen,j<ks.length):∀ x∈dm ks seen,x∈ks.filter (bordB ks):=by
 intro x hx
 rw [dm,List.mem_filter] at hx
 obtain ⟨j,hj,rfl⟩:=List.mem_map.1 hx.1
 rw [List.mem_filter]
 refine ⟨?_,hx.2⟩
 rw [List.getD_eq_getElem?_getD,List.getElem?_eq_getElem (hl j hj)]
 exact List.getElem_mem _
theorem seenB_nodup {ks:List Side}(hk:ks.Nodup):∀ {seen:List Nat},seen.Nodup->(∀ j∈seen,j<ks.length)->(dm ks seen).Nodup:=by
 intro seen hn hl
 unfold dm
 refine List.Pairwise.filter _ ?_
 rw [List.pairwise_map]
 refine List.Pairwise.imp_of_mem ?_ hn
 intro a b ha hb hab e
 rw [List.getD_eq_getElem?_getD,List.getD_eq_getElem?_getD,List.getElem?_eq_getElem (hl a ha),List.getElem?_eq_getElem (hl b hb)] at e
 exact hab ((List.getElem_inj hk).1 e)
theorem PtrTo.blockT {C:Mem}{b:Nat}{cs:List Value}{t:TypeId}{fz:Nat × Nat}(h:C b=some (.cells ⟨cs⟩ t fz))(off n:Nat):PtrTo C (.pointer (some ⟨b,off,none⟩)) ((cs.drop off).take n) :=
 let ⟨a,h1,h2,h3⟩:=PtrTo.block h off
 ⟨a,h1,h2,fun j v hj=>h3 j v (by
  rw [List.getElem?_take] at hj
  split at hj
  ·exact hj
  ·cases hj)⟩
theorem bkT {C D:Mem}{b:Nat}{cs:List Value}{t:TypeId}{fz:Nat × Nat}(h:C b=some (.cells ⟨cs⟩ t fz))(n:Nat){off:Nat}(hl:C.le D:=by (repeat (first | exact Mem.le.refl _ | assumption | (apply Mem.le.trans;rotate_left;assumption)))):PtrTo D (.pointer (some ⟨b,off,none⟩)) ((cs.drop off).take n):=PtrTo.blockT (Mem.get h hl) off n
theorem lookV_tup (z:Value)(o:Option Value):lookV z true o=.tuple #[o.getD z,.bool o.isSome]:=by cases o <;> rfl
section
variable {F:Fx} {k:List KI} {fr:Fr} {C:Mem} {L:List Ent}
theorem G.formS {e:Exit}{v:Value}{t size len:Nat}{xs:List Value}(hm:Ent.arr v t size len xs∈L)(h:∀ A c,v=.slice A len c->xs.length=len*size->len<=c->c<=maxLen->G F k e fr C L):G F k e fr C L :=
 G.form hm fun hf hx=>by
  rcases hf with ⟨h1,h2⟩ | ⟨g,c,h1,h2,h3⟩
  ·exact h none 0 (by rw [h1,h2]) hx om_ (Nat.zero_le _)
  ·exact h _ c h1 hx h2 h3
end
end Go.Jog
