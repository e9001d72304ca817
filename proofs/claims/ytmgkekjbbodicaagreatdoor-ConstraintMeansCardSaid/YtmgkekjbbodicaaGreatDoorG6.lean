/- Laws that the proofs of this seat share, part 6. -/
import Derived.Test.YtmgkekjbbodicaaGreatDoorG5
import Derived.Test.YtmgkekjbbodicaaGreatDoorShelf
import Derived.RangeFuncBox
import Derived.RangeFuncLeaves
import Derived.Shelf.Abstract
import Derived.WalkKit
import Derived.OwnWalkIn
import Derived.TacticsInMore
import Derived.LoopNIn
import Derived.LoopIn
import Derived.Stop.RegionWithIn
import Derived.Test.YtmgkekjbbodicaaGreatDoorProg
import Derived.Laws.IdiomRangeMap
import Derived.WideKeyRuns
set_option maxHeartbeats 4000000
namespace Go.Proofs.YtmgkekjbbodicaaGreatDoor
open Go Go.Jog
set_option maxRecDepth 100000

theorem rquick_q (C:Mem)(q:Rat)(hl:(qtx q).length<=1000000):Gives cx.P 166 [strV (qtx q)] C (.tuple #[.int .i64 (if fitQ q then q.num else 0),.int .i64 (if fitQ q then ((q.den:Nat):Int) else 0),.bool (fitQ q)]):=by
 have h:=rquick_fn C q hl
 cases hf:fitQ q with
 | true=>rw [hf] at h;exact h
 | false=>rw [hf] at h;exact h
def cmpQ (a b:Rat):Int:=if a<b then -1 else if b<a then 1 else 0
theorem cmpQ_of {a b:Rat}:cmpQ a b=cmpZ (a.num*b.den) (b.num*a.den):=by
 unfold cmpQ cmpZ
 simp only [Rat.lt_iff]
theorem dp (a:Rat):0<a.den:=Nat.pos_of_ne_zero a.den_nz
theorem nine_mul {a:Int}{d:Nat}(ha:a.natAbs<1000000000)(hd:d<1000000000):-1000000000000000000<a*(d:Int)/\a*(d:Int)<1000000000000000000:=prod18 ha (by rw [Int.natAbs_natCast];exact hd)
theorem nine_mulN {a d:Nat}(ha:a<1000000000)(hd:d<1000000000):a*d<1000000000000000000:=Nat.mul_lt_mul'' ha hd
theorem parts_z (C:Mem)(q:Rat)(hl:(qtx q).length<1000000):Gives cx.P 141 [strV (qtx q)] C (.tuple #[strV (txt q.num),strV (txt ((q.den:Nat):Int))]):=by
 have h:=parts_q C q hl
 rwa [<- bM] at h
theorem bI {z w:Int}{k:Nat}(hz:z.natAbs<B9 ^ k)(hw:w.natAbs<B9 ^ k):(z*w).natAbs<B9 ^ (k+k):=by
 rw [Int.natAbs_mul]
 exact prod_lt9 hz hw
theorem divS_pos {z:Int}{d:Nat}(hd:0<d):divS z ((d:Nat):Int)=mkRat z d:=by
 unfold divS
 rw [if_neg (by omega),Int.natAbs_natCast]
theorem denI {k:Nat}{q:Rat}(h:QB k q):((q.den:Nat):Int).natAbs<B9 ^ k:=by rw [Int.natAbs_natCast];exact h.2
theorem fb (C:Mem)(hT:Tabs C)(a b:Rat)(k:Nat)(hk0:0<k)(hk:k<=20000)(ha:QB k a)(hb:QB k b):Gives cx.P 116 [strV (qtx a),strV (qtx b)] C (.int .i64 (cmpQ a b)):=by
 have hal:=bA ha hk0
 have hbl:=bA hb hk0
 refine Fn.it (by kernel_rfl) Tryz.func116 65 fun w0=>?_
 refine G.z2 1 0 1 ?_
 refine G.z3 3 0 1 19 ?_
 refine G.cd (fun h19=>?_) fun h19=>?_
 ·have h0:a=b:=by rw [qtxEq] at h19;exact of_decide_eq_true h19
  refine G.z1 1 4 ?_
  refine G.rf ?_
  refine ⟨?_,rfl⟩
  subst h0
  rw [cmpQ,if_neg (Rat.lt_irrefl),if_neg (Rat.lt_irrefl)]
 ·refine G.rp 1 fun R hR=>?_
  refine D.af (rquick_q _ a (by omega)) rfl rfl rfl rfl rfl rfl rfl (fun _=>rfl) ?_
  refine D.q5 7 0 1 5 6 7 hR ?_
  refine G.z5 1 0 1 5 6 26 ?_
  refine G.cut (fun fr C' L' μ=>(True)/\fr=[(0,[],strV (qtx a)),(1,[],strV (qtx b))]/\L'=[]) ?_ (fun fr C26 L26 μ hle26 hI=>?_)
  ·refine G.cd (fun h26=>?_) fun h26=>?_
   ·have hfa:fitQ a=true:=h26
    rw [if_pos hfa,if_pos hfa]
    have ha9:=fitQ_lt hfa
    refine G.rp 1 fun R hR=>?_
    refine D.af (rquick_q _ b (by omega)) rfl rfl rfl rfl rfl rfl rfl (fun _=>rfl) ?_
    refine D.q7 7 0 1 5 6 8 9 10 hR ?_
    refine G.z7 1 0 1 5 6 8 9 33 ?_
    refine G.cd (fun h33=>?_) fun h33=>?_
    ·have hfb:fitQ b=true:=h33
     rw [if_pos hfb,if_pos hfb]
     have hb9:=fitQ_lt hfb
     have hm1:=nine_mul ha9.1 hb9.2
     have hm2:=nine_mul hb9.1 ha9.2
     refine G.rp 2 fun R hR=>?_
     refine D.am _ ?_
     refine D.ps 2 ?_
     refine D.am _ ?_
     refine D.q2 2 11 12 hR ?_
     refine G.z3 4 11 12 40 ?_
     refine G.cd (fun h40=>?_) fun h40=>?_
     ·have h1:=of_decide_eq_true h40
      refine G.z1 1 4 ?_
      refine G.rf ?_
      refine ⟨?_,rfl⟩
      rw [cmpQ_of,cmpZ,if_pos h1]
     ·have h1:=of_decide_eq_false h40
      refine G.z1 4 44 ?_
      refine G.cd (fun h44=>?_) fun h44=>?_
      ·have h2:=of_decide_eq_true h44
       refine G.z1 1 4 ?_
       refine G.rf ?_
       refine ⟨?_,rfl⟩
       rw [cmpQ_of,cmpZ,if_neg h1,if_pos h2]
      ·have h2:=of_decide_eq_false h44
       refine G.z1 1 4 ?_
       refine G.rf ?_
       refine ⟨?_,rfl⟩
       rw [cmpQ_of,cmpZ,if_neg h1,if_neg h2]
    ·refine G.ax 0 (Mem.le.refl _) (h_2 0 1) ⟨trivial,rfl,rfl⟩
   ·refine G.ax 0 (Mem.le.refl _) (h_2 0 1) ⟨trivial,rfl,rfl⟩
  ·obtain ⟨_,rfl,rfl⟩:=hI
   refine G.rp 1 fun R hR=>?_
   refine D.af (parts_z _ a (by omega)) rfl rfl rfl rfl rfl rfl rfl (fun _=>rfl) ?_
   refine D.q3 5 1 13 14 hR ?_
   refine G.rp 1 fun R hR=>?_
   refine D.af (parts_z _ b (by omega)) rfl rfl rfl rfl rfl rfl rfl (fun _=>rfl) ?_
   refine D.q4 5 13 14 15 16 hR ?_
   refine G.rp 2 fun R hR=>?_
   refine D.af (imul_fn _ (hT.mono mup) _ _ k hk0 (by omega) ha.1 (denI hb)) rfl rfl rfl rfl rfl rfl rfl (fun _=>rfl) ?_
   refine D.ps 2 ?_
   refine D.af (imul_fn _ (hT.mono mup) _ _ k hk0 (by omega) hb.1 (denI ha)) rfl rfl rfl rfl rfl rfl rfl (fun _=>rfl) ?_
   refine D.af (icompare_fn _ _ _ (by have:=bC (bI ha.1 (denI hb)) (by omega);omega) (by have:=bC (bI hb.1 (denI ha)) (by omega);omega)) rfl rfl rfl rfl rfl rfl rfl (fun _=>rfl) ?_
   refine D.q1 1 4 hR ?_
   refine G.rf ?_
   exact ⟨by rw [cmpQ_of],rfl⟩
theorem radd_fn (C:Mem)(hT:Tabs C)(a b:Rat)(k:Nat)(hk0:0<k)(hk:k<=10000)(ha:QB k a)(hb:QB k b):Gives cx.P 114 [strV (qtx a),strV (qtx b)] C (strV (qtx (a+b))):=by
 have hal:=bA ha hk0
 have hbl:=bA hb hk0
 have hda:=dp a
 have hdb:=dp b
 have hdd:0<a.den*b.den:=Nat.mul_pos hda hdb
 refine Fn.it (by kernel_rfl) Tryz.func114 67 fun w0=>?_
 refine G.z2 1 0 1 ?_
 refine G.z3 2 0 1 16 ?_
 refine G.cd (fun h16=>?_) fun h16=>?_
 ·have h0:a=0:=by rw [dF] at h16;exact of_decide_eq_true h16
  refine G.z1 2 4 ?_
  refine G.rf ?_
  refine ⟨?_,rfl⟩
  rw [h0,Rat.zero_add]
 ·refine G.z3 2 0 1 19 ?_
  refine G.cd (fun h19=>?_) fun h19=>?_
  ·have h0:b=0:=by rw [dF] at h19;exact of_decide_eq_true h19
   refine G.z1 2 4 ?_
   refine G.rf ?_
   refine ⟨?_,rfl⟩
   rw [h0,Rat.add_zero]
  ·refine G.rp 1 fun R hR=>?_
   refine D.af (rquick_q _ a (by omega)) rfl rfl rfl rfl rfl rfl rfl (fun _=>rfl) ?_
   refine D.q5 7 0 1 5 6 7 hR ?_
   refine G.z5 1 0 1 5 6 27 ?_
   refine G.cut (fun fr C' L' μ=>(True)/\fr=[(0,[],strV (qtx a)),(1,[],strV (qtx b))]/\L'=[]) ?_ (fun fr C27 L27 μ hle27 hI=>?_)
   ·refine G.cd (fun h27=>?_) fun h27=>?_
    ·have hfa:fitQ a=true:=h27
     rw [if_pos hfa,if_pos hfa]
     have ha9:=fitQ_lt hfa
     refine G.rp 1 fun R hR=>?_
     refine D.af (rquick_q _ b (by omega)) rfl rfl rfl rfl rfl rfl rfl (fun _=>rfl) ?_
     refine D.q7 7 0 1 5 6 8 9 10 hR ?_
     refine G.z7 1 0 1 5 6 8 9 34 ?_
     refine G.cd (fun h34=>?_) fun h34=>?_
     ·have hfb:fitQ b=true:=h34
      rw [if_pos hfb,if_pos hfb]
      have hb9:=fitQ_lt hfb
      have hm1:=nine_mul ha9.1 hb9.2
      have hm2:=nine_mul hb9.1 ha9.2
      have hm3:=nine_mulN ha9.2 hb9.2
      refine G.rp 2 fun R hR=>?_
      refine D.am _ ?_
      refine D.ps 2 ?_
      refine D.am _ ?_
      refine D.am _ ?_
      refine D.ps 2 ?_
      refine D.cg (((a.den*b.den:Nat):Int)) rfl rfl rfl rfl (Int.natCast_mul _ _).symm (by omega) (by omega) rfl rfl ?_
      refine D.af (rsmall_fn _ (hT.mono mup) _ _ hdd (by omega) (by omega)) rfl rfl rfl rfl rfl rfl rfl (fun _=>rfl) ?_
      refine D.q1 1 4 hR ?_
      refine G.rf ?_
      exact ⟨by rw [dR],rfl⟩
     ·refine G.ax 0 (Mem.le.refl _) (h_2 0 1) ⟨trivial,rfl,rfl⟩
    ·refine G.ax 0 (Mem.le.refl _) (h_2 0 1) ⟨trivial,rfl,rfl⟩
   ·obtain ⟨_,rfl,rfl⟩:=hI
    refine G.rp 1 fun R hR=>?_
    refine D.af (parts_z _ a (by omega)) rfl rfl rfl rfl rfl rfl rfl (fun _=>rfl) ?_
    refine D.q3 5 1 11 12 hR ?_
    refine G.rp 1 fun R hR=>?_
    refine D.af (parts_z _ b (by omega)) rfl rfl rfl rfl rfl rfl rfl (fun _=>rfl) ?_
    refine D.q4 5 11 12 13 14 hR ?_
    refine G.rp 2 fun R hR=>?_
    refine D.af (imul_fn _ (hT.mono mup) _ _ k hk0 (by omega) ha.1 (denI hb)) rfl rfl rfl rfl rfl rfl rfl (fun _=>rfl) ?_
    refine D.ps 2 ?_
    refine D.af (imul_fn _ (hT.mono mup) _ _ k hk0 (by omega) hb.1 (denI ha)) rfl rfl rfl rfl rfl rfl rfl (fun _=>rfl) ?_
    refine D.af (iadd_fn _ (hT.mono mup) _ _ (k+k) (by omega) (by omega) (bI ha.1 (denI hb)) (bI hb.1 (denI ha))) rfl rfl rfl rfl rfl rfl rfl (fun _=>rfl) ?_
    refine D.ps 2 ?_
    refine D.af (imul_fn _ (hT.mono mup) _ _ k hk0 (by omega) (denI ha) (denI hb)) rfl rfl rfl rfl rfl rfl rfl (fun _=>rfl) ?_
    refine D.af (lowest_fn _ (hT.mono mup) _ _ (k+k+1) (by omega) (by omega) (Nat.lt_of_le_of_lt (Int.natAbs_add_le _ _) (sum_lt9 (bI ha.1 (denI hb)) (bI hb.1 (denI ha)))) (cA (bI (denI ha) (denI hb)) (by omega)) (by rw [<- Int.natCast_mul];omega)) rfl rfl rfl rfl rfl rfl rfl (fun _=>rfl) ?_
    refine D.q1 1 4 hR ?_
    refine G.rf ?_
    exact ⟨by rw [dR,<- Int.natCast_mul,divS_pos hdd],rfl⟩

theorem QB_add {a b:Rat}{k:Nat}(ha:QB k a)(hb:QB k b):QB (k+k+1) (a+b):=by
 rw [dR]
 exact mk_bound (Nat.ne_of_gt (Nat.mul_pos (dp a) (dp b))) (Nat.lt_of_le_of_lt (Int.natAbs_add_le _ _) (sum_lt9 (bI ha.1 (denI hb)) (bI hb.1 (denI ha)))) (cA (prod_lt9 ha.2 hb.2) (by omega))
theorem QB_mul {a b:Rat}{k:Nat}(ha:QB k a)(hb:QB k b):QB (k+k) (a*b):=by
 rw [dQ]
 exact mk_bound (Nat.ne_of_gt (Nat.mul_pos (dp a) (dp b))) (bI ha.1 hb.1) (prod_lt9 ha.2 hb.2)
theorem QB_neg {a:Rat}{k:Nat}(ha:QB k a):QB k (-a):=⟨by rw [Rat.neg_num,Int.natAbs_neg];exact ha.1,by rw [Rat.neg_den];exact ha.2⟩
theorem QB_sub {a b:Rat}{k:Nat}(ha:QB k a)(hb:QB k b):QB (k+k+1) (a-b):=by
 rw [Rat.sub_eq_add_neg];exact QB_add ha (QB_neg hb)
theorem QB_inv {a:Rat}{k:Nat}(ha:QB k a)(h0:a≠0):QB k a⁻¹:=by
 have hn:a.num≠0:=fun e=>h0 (Rat.num_eq_zero.1 e)
 refine ⟨?_, ?_⟩
 ·rw [Rat.num_inv,Int.natAbs_mul,Int.natAbs_sign_of_ne_zero hn,Nat.one_mul,Int.natAbs_natCast];exact ha.2
 ·rw [Rat.den_inv,if_neg hn];exact ha.1
theorem QB_div {a b:Rat}{k:Nat}(ha:QB k a)(hb:QB k b)(h0:b≠0):QB (k+k) (a / b):=by
 rw [Rat.div_def];exact QB_mul ha (QB_inv hb h0)
theorem QB_int {z:Int}{k:Nat}(h:z.natAbs<B9 ^ k)(hk:0<k):QB k (z:Rat):=⟨h,by
 show 1<B9 ^ k
 exact Nat.lt_of_lt_of_le (by decide:1<B9 ^ 1) (Nat.pow_le_pow_right (by decide) hk)⟩
theorem dB (C:Mem)(hT:Tabs C)(a b:Rat)(k:Nat)(hk0:0<k)(hk:k<=10000)(ha:QB k a)(hb:QB k b):Gives cx.P 115 [strV (qtx a),strV (qtx b)] C (strV (qtx (a*b))):=by
 have hal:=bA ha hk0
 have hbl:=bA hb hk0
 have hda:=dp a
 have hdb:=dp b
 have hdd:0<a.den*b.den:=Nat.mul_pos hda hdb
 refine Fn.it (by kernel_rfl) Tryz.func115 66 fun w0=>?_
 refine G.z2 1 0 1 ?_
 refine G.z3 3 0 1 15 ?_
 refine G.cut (fun fr C' L' μ=>(True)/\fr=[(0,[],strV (qtx a)),(1,[],strV (qtx b)),(15,[],.bool (decide (a=0∨b=0)))]/\L'=[]) ?_ (fun fr C15 L15 μ hle15 hI=>?_)
 ·refine G.cd (fun h15=>?_) fun h15=>?_
  ·have h0:a=0:=by rw [dF] at h15;exact of_decide_eq_true h15
   rw [dF,show decide (a=0)=decide (a=0∨b=0) by simp [h0]]
   refine G.ax 0 (Mem.le.refl _) (h_3 0 1 15) ⟨trivial,rfl,rfl⟩
  ·have h0:¬ a=0:=by rw [dF] at h15;exact of_decide_eq_false h15
   refine G.z3 3 0 1 15 ?_
   rw [dF,show decide (b=0)=decide (a=0∨b=0) by simp [h0]]
   refine G.ax 0 (Mem.le.refl _) (h_3 0 1 15) ⟨trivial,rfl,rfl⟩
 ·obtain ⟨_,rfl,rfl⟩:=hI
  refine G.cd (fun h15b=>?_) fun h15b=>?_
  ·have h0:=of_decide_eq_true h15b
   refine G.z1 1 4 ?_
   refine G.rf ?_
   refine ⟨?_,rfl⟩
   rw [show a*b=0 by rcases h0 with h | h <;> simp [h],qtx_zero]
   rfl
  ·refine G.z3 3 0 1 20 ?_
   refine G.cd (fun h20=>?_) fun h20=>?_
   ·have h1:a=1:=by rw [qtxEq1] at h20;exact of_decide_eq_true h20
    refine G.z1 2 4 ?_
    refine G.rf ?_
    refine ⟨?_,rfl⟩
    rw [h1,Rat.one_mul]
   ·refine G.z3 3 0 1 24 ?_
    refine G.cd (fun h24=>?_) fun h24=>?_
    ·have h1:b=1:=by rw [qtxEq1] at h24;exact of_decide_eq_true h24
     refine G.z1 2 4 ?_
     refine G.rf ?_
     refine ⟨?_,rfl⟩
     rw [h1,Rat.mul_one]
    ·refine G.rp 1 fun R hR=>?_
     refine D.af (rquick_q _ a (by omega)) rfl rfl rfl rfl rfl rfl rfl (fun _=>rfl) ?_
     refine D.q5 7 0 1 5 6 7 hR ?_
     refine G.z5 1 0 1 5 6 34 ?_
     refine G.cut (fun fr C' L' μ=>(True)/\fr=[(0,[],strV (qtx a)),(1,[],strV (qtx b))]/\L'=[]) ?_ (fun fr C34 L34 μ hle34 hI=>?_)
     ·refine G.cd (fun h34=>?_) fun h34=>?_
      ·have hfa:fitQ a=true:=h34
       rw [if_pos hfa,if_pos hfa]
       have ha9:=fitQ_lt hfa
       refine G.rp 1 fun R hR=>?_
       refine D.af (rquick_q _ b (by omega)) rfl rfl rfl rfl rfl rfl rfl (fun _=>rfl) ?_
       refine D.q7 7 0 1 5 6 8 9 10 hR ?_
       refine G.z7 1 0 1 5 6 8 9 41 ?_
       refine G.cd (fun h41=>?_) fun h41=>?_
       ·have hfb:fitQ b=true:=h41
        rw [if_pos hfb,if_pos hfb]
        have hb9:=fitQ_lt hfb
        have hm1:=prod18 ha9.1 hb9.1
        have hm3:=nine_mulN ha9.2 hb9.2
        refine G.rp 2 fun R hR=>?_
        refine D.am _ ?_
        refine D.ps 2 ?_
        refine D.cg (((a.den*b.den:Nat):Int)) rfl rfl rfl rfl (Int.natCast_mul _ _).symm (by omega) (by omega) rfl rfl ?_
        refine D.af (rsmall_fn _ (hT.mono mup) _ _ hdd (by omega) (by omega)) rfl rfl rfl rfl rfl rfl rfl (fun _=>rfl) ?_
        refine D.q1 1 4 hR ?_
        refine G.rf ?_
        exact ⟨by rw [dQ],rfl⟩
       ·refine G.ax 0 (Mem.le.refl _) (h_2 0 1) ⟨trivial,rfl,rfl⟩
      ·refine G.ax 0 (Mem.le.refl _) (h_2 0 1) ⟨trivial,rfl,rfl⟩
     ·obtain ⟨_,rfl,rfl⟩:=hI
      refine G.rp 1 fun R hR=>?_
      refine D.af (parts_z _ a (by omega)) rfl rfl rfl rfl rfl rfl rfl (fun _=>rfl) ?_
      refine D.q3 5 1 11 12 hR ?_
      refine G.rp 1 fun R hR=>?_
      refine D.af (parts_z _ b (by omega)) rfl rfl rfl rfl rfl rfl rfl (fun _=>rfl) ?_
      refine D.q4 5 11 12 13 14 hR ?_
      refine G.rp 2 fun R hR=>?_
      refine D.af (imul_fn _ (hT.mono mup) _ _ k hk0 (by omega) ha.1 hb.1) rfl rfl rfl rfl rfl rfl rfl (fun _=>rfl) ?_
      refine D.ps 2 ?_
      refine D.af (imul_fn _ (hT.mono mup) _ _ k hk0 (by omega) (denI ha) (denI hb)) rfl rfl rfl rfl rfl rfl rfl (fun _=>rfl) ?_
      refine D.af (lowest_fn _ (hT.mono mup) _ _ (k+k) (by omega) (by omega) (bI ha.1 hb.1) (bI (denI ha) (denI hb)) (by rw [<- Int.natCast_mul];omega)) rfl rfl rfl rfl rfl rfl rfl (fun _=>rfl) ?_
      refine D.q1 1 4 hR ?_
      refine G.rf ?_
      exact ⟨by rw [dQ,<- Int.natCast_mul,divS_pos hdd],rfl⟩
theorem cR (C:Mem)(hT:Tabs C)(a b:Rat)(k:Nat)(hk0:0<k)(hk:k<=10000)(ha:QB k a)(hb:QB k b):Gives cx.P 146 [strV (qtx a),strV (qtx b)] C (strV (qtx (a-b))):=by
 have hbl:=bA hb hk0
 refine Fn.it (by kernel_rfl) Tryz.func146 9 fun w0=>?_
 refine G.z2 1 0 1 ?_
 refine G.rp 2 fun R hR=>?_
 refine D.af (rneg_fn _ b (by omega)) rfl rfl rfl rfl rfl rfl rfl (fun _=>rfl) ?_
 refine D.ah (radd_fn _ (hT.mono mup) a (-b) k hk0 hk ha (QB_neg hb)) ?_
 refine D.q1 1 4 hR ?_
 refine G.rf ?_
 exact ⟨by rw [Rat.sub_eq_add_neg],rfl⟩
theorem rdiv_fn (C:Mem)(hT:Tabs C)(a b:Rat)(k:Nat)(hk0:0<k)(hk:k<=10000)(ha:QB k a)(hb:QB k b)(hb0:b≠0):Gives cx.P 90 [strV (qtx a),strV (qtx b)] C (.tuple #[strV (qtx (a / b)),.int .i64 0]):=by
 have hbl:=bA hb hk0
 have hbn:b.num≠0:=fun e=>hb0 (Rat.num_eq_zero.1 e)
 obtain ⟨c,r,hcr,hcd⟩:=qtx_head b
 refine Fn.it (by kernel_rfl) Tryz.func90 27 fun w0=>?_
 refine G.z2 2 0 1 ?_
 refine G.z3 2 0 1 9 ?_
 refine G.cd (fun h9=>?_) fun h9=>?_
 ·exfalso
  rw [dF] at h9
  exact hb0 (of_decide_eq_true h9)
 ·refine G.rp 1 fun R hR=>?_
  refine D.af (parts_z _ b (by omega)) rfl rfl rfl rfl rfl rfl rfl (fun _=>rfl) ?_
  refine D.q4 5 0 1 6 7 hR ?_
  refine G.rp 1 fun R hR=>?_
  refine D.a7 rfl rfl rfl rfl rfl rfl rfl rfl (fun _=>⟨by omega,by rw [hcr];rfl⟩) rfl rfl ?_
  refine D.q4 1 0 6 7 17 hR ?_
  refine G.cut (fun fr C' L' μ=>(True)/\fr=[(0,[],strV (qtx a)),(6,[],strV (txt (b.num.natAbs:Nat))),(7,[],strV (txt (b⁻¹).num))]/\L'=[]) ?_ (fun fr C17 L17 μ hle17 hI=>?_)
  ·refine G.cd (fun h17=>?_) fun h17=>?_
   ·have hn:b.num<0:=by rw [hcd] at h17;exact of_decide_eq_true h17
    refine G.rp 1 fun R hR=>?_
    refine D.af (ineg_fn _ b.num (by have:=bC hb.1 hk0;omega)) rfl rfl rfl rfl rfl rfl rfl (fun _=>rfl) ?_
    refine D.ae ?_
    refine D.af (ineg_fn _ ((b.den:Nat):Int) (by have:=bC (denI hb) hk0;omega)) rfl rfl rfl rfl rfl rfl rfl (fun _=>rfl) ?_
    refine D.q3 2 0 6 7 hR ?_
    rw [show -b.num=((b.num.natAbs:Nat):Int) by omega,show -((b.den:Nat):Int)=(b⁻¹).num by rw [Rat.num_inv,Int.sign_eq_neg_one_of_neg hn,Int.neg_one_mul]]
    refine G.ax 0 (Mem.le.refl _) (h_3 0 6 7) ⟨trivial,rfl,rfl⟩
   ·have hn:¬ b.num<0:=by rw [hcd] at h17;exact of_decide_eq_false h17
    rw [show b.num=((b.num.natAbs:Nat):Int) by omega,show ((b.den:Nat):Int)=(b⁻¹).num by rw [Rat.num_inv,Int.sign_eq_one_of_pos (by omega),Int.one_mul]]
    refine G.ax 0 (Mem.le.refl _) (h_3 0 6 7) ⟨trivial,rfl,rfl⟩
  ·obtain ⟨_,rfl,rfl⟩:=hI
   rw [bM,show b.num.natAbs=(b⁻¹).den by rw [Rat.den_inv,if_neg hbn]]
   refine G.rp 3 fun R hR=>?_
   refine D.af (join_fn _ _ _ k hk0 (by omega) (QB_inv hb hb0).1 (QB_inv hb hb0).2) rfl rfl rfl rfl rfl rfl rfl (fun _=>rfl) ?_
   rw [<- qtx_txt b⁻¹]
   refine D.ah (dB _ (hT.mono mup) a b⁻¹ k hk0 hk ha (QB_inv hb hb0)) ?_
   refine D.q2 2 4 5 hR ?_
   refine G.aA (G.dropAll (G.aP rfl rfl rfl ?_))
   exact ⟨by rw [Rat.div_def],rfl⟩
theorem rnew_fn (C:Mem)(hT:Tabs C)(z w:Int)(k:Nat)(hk0:0<k)(hk:k<=40000)(hz:z.natAbs<B9 ^ k)(hw:w.natAbs<B9 ^ k)(hw0:w≠0):Gives cx.P 136 [strV (txt z),strV (txt w)] C (.tuple #[strV (qtx (divS z w)),.int .i64 0]):=by
 refine Fn.it (by kernel_rfl) Tryz.func136 12 fun w0=>?_
 refine G.z2 2 0 1 ?_
 refine G.rp 1 fun R hR=>?_
 refine D.ah (isign_fn _ w) ?_
 refine D.q3 1 0 1 8 hR ?_
 refine G.cd (fun h8=>?_) fun h8=>?_
 ·exfalso
  have h:sgnZ w=0:=by simpa using h8
  rcases cU w with h2 | h2 | h2 <;> omega
 ·refine G.rp 2 fun R hR=>?_
  refine D.ah (lowest_fn _ (hT.mono mup) z w k hk0 hk hz hw hw0) ?_
  refine D.q2 2 4 5 hR ?_
  refine G.aA (G.dropAll (G.aP rfl rfl rfl ?_))
  exact ⟨rfl,rfl⟩
theorem rof_fn (C:Mem)(hT:Tabs C)(z w:Int)(hz:z.natAbs<9000000000000000000)(hw:w.natAbs<9000000000000000000)(hw0:w≠0):Gives cx.P 81 [.int .i64 z,.int .i64 w] C (.tuple #[strV (qtx (divS z w)),.int .i64 0]):=by
 have hb3:9000000000000000000<B9 ^ 3:=by decide
 refine Fn.it (by kernel_rfl) Tryz.func81 13 fun w0=>?_
 refine G.z2 2 0 1 ?_
 refine G.rp 1 fun R hR=>?_
 refine D.af (iof_fn _ (hT.mono mup) z (by omega) (by omega)) rfl rfl rfl rfl rfl rfl rfl (fun _=>rfl) ?_
 refine D.ae ?_
 refine D.af (iof_fn _ (hT.mono mup) w (by omega) (by omega)) rfl rfl rfl rfl rfl rfl rfl (fun _=>rfl) ?_
 refine D.af (rnew_fn _ (hT.mono mup) z w 3 (by decide) (by decide) (by omega) (by omega) hw0) rfl rfl rfl rfl rfl rfl rfl (fun _=>rfl) ?_
 refine D.q2 4 4 5 hR ?_
 refine G.aA (G.dropAll (G.aP rfl rfl rfl ?_))
 exact ⟨rfl,rfl⟩
theorem whole_fn (C:Mem)(hT:Tabs C)(z:Int)(hz:z.natAbs<9000000000000000000):Gives cx.P 82 [.int .i64 z] C (strV (qtx z)):=by
 refine Fn.it (by kernel_rfl) Tryz.func82 5 fun w0=>?_
 refine G.z1 1 0 ?_
 refine G.rp 1 fun R hR=>?_
 refine D.af (iof_fn _ (hT.mono mup) z (by omega) (by omega)) rfl rfl rfl rfl rfl rfl rfl (fun _=>rfl) ?_
 refine D.q1 1 2 hR ?_
 refine G.rf ?_
 exact ⟨by rw [qtx_int],rfl⟩

theorem pow9 (k:Nat):B9 ^ k=10 ^ (9*k):=by rw [Nat.pow_mul]
theorem dP {s:Str}(h:bJ s=true):s=txt (decZ s)/\(decZ s).natAbs<B9 ^ 23:=by
 have h1:=rightI_iff.1 h
 refine ⟨canon_txt (by unfold bJ at h;exact (Bool.and_eq_true_iff.1 h).1), ?_⟩
 rw [decZ_abs]
 have h2:=okD_can.1 h1.1
 have h3:=cE h2.1.1
 exact Nat.lt_of_lt_of_le h3 (by rw [pow9];exact Nat.pow_le_pow_right (by decide) (by omega))
theorem rat_of {s:Str}(h:aR s=true):∃ q:Rat,s=qtx q/\QB 23 q:=by
 unfold aR at h
 rw [Bool.and_eq_true,Bool.and_eq_true] at h
 obtain ⟨⟨h1,h2⟩,h3⟩:=h
 obtain ⟨e1,b1⟩:=dP h1
 rcases eQ 47 s with ⟨hc,_,_⟩ | ⟨pre,post,hc,hs,_⟩
 ·rw [hc] at e1 b1
  exact ⟨((decZ s:Int):Rat),by rw [qtx_int];exact e1,QB_int b1 (by decide)⟩
 ·rw [hc] at h2 h3 e1 b1
  simp only [Option.getD_some] at h2 e1 b1
  obtain ⟨e2,b2⟩:=dP h2
  unfold restOk at h3
  simp only [Bool.and_eq_true,decide_eq_true_eq,beq_iff_eq] at h3
  obtain ⟨⟨h4,_⟩,h6⟩:=h3
  have hd0:(decZ post).natAbs≠0:=by omega
  refine ⟨⟨decZ pre,(decZ post).natAbs,hd0,h6⟩, ?_,b1,b2⟩
  rw [qtx_txt]
  show s=txt (decZ pre)++bX (denS (decZ post).natAbs)
  rw [dz (by omega),<- e1,hs]
  show pre++47::post=pre++47::decS (decZ post).natAbs
  rw [<- bM,show (((decZ post).natAbs:Nat):Int)=decZ post by omega,<- e2]
theorem icompare_right (C:Mem)(b:Str)(hb:bJ b=true):Gives cx.P 103 [strV b,strV [49]] C (.int .i64 (cmpZ (decZ b) 1)):=by
 obtain ⟨h1,h2⟩:=dP hb
 have h:=icompare_fn C (decZ b) 1 (by have:=bC h2 (by decide);omega) (by rw [show decS (1:Int).natAbs=[49] from one_dec];decide)
 rwa [<- one_val,<- h1] at h
theorem igcd_right (C:Mem)(hT:Tabs C)(a b:Str)(ha:bJ a=true)(hb:bJ b=true):Gives cx.P 104 [strV a,strV b] C (strV (txt (Nat.gcd (decZ a).natAbs (decZ b).natAbs:Nat))):=by
 obtain ⟨h1,h2⟩:=dP ha
 obtain ⟨h3,h4⟩:=dP hb
 have h:=igcd_fn C hT (decZ a) (decZ b) 23 (by decide) (by decide) h2 h4
 rwa [<- h1,<- h3] at h
theorem chk_right {b:Bool}(h:(chkZ b != 0)=false):b=true:=by cases b <;> first | rfl | (exact absurd h (by decide))
theorem db (C:Mem)(hT:Tabs C)(s:Str)(hl:s.length<=999998):Gives cx.P 53 [strV s] C (.int .i64 (chkZ (aR s))):=by
 have hls:=ratOk_len hl
 obtain ⟨num,bo,hct⟩:∃ a b,cut1 47 s=(a,b):=⟨_,_,rfl⟩
 have hM:aR s=(bJ num && bJ (bo.getD [49]) && restOk (decZ num) bo):=by
  unfold aR;rw [hct]
 rw [hct] at hls
 simp only at hls
 refine Fn.it (by kernel_rfl) Tryz.func53 39 fun w0=>?_
 refine G.z1 1 0 ?_
 refine G.rp 1 fun R hR=>?_
 refine D.af (by have h:=cut_fn C s 47 (by omega);rw [hct] at h;exact h) rfl rfl rfl rfl rfl rfl rfl (fun _=>rfl) ?_
 refine D.q3 7 3 4 5 hR ?_
 refine G.rp 1 fun R hR=>?_
 refine D.ah (icheck_fn _ num) ?_
 refine D.q4 1 3 4 5 16 hR ?_
 refine G.cd (fun h16=>?_) fun h16=>?_
 ·have hno:aR s=false:=by
   rw [hM]
   cases h1:bJ num with
   | false=>rfl
   | true=>rw [h1] at h16;exact absurd h16 (by decide)
  refine G.z1 1 2 ?_
  refine G.rf ?_
  exact ⟨by rw [hno];rfl,rfl⟩
 ·have hr1:bJ num=true:=by
   cases h1:bJ num with
   | true=>rfl
   | false=>rw [h1] at h16;exact absurd h16 (by decide)
  rw [hr1,Bool.true_and] at hM
  obtain ⟨hn1,hn2⟩:=dP hr1
  refine G.z3 2 3 4 18 ?_
  refine G.cd (fun h18=>?_) fun h18=>?_
  ·have hbo:bo=none:=by
    cases bo with
    | none=>rfl
    | some b=>simp at h18
   refine G.z1 1 2 ?_
   refine G.rf ?_
   refine ⟨?_,rfl⟩
   rw [hM,hbo]
   rfl
  ·obtain ⟨b,hbo⟩:∃ b,bo=some b:=by
    cases bo with
    | some b=>exact ⟨b,rfl⟩
    | none=>simp at h18
   subst hbo
   obtain ⟨zn,ezn⟩:∃ z,decZ num=z:=⟨_,rfl⟩
   obtain ⟨zd,ezd⟩:∃ z,decZ b=z:=⟨_,rfl⟩
   have hM2:aR s=(bJ b && restOk (decZ num) (some b)):=hM
   unfold restOk at hM2
   simp only [ezn,ezd] at hM2 hn1 hn2
   have e0:(num == [48])=(zn == 0):=by
    rw [hn1]
    have h:=txtEq0 zn
    rw [show (zn == 0)=decide (zn=0) by by_cases h:zn=0 <;> simp [h]]
    exact h
   have e1:(chkZ (bJ b) != 0)=!bJ b:=by cases bJ b <;> rfl
   have e2:decide (cmpZ zd 1<=0)=!decide (1<zd):=by
    unfold cmpZ
    by_cases h:1<zd
    ·rw [if_neg (by omega),if_pos h,decide_eq_true h];rfl
    ·rw [decide_eq_false h]
     refine decide_eq_true ?_
     split <;> first | omega | (split <;> omega)
   have key:(chkZ (bJ b) != 0 || decide (cmpZ (decZ b) 1<=0) || (num == [48]) || !(decS ((decZ num).natAbs.gcd (decZ b).natAbs) == [49]))=!aR s:=by
    have e3:=decEq1 (zn.natAbs.gcd zd.natAbs)
    have e4:(decS (zn.natAbs.gcd zd.natAbs) == [49])=(zn.natAbs.gcd zd.natAbs == 1):=e3
    rw [ezn,ezd,e0,e1,e2,e4,hM2]
    cases bJ b <;> cases decide (1<zd) <;> cases (zn == 0) <;> cases (zn.natAbs.gcd zd.natAbs == 1) <;> rfl
   rw [<- bM] at key
   refine G.z2 4 6 7 ?_
   refine G.rp 1 fun R hR=>?_
   refine D.ah (icheck_fn _ b) ?_
   refine D.ps 3 ?_
   refine D.aD (fun hg=>(icompare_right _ b (by exact chk_right (show (chkZ (bJ b) != 0)=false/\True from hg).1))) rfl rfl rfl rfl rfl rfl rfl rfl rfl ?_
   refine D.ae ?_
   refine D.aB ?_
   refine D.ps 3 ?_
   refine D.aB ?_
   refine D.ps 3 ?_
   refine D.aD (fun hg=>(igcd_right _ (hT.mono mup) num b hr1 (by exact chk_right (Bool.or_eq_false_iff.1 (Bool.or_eq_false_iff.1 (show (((chkZ (bJ b) != 0) || decide (cmpZ (decZ b) 1<=0)) || (num == [48]))=false/\True from hg).1).1).1))) rfl rfl rfl rfl rfl rfl rfl rfl rfl ?_
   refine D.ae ?_
   refine D.aB ?_
   refine D.e1 38 hR ?_
   refine G.cd (fun h38=>?_) fun h38=>?_
   ·have hno:aR s=false:=by
     have h:(!aR s)=true:=key.symm.trans h38
     simpa using h
    refine G.z1 1 2 ?_
    refine G.rf ?_
    exact ⟨by rw [hno];rfl,rfl⟩
   ·have hno:aR s=true:=by
     have h:(!aR s)=false:=key.symm.trans h38
     simpa using h
    refine G.z1 1 2 ?_
    refine G.rf ?_
    exact ⟨by rw [hno];rfl,rfl⟩

theorem valP_setN:∀ {l:List Nat}{j y:Nat},j<l.length->valP (l.set j y)+BP ^ j*gP l j=valP l+BP ^ j*y
 | [],_,_,h=>absurd h (Nat.not_lt_zero _)
 | x::l,0,y,_=>by
  rw [List.set_cons_zero,Nat.pow_zero,Nat.one_mul,Nat.one_mul]
  show y+BP*valP l+x=x+BP*valP l+y
  omega
 | x::l,j+1,y,h=>by
  have ih:=valP_setN (l:=l) (j:=j) (y:=y) (by simpa using h)
  rw [List.set_cons_succ,Nat.pow_succ]
  show x+BP*valP (l.set j y)+BP ^ j*BP*gP l j=x+BP*valP l+BP ^ j*BP*y
  rw [Nat.mul_comm (BP ^ j) BP,Nat.mul_assoc,Nat.mul_assoc,Nat.add_assoc,Nat.add_assoc,<- Nat.mul_add,<- Nat.mul_add,ih]
theorem gP_set_ne {l:List Nat}{i j z:Nat}(h:i≠j):gP (l.set i z) j=gP l j:=by
 unfold gP;rw [List.getD_eq_getElem?_getD,List.getD_eq_getElem?_getD,List.getElem?_set_ne h]
theorem gP_set_eq {l:List Nat}{i z:Nat}(h:i<l.length):gP (l.set i z) i=z:=by
 unfold gP;rw [List.getD_eq_getElem?_getD,List.getElem?_set_self h];rfl
theorem gP_zeros (n j:Nat):gP (List.replicate n 0) j=0:=by
 unfold gP;rw [List.getD_eq_getElem?_getD,List.getElem?_replicate];split <;> rfl
theorem gP_le {l:List Nat}(h:DigP l)(i:Nat):gP l i<=9999:=by
 rcases Nat.lt_or_ge i l.length with h1 | h1
 ·have h2:=h _ (List.mem_of_getElem? (gP_row h1).2)
  have h3:BP=10000:=rfl
  omega
 ·unfold gP;rw [List.getD_eq_getElem?_getD,List.getElem?_eq_none h1];exact Nat.zero_le _
theorem valP_tkN (l:List Nat)(k:Nat):valP (l.take (k+1))=valP (l.take k)+BP ^ k*gP l k:=by
 rcases Nat.lt_or_ge k l.length with h | h
 ·exact eG (gP_row h).2
 ·have e:gP l k=0:=by unfold gP;rw [List.getD_eq_getElem?_getD,List.getElem?_eq_none h];rfl
  rw [e,List.take_of_length_le h,List.take_of_length_le (by omega),Nat.mul_zero,Nat.add_zero]
theorem times_ref_fn (C:Mem)(va vb:Value)(a b:List Nat)(ha:Sl C 1 va (a.map encN))(hb:Sl C 1 vb (b.map encN))(hda:DigP a)(hdb:DigP b)(hla:a.length<=5000)(hlb:b.length<=5000) :
  Pur cx.P 173 [va,vb] C fun u C'=>PieC C' u (valP a*valP b):=by
 obtain ⟨A0,c0,rfl,_⟩:=id ha
 obtain ⟨B0,d0,rfl,_⟩:=id hb
 simp only [List.length_map] at ha hb ⊢
 obtain ⟨N,hN⟩:∃ N,a.length+b.length=N:=⟨_,rfl⟩
 refine Fn.it (by kernel_rfl) Tryz.func173 45 fun w0=>?_
 refine G.z2 1 0 1 ?_
 refine G.rp 4 fun R hR=>?_
 refine D.cg (((N:Nat):Int)) rfl rfl rfl rfl (by omega) (by omega) (by omega) rfl rfl ?_
 refine D.cO rfl rfl rfl rfl rfl rfl rfl rfl rfl (Nat.le_refl _) (by show 8*N<=281474976710656;omega) (by simp only [maxLen];omega) (fun _=>rfl) (fun b13=>?_)
 refine D.q3 1 0 1 5 hR ?_
 refine G.z4 1 0 1 5 6 ?_
 refine G.ba (L':=[.arr (.slice (some ⟨b13,0,none⟩) N N) 3 1 N ((List.replicate N 0).map encN).flatten]) (by rw [<- zrow_N];rfl) ?_
 refine G.loop (fun fr C' L' μ=>∃ (i:Nat)(o:List Nat),(i<=a.length/\o.length=N/\(∀ j,gP o j<=i*100000000)/\valP o=valP (a.take i)*valP b)/\fr=[(0,[],.slice A0 a.length c0),(1,[],.slice B0 b.length d0),(5,[],.slice (some ⟨b13,0,none⟩) N N),(6,[],.int .i64 i)]/\L'=[.arr (.slice (some ⟨b13,0,none⟩) N N) 3 1 N (o.map encN).flatten]/\μ=a.length-i) (h_4 0 1 5 6) ⟨0,List.replicate N 0,⟨Nat.zero_le _,List.length_replicate,fun j=>by rw [gP_zeros];omega,by rw [valP_zeros (fun x hx=>List.eq_of_mem_replicate hx)];simp [valP]⟩,rfl,rfl,rfl⟩ (fun fr C0' L0' m hle0 hI=>?_)
 obtain ⟨i,o,⟨hi,hol,hob,hval⟩,rfl,rfl,rfl⟩:=hI
 refine G.z5 4 0 1 5 6 17 ?_
 refine G.cd (fun h17=>?_) fun h17=>?_
 ·have hil:i<a.length:=by simpa using h17
  have hx:=gP_le hda i
  refine G.z5 1 0 1 5 6 7 ?_
  refine G.loop (fun fr C' L' μ=>∃ (k:Nat)(q:List Nat),(k<=b.length/\q.length=N/\(∀ j,gP q j<=(i+1)*100000000)/\(∀ j,i+k<=j->gP q j<=i*100000000)/\valP q=valP o+BP ^ i*(gP a i*valP (b.take k)))/\fr=[(0,[],.slice A0 a.length c0),(1,[],.slice B0 b.length d0),(5,[],.slice (some ⟨b13,0,none⟩) N N),(6,[],.int .i64 i),(7,[],.int .i64 k)]/\L'=[.arr (.slice (some ⟨b13,0,none⟩) N N) 3 1 N (q.map encN).flatten]/\μ=b.length-k) (h_5 0 1 5 6 7) ⟨0,o,⟨Nat.zero_le _,hol,fun j=>Nat.le_trans (hob j) (Nat.mul_le_mul_right _ (by omega)),fun j _=>hob j,by simp [valP]⟩,rfl,rfl,rfl⟩ (fun fr C1' L1' m hle1 hI=>?_)
  obtain ⟨k,q,⟨hk,hql,hqb,hqc,hqv⟩,rfl,rfl,rfl⟩:=hI
  refine G.z6 4 0 1 5 6 7 23 ?_
  refine G.cd (fun h23=>?_) fun h23=>?_
  ·have hkl:k<b.length:=by simpa using h23
   have hy:=gP_le hdb k
   have hget:=(gP_row (l:=q) (k:=i+k) (by omega)).2
   have hold:=hqc (i+k) (Nat.le_refl _)
   have hprod:gP a i*gP b k<=100000000:=Nat.le_trans (Nat.mul_le_mul hx hy) (by decide)
   refine G.aI [0,1,2,3,4,5,6,7,8,9,10,11,12,13,14,15,16,17] [] rfl (by kernel_rfl) (fun R hB hR=>?_)
   refine D.ps 3 ?_
   refine D.cg (((i+k:Nat):Int)) rfl rfl rfl rfl (by omega) (by omega) (by omega) rfl rfl ?_
   refine D.bE ((i+k)*1) rfl rfl rfl rfl rfl rfl rfl rfl rfl rfl (fun _=>⟨by omega,by omega,rfl⟩) rfl rfl ?_
   refine D.fI (.head _) rfl rfl rfl rfl rfl rfl (fun _=>(by rw [row_read encN_len hget];rfl)) rfl rfl ?_
   refine D.ps 2 ?_
   refine D.ap (ha.mono mup) rfl rfl rfl rfl rfl rfl rfl rfl rfl rfl (by omega) (gP_row hil).1 (fun _=>rfl) (fun p34 hp34=>?_)
   refine D.aa hp34 ?_
   refine D.ps 2 ?_
   refine D.ap (hb.mono mup) rfl rfl rfl rfl rfl rfl rfl rfl rfl rfl (by omega) (gP_row hkl).1 (fun _=>rfl) (fun p38 hp38=>?_)
   refine D.aa hp38 ?_
   refine D.cg (((gP a i*gP b k:Nat):Int)) rfl rfl rfl rfl (Int.natCast_mul _ _).symm (by omega) (by omega) rfl rfl ?_
   refine D.cg (((gP q (i+k)+gP a i*gP b k:Nat):Int)) rfl rfl rfl rfl (by omega) (by omega) (by omega) rfl rfl ?_
   refine D.bE ((i+k)*1) rfl rfl rfl rfl rfl rfl rfl rfl rfl rfl (fun _=>⟨by omega,by omega,rfl⟩) rfl rfl ?_
   refine D.a6 (j:=0) rfl rfl rfl rfl rfl rfl rfl rfl rfl rfl rfl (by show (i+k)*1+1<=_;rw [ek encN_len,hql];omega) ?_
   refine D.e5 0 1 5 6 7 hR ?_
   refine G.rp 1 fun R hR=>?_
   refine D.am _ ?_
   refine D.q5 1 0 1 5 6 7 hR ?_
   refine G.ba (L':=[.arr (.slice (some ⟨b13,0,none⟩) N N) 3 1 N ((q.set (i+k) (gP q (i+k)+gP a i*gP b k)).map encN).flatten]) (by rw [<- dX encN_len _ (by omega:i+k<q.length)];rfl) ?_
   refine G.au (m':=b.length-(k+1)) (by omega) mup (h_5 0 1 5 6 7) ⟨k+1,q.set (i+k) (gP q (i+k)+gP a i*gP b k),⟨by omega,by simp [hql],fun j=>by
    by_cases h:i+k=j
    ·subst h
     rw [gP_set_eq (by omega),Nat.add_mul]
     omega
    ·rw [gP_set_ne h];exact hqb j,fun j hj=>by rw [gP_set_ne (by omega)];exact hqc j (by omega),by
    have h:=valP_setN (l:=q) (j:=i+k) (y:=gP q (i+k)+gP a i*gP b k) (by omega)
    rw [Nat.mul_add (BP ^ (i+k))] at h
    rw [valP_tkN,Nat.mul_add (gP a i),Nat.mul_add (BP ^ i),<- Nat.add_assoc,<- hqv]
    have e:BP ^ i*(gP a i*(BP ^ k*gP b k))=BP ^ (i+k)*(gP a i*gP b k):=by
     rw [Nat.pow_add,<- Nat.mul_assoc (gP a i),Nat.mul_comm (gP a i) (BP ^ k),Nat.mul_assoc,<- Nat.mul_assoc (BP ^ i)]
    rw [e]
    omega⟩,rfl,rfl,rfl⟩
  ·have hkl:k=b.length:=by
    have:¬ k<b.length:=by simpa using h23
    omega
   refine G.rp 1 fun R hR=>?_
   refine D.am _ ?_
   refine D.q4 1 0 1 5 6 hR ?_
   refine G.au (m':=a.length-(i+1)) (by omega) mup (h_4 0 1 5 6) ⟨i+1,q,⟨by omega,hql,hqb,by
    rw [hkl,List.take_length] at hqv
    rw [valP_tkN,Nat.add_mul,<- hval,Nat.mul_assoc]
    exact hqv⟩,rfl,rfl,rfl⟩
 ·have hil:i=a.length:=by
   have:¬ i<a.length:=by simpa using h17
   omega
  refine G.freezeArr 0 ((o.map fun (x:Nat)=>(x:Int)).map encI) rfl (by rw [List.map_map];rfl) (by intro r hr;obtain ⟨x,_,rfl⟩:=List.mem_map.1 hr;rfl) (by simp [hol]) (fun C3 hle3 hb3=>?_)
  refine G.rp 1 fun R hR=>?_
  refine D.aM (carry_fn _ _ (o.map fun (x:Nat)=>(x:Int)) (hb3.mono mup) (by rw [valI_nat];omega) (by
   intro x hx
   obtain ⟨y,hy,rfl⟩:=List.mem_map.1 hx
   obtain ⟨j,hj⟩:=List.getElem?_of_mem hy
   have h1:=hob j
   have h2:gP o j=y:=by unfold gP;rw [List.getD_eq_getElem?_getD,hj];rfl
   rw [h2] at h1
   have h3:i*100000000<=5000*100000000:=Nat.mul_le_mul_right _ (by omega)
   omega) (by rw [List.length_map];omega)) rfl rfl rfl rfl rfl rfl rfl (fun _=>rfl) (fun v44 C44 hle44 hq44=>?_)
  refine D.q1 1 4 hR ?_
  refine G.rf ?_
  refine ⟨rfl, ?_⟩
  rw [valI_nat,Int.toNat_natCast,hval,hil,List.take_length] at hq44
  exact hq44

theorem abs_len {z:Int}{m:Nat}(h:(decS z.natAbs).length<=m):z.natAbs<10 ^ m:=by
 obtain ⟨h2,h3⟩:=aS z.natAbs
 have h4:=cE h2.1
 rw [h3] at h4
 exact Nat.lt_of_lt_of_le h4 (Nat.pow_le_pow_right (by decide) h)
theorem canP_short2 {l:List Nat}(h:CanP l){m n:Nat}(hv:valP l<BP ^ m*BP ^ n):l.length<=m+n:=canP_short h (by rw [Nat.pow_add];exact hv)
theorem ea (C:Mem)(hT:Tabs C)(z w:Int)(hz:z.natAbs<BP ^ 200)(hw:w.natAbs<BP ^ 200):Gives cx.P 121 [strV (txt z),strV (txt w)] C (strV (txt (z*w))):=by
 have hlz:=List.length_pos_iff.2 (decS_ne z.natAbs)
 have hlw:=List.length_pos_iff.2 (decS_ne w.natAbs)
 refine Fn.it (by kernel_rfl) Tryz.func121 52 fun w0=>?_
 refine G.z2 1 0 1 ?_
 refine G.rp 1 fun R hR=>?_
 refine D.ah (cm _ z) ?_
 refine D.q4 5 0 1 5 6 hR ?_
 refine G.rp 1 fun R hR=>?_
 refine D.ah (cm _ w) ?_
 refine D.q6 5 0 1 5 6 7 8 hR ?_
 have hz8:=dq hz
 have hw8:=dq hw
 refine G.rp 4 fun R hR=>?_
 refine D.cg ((((decS z.natAbs).length+(decS w.natAbs).length:Nat):Int)) rfl rfl rfl rfl (Int.natCast_add _ _).symm (by omega) (by omega) rfl rfl ?_
 refine D.q7 1 0 1 5 6 7 8 28 hR ?_
 refine G.cd (fun h28=>?_) fun h28=>?_
 ·have hsum:(decS z.natAbs).length+(decS w.natAbs).length<=18:=by
   have h:=of_decide_eq_true h28
   omega
  have hp:(z*w).natAbs<10 ^ 18:=by
   have h1:=abs_len (z:=z) (Nat.le_refl _)
   have h2:=abs_len (z:=w) (Nat.le_refl _)
   rw [Int.natAbs_mul]
   refine Nat.lt_of_lt_of_le (Nat.mul_lt_mul'' h1 h2) ?_
   rw [<- Nat.pow_add]
   exact Nat.pow_le_pow_right (by decide) hsum
  rw [e18] at hp
  refine G.rp 1 fun R hR=>?_
  refine D.af (small_fn _ z (by omega)) rfl rfl rfl rfl rfl rfl rfl (fun _=>rfl) ?_
  refine D.q2 5 1 9 hR ?_
  refine G.rp 1 fun R hR=>?_
  refine D.af (small_fn _ w (by omega)) rfl rfl rfl rfl rfl rfl rfl (fun _=>rfl) ?_
  refine D.q2 5 9 11 hR ?_
  refine G.rp 2 fun R hR=>?_
  refine D.am _ ?_
  refine D.af (eO _ (hT.mono mup) (z*w) (by omega) (by omega)) rfl rfl rfl rfl rfl rfl rfl (fun _=>rfl) ?_
  refine D.q1 1 4 hR ?_
  refine G.rf ?_
  exact ⟨rfl,rfl⟩
 ·refine G.rp 4 fun R hR=>?_
  refine D.aU (ej _ z.natAbs hz) (fun v47 C47 hle47 hq47=>?_)
  refine D.ae ?_
  refine D.aU (ej _ w.natAbs hw) (fun v49 C49 hle49 hq49=>?_)
  obtain ⟨lz,hcz,hvz,hlz2,hsz⟩:=hq47
  obtain ⟨lw,hcw,hvw,hlw2,hsw⟩:=hq49
  refine D.aM (times_ref_fn _ _ _ lz lw (hsz.mono mup) (hsw.mono mup) hcz.1 hcw.1 (by omega) (by omega)) rfl rfl rfl rfl rfl rfl rfl (fun _=>rfl) (fun v50 C50 hle50 hq50=>?_)
  obtain ⟨lp,hcp,hvp,hsp⟩:=hq50
  have hpl:lp.length<=400:=canP_short2 (m:=200) (n:=200) hcp (by rw [hvp,hvz,hvw];exact Nat.mul_lt_mul'' hz hw)
  obtain ⟨Ap,cp,rfl,_⟩:=id hsp
  refine D.af (made_fn _ (hT.mono mup) _ _ lp (hsp.mono mup) hcp.1 (by omega)) rfl rfl rfl rfl rfl rfl rfl (fun _=>rfl) ?_
  refine D.q1 1 4 hR ?_
  refine G.rf ?_
  refine ⟨?_,rfl⟩
  rw [hvp,hvz,hvw]
  show strV (txt (sgZ (decide (z<0) != decide (w<0)) (z.natAbs*w.natAbs)))=_
  rw [sgZ_mul]

theorem sg_div (z:Int){g:Nat}(hg:g ∣ z.natAbs):sgZ (decide (z<0) != false) (z.natAbs / g)=z / (g:Int):=by
 obtain ⟨m,hm⟩:=hg
 rcases Nat.eq_zero_or_pos g with h | hg0
 ·subst h
  have hz:z=0:=by omega
  subst hz
  rfl
 rw [hm,Nat.mul_div_cancel_left _ hg0,Bool.bne_false]
 unfold sgZ
 by_cases hz:z<0
 ·rw [decide_eq_true hz,if_pos rfl,show z=(g:Int)*(-(m:Int)) by rw [Int.mul_neg,<- Int.natCast_mul];omega,Int.mul_ediv_cancel_left _ (by omega)]
 ·rw [decide_eq_false hz,if_neg (by decide),show z=(g:Int)*(m:Int) by rw [<- Int.natCast_mul];omega,Int.mul_ediv_cancel_left _ (by omega)]
theorem divmod_ex_fn (C:Mem)(hT:Tabs C)(z:Int)(b:Nat)(ha:z.natAbs<BP ^ 200)(hb:b<BP ^ 200)(hb0:0<b)(hd:b ∣ z.natAbs):Gives cx.P 111 [strV (txt z),strV (decS b)] C (.tuple #[strV (txt (z / (b:Int))),strV (decS 0)]):=by
 have hBl:=BP_lt
 have hm0:z.natAbs % b=0:=Nat.mod_eq_zero_of_dvd hd
 have hdi:(b:Int) ∣ z:=Int.dvd_natAbs.1 (Int.natCast_dvd_natCast.2 hd)
 have hq:(z / (b:Int)).natAbs<=z.natAbs:=by
  rw [Int.natAbs_ediv_of_dvd hdi,Int.natAbs_natCast]
  exact Nat.div_le_self _ _
 refine Fn.it (by kernel_rfl) Tryz.func111 93 fun w0=>?_
 refine G.z2 2 0 1 ?_
 refine G.rp 1 fun R hR=>?_
 refine D.ah (brief_fn C z) ?_
 refine D.q4 5 0 1 6 7 hR ?_
 refine G.rp 1 fun R hR=>?_
 refine D.ah (brief_dec _ b) ?_
 refine D.q6 5 0 1 6 7 8 9 hR ?_
 refine G.rp 3 fun R hR=>?_
 refine D.ay ?_
 refine D.e5 0 1 6 8 31 hR ?_
 refine G.cd (fun h31=>?_) fun h31=>?_
 ·have hs:(decS z.natAbs).length<=17/\(decS b).length<=17:=by simpa using h31
  have h1:=brief_lt hs.1
  have h2:=briefN_lt hs.2
  rw [if_pos hs.1,if_pos hs.2]
  refine G.aI [0,1,2,3,4,5,6,7] [] rfl (by kernel_rfl) (fun R hB hR=>?_)
  refine D.ps 2 ?_
  refine D.quoT (z / (b:Int)) rfl rfl rfl rfl rfl rfl (by omega) (quotT_dvd hd) (wrap_i64 (by omega) (by omega)) rfl rfl ?_
  refine D.ps 2 ?_
  refine D.fA 0 rfl rfl rfl rfl rfl rfl (by omega) (Int.tmod_eq_zero_of_dvd hdi) rfl rfl ?_
  refine D.q4 2 6 8 10 11 hR ?_
  refine G.z5 2 6 8 10 11 39 ?_
  refine G.cd (fun h39=>?_) fun h39=>?_
  ·exfalso
   simp at h39
  ·refine G.rp 1 fun R hR=>?_
   refine D.af (eO _ hT (z / (b:Int)) (by omega) (by omega)) rfl rfl rfl rfl rfl rfl rfl (fun _=>rfl) ?_
   refine D.ae ?_
   refine D.af (of_dec _ hT 0 (by omega)) rfl rfl rfl rfl rfl rfl rfl (fun _=>rfl) ?_
   refine D.q2 2 4 5 hR ?_
   refine G.aA (G.dropAll (G.aP rfl rfl rfl ?_))
   exact ⟨rfl,rfl⟩
 ·refine G.rp 1 fun R hR=>?_
  refine D.ah (cm _ z) ?_
  refine D.q3 5 1 12 13 hR ?_
  refine G.rp 1 fun R hR=>?_
  refine D.ah (split_dec _ b) ?_
  refine D.q4 5 12 13 14 15 hR ?_
  refine G.rp 1 fun R hR=>?_
  refine D.aU (ej _ z.natAbs ha) (fun v67 C67 hle67 hq67=>?_)
  obtain ⟨lp,hcp,hvp,hlp,hsp⟩:=hq67
  refine D.ae ?_
  refine D.aU (ej _ b hb) (fun v69 C69 hle69 hq69=>?_)
  obtain ⟨lq,hcq,hvq,hlq,hsq⟩:=hq69
  refine D.aM (parts_fn _ _ _ lp lq (hsp.mono mup) (hsq.mono mup) hcp.1 hcq (by omega) (by omega) (by omega)) rfl rfl rfl rfl rfl rfl rfl (fun _=>rfl) (fun v70 C70 hle70 hq70=>?_)
  obtain ⟨u1,u2,rfl,hu1,hu2⟩:=hq70
  rw [hvp,hvq] at hu1 hu2
  rw [hm0] at hu2
  obtain ⟨l1,hc1,hv1,hl1,hs1⟩:=PieC.take hu1 (by have:=Nat.div_le_self z.natAbs b;omega)
  obtain ⟨l2,hc2,hv2,hl2,hs2⟩:=PieC.take hu2 (by omega)
  obtain ⟨A2,c2,rfl,_⟩:=id hs2
  obtain rfl:=(canP_nil hc2).1 hv2
  refine D.q5 5 12 14 15 16 17 hR ?_
  refine G.rp 5 fun R hR=>?_
  refine D.ay ?_
  refine D.e6 12 14 15 16 17 78 hR ?_
  refine G.cd (fun h78=>?_) fun h78=>?_
  ·exfalso
   simp at h78
  ·refine G.rp 4 fun R hR=>?_
   refine D.af (made_fn _ (hT.mono mup) _ _ l1 (hs1.mono mup) hc1.1 (by omega)) rfl rfl rfl rfl rfl rfl rfl (fun _=>rfl) ?_
   refine D.ae ?_
   refine D.af (made_dec _ (hT.mono mup) _ [] (hs2.mono mup) hc2.1 (by simp)) rfl rfl rfl rfl rfl rfl rfl (fun _=>rfl) ?_
   refine D.q2 2 4 5 hR ?_
   refine G.aA (G.dropAll (G.aP rfl rfl rfl ?_))
   refine ⟨?_,rfl⟩
   show Value.tuple #[strV (txt (sgZ (decide (z<0) != false) (valP l1))),_]=_
   rw [hv1,sg_div z hd]
   rfl
theorem lowest2_fn (C:Mem)(hT:Tabs C)(n:Int)(d:Nat)(hd:0<d)(hn:n.natAbs<9000000000000000000)(hdl:d<9000000000000000000):Gives cx.P 119 [.int .i64 n,.int .i64 d] C (strV (qtx (mkRat n d))):=by
 obtain ⟨g,hg⟩:∃ g,Nat.gcd n.natAbs d=g:=⟨_,rfl⟩
 have hg0:0<g:=by rw [<- hg];exact Nat.gcd_pos_of_pos_right _ hd
 have hgn:g ∣ n.natAbs:=by rw [<- hg];exact Nat.gcd_dvd_left _ _
 have hgd:g ∣ d:=by rw [<- hg];exact Nat.gcd_dvd_right _ _
 have hgl:g<=d:=Nat.le_of_dvd hd hgd
 have hnq:(n / (g:Int)).natAbs<=n.natAbs:=by
  rw [Int.natAbs_ediv_of_dvd (Int.dvd_natAbs.1 (Int.natCast_dvd_natCast.2 hgn)),Int.natAbs_natCast]
  exact Nat.div_le_self _ _
 have hdq:=Nat.div_le_self d g
 rw [qtx_mk (by omega),hg]
 refine Fn.it (by kernel_rfl) Tryz.func119 36 fun w0=>?_
 refine G.z2 1 0 1 ?_
 refine G.z3 2 0 1 8 ?_
 refine G.cut (fun fr C' L' μ=>(True)/\fr=[(0,[],.int .i64 (n / (g:Int))),(1,[],.int .i64 ((d / g:Nat):Int))]/\L'=[]) ?_ (fun fr C8 L8 μ hle8 hI=>?_)
 ·refine G.cd (fun h8=>?_) fun h8=>?_
  ·skip
   refine G.rp 3 fun R hR=>?_
   have hwx:IntKind.i64.wrap (0-n)=0-n:=wrap_i64 (by omega) (by omega)
   refine D.max ((n.natAbs:Int)) rfl rfl rfl rfl rfl rfl (by omega) rfl rfl ?_
   refine D.q4 3 0 1 5 6 hR ?_
   refine G.loop (fun fr C' L' μ=>∃ (x y:Int),(x.natAbs<9000000000000000000/\0<=x/\0<=y/\y.natAbs<9000000000000000000/\Nat.gcd x.natAbs y.natAbs=g)/\fr=[(0,[],.int .i64 n),(1,[],.int .i64 d),(5,[],.int .i64 x),(6,[],.int .i64 y)]/\L'=[]/\μ=y.natAbs+1) (h_4 0 1 5 6) ⟨(n.natAbs:Int),d,⟨hn,by omega,by omega,by omega,by rw [Int.natAbs_natCast];exact hg⟩,rfl,rfl,rfl⟩ (fun fr C0' L0' m hle0 hI=>?_)
   obtain ⟨x,y,⟨hxa,hx0,hy0,hya,hgi⟩,rfl,rfl,rfl⟩:=hI
   refine G.z5 2 0 1 5 6 15 ?_
   refine G.cd (fun h15=>?_) fun h15=>?_
   ·have hyn:y≠0:=by simpa using h15
    have hta:(x.tmod y).natAbs=x.natAbs % y.natAbs:=Int.natAbs_tmod x y
    have htl:=Nat.mod_lt x.natAbs (show 0<y.natAbs by omega)
    have htn:=Int.tmod_nonneg y hx0
    refine G.aI [0,1,2,3,4,5] [] rfl (by kernel_rfl) (fun R hB hR=>?_)
    refine D.ps 3 ?_
    refine D.fA (x.tmod y) rfl rfl rfl rfl rfl rfl hyn rfl rfl rfl ?_
    refine D.q4 2 0 1 5 6 hR ?_
    refine G.au (m':=(x.tmod y).natAbs+1) (by omega) hle0 (h_4 0 1 5 6) ⟨y,x.tmod y,⟨hya,hy0,htn,by omega,by rw [hta,<- hgi,Nat.gcd_comm x.natAbs,Nat.gcd_rec y.natAbs x.natAbs,Nat.gcd_comm]⟩,rfl,rfl,rfl⟩
   ·have hyn:y=0:=by simpa using h15
    subst hyn
    rw [show (0:Int).natAbs=0 from rfl,Nat.gcd_zero_right] at hgi
    obtain rfl:x=(g:Int):=by omega
    refine G.aI [0,1,2,3,4,5,6,7] [] rfl (by kernel_rfl) (fun R hB hR=>?_)
    refine D.ps 2 ?_
    refine D.quoT (n / (g:Int)) rfl rfl rfl rfl rfl rfl (by omega) (quotT_dvd hgn) (wrap_i64 (by omega) (by omega)) rfl rfl ?_
    refine D.ps 2 ?_
    refine D.fF (d) (g) rfl rfl rfl rfl rfl rfl hg0 (.inl ⟨rfl,by omega⟩) rfl rfl ?_
    refine D.q2 2 0 1 hR ?_
    refine G.ax 0 mup (h_2 0 1) ⟨trivial,rfl,rfl⟩
  ·have hd1:d=1:=by
    have h:(d:Int)=1:=by simpa using h8
    omega
   subst hd1
   have hg1:g=1:=by omega
   refine G.ax 0 (Mem.le.refl _) (h_2 0 1) ⟨trivial,by rw [hg1,Nat.div_one,Int.natCast_one,Int.ediv_one],rfl⟩
 ·obtain ⟨_,rfl,rfl⟩:=hI
  refine G.z3 2 0 1 27 ?_
  refine G.cd (fun h27=>?_) fun h27=>?_
  ·have h1:d / g=1:=by
    have h2:(((d / g:Nat):Int))=1:=by simpa using h27
    omega
   refine G.rp 1 fun R hR=>?_
   refine D.af (d9 _ (hT.mono mup) _ (by omega) (by omega)) rfl rfl rfl rfl rfl rfl rfl (fun _=>rfl) ?_
   refine D.q1 1 4 hR ?_
   refine G.rf ?_
   refine ⟨?_,rfl⟩
   rw [h1,dens_one rfl]
   simp [bX]
  ·have h1:d / g≠1:=by
    intro h2
    rw [h2] at h27
    exact absurd h27 (by decide)
   have hT1:=txt_len (n / (g:Int))
   have hT2:=txt_len ((d / g:Nat):Int)
   have hT3:(decS (n / (g:Int)).natAbs).length<=20:=cI (Nat.lt_of_le_of_lt hnq (Nat.lt_trans hn (by decide))) (by decide)
   have hT4:(decS ((d / g:Nat):Int).natAbs).length<=20:=cI (by rw [Int.natAbs_natCast];exact Nat.lt_of_le_of_lt hdq (Nat.lt_trans hdl (by decide))) (by decide)
   refine G.rp 1 fun R hR=>?_
   refine D.af (d9 _ (hT.mono mup) _ (by omega) (by omega)) rfl rfl rfl rfl rfl rfl rfl (fun _=>rfl) ?_
   refine D.bS rfl rfl rfl rfl rfl rfl (fun _=>(by simp only [List.length_cons,List.length_nil];omega)) rfl rfl ?_
   refine D.ae ?_
   refine D.af (d9 _ (hT.mono mup) ((d / g:Nat):Int) (Int.le_trans (by decide) (Int.natCast_nonneg _)) (Int.le_trans (Int.ofNat_le.2 hdq) (by omega))) rfl rfl rfl rfl rfl rfl rfl (fun _=>rfl) ?_
   refine D.bS rfl rfl rfl rfl rfl rfl (fun _=>(by simp only [List.length_append,List.length_cons,List.length_nil];omega)) rfl rfl ?_
   refine D.q1 1 4 hR ?_
   refine G.rf ?_
   refine ⟨?_,rfl⟩
   rw [dz h1,bM,List.append_assoc]
   rfl

theorem nine_len {z:Int}(h:(txt z).length<=9):z.natAbs<1000000000:=by
 have h1:=abs18 h
 rwa [e9] at h1
theorem small2_fn (C:Mem)(hT:Tabs C)(z w:Int)(hz:(txt z).length<=9)(hw:(txt w).length<=9)(hw0:w≠0):Gives cx.P 148 [strV (txt z),strV (txt w)] C (strV (qtx (divS z w))):=by
 have hz9:=nine_len hz
 have hw9:=nine_len hw
 obtain ⟨n,hn⟩:∃ y,(if w<0 then -z else z)=y:=⟨_,rfl⟩
 obtain ⟨d,hd⟩:∃ d,w.natAbs=d:=⟨_,rfl⟩
 have hd0:0<d:=by omega
 have hna:n.natAbs<1000000000:=by rw [<- hn];split <;> omega
 unfold divS
 rw [hn,hd]
 obtain ⟨g,hg⟩:∃ g,Nat.gcd n.natAbs d=g:=⟨_,rfl⟩
 have hg0:0<g:=by rw [<- hg];exact Nat.gcd_pos_of_pos_right _ hd0
 have hgn:g ∣ n.natAbs:=by rw [<- hg];exact Nat.gcd_dvd_left _ _
 have hgd:g ∣ d:=by rw [<- hg];exact Nat.gcd_dvd_right _ _
 have hgl:g<=d:=Nat.le_of_dvd hd0 hgd
 have hnq:(n / (g:Int)).natAbs<=n.natAbs:=by
  rw [Int.natAbs_ediv_of_dvd (Int.dvd_natAbs.1 (Int.natCast_dvd_natCast.2 hgn)),Int.natAbs_natCast]
  exact Nat.div_le_self _ _
 have hdq:=Nat.div_le_self d g
 rw [qtx_mk (by omega),hg]
 refine Fn.it (by kernel_rfl) Tryz.func148 55 fun w0=>?_
 refine G.z2 1 0 1 ?_
 refine G.rp 1 fun R hR=>?_
 refine D.af (atoi_fn Tryz.atoi z (by omega) _ (by kernel_rfl)) rfl rfl rfl rfl rfl rfl rfl (fun _=>rfl) ?_
 refine D.q2 5 1 5 hR ?_
 refine G.rp 1 fun R hR=>?_
 refine D.af (atoi_fn Tryz.atoi w (by omega) _ (by kernel_rfl)) rfl rfl rfl rfl rfl rfl rfl (fun _=>rfl) ?_
 refine D.q2 5 5 7 hR ?_
 refine G.z3 2 5 7 22 ?_
 refine G.cut (fun fr C' L' μ=>(True)/\fr=[(5,[],.int .i64 n),(7,[],.int .i64 d)]/\L'=[]) ?_ (fun fr C22 L22 μ hle22 hI=>?_)
 ·refine G.cd (fun h22=>?_) fun h22=>?_
  ·have hneg:w<0:=by simpa using h22
   rw [if_pos hneg] at hn
   refine G.z2 6 5 7 ?_
   rw [show IntKind.i64.wrap (0-z)=n by rw [wrap_i64 (by omega) (by omega)];omega,show IntKind.i64.wrap (0-w)=(d:Int) by rw [wrap_i64 (by omega) (by omega)];omega]
   refine G.ax 0 (Mem.le.refl _) (h_2 5 7) ⟨trivial,rfl,rfl⟩
  ·have hneg:¬ w<0:=by simpa using h22
   rw [if_neg hneg] at hn
   rw [show z=n by omega,show w=(d:Int) by omega]
   refine G.ax 0 (Mem.le.refl _) (h_2 5 7) ⟨trivial,rfl,rfl⟩
 ·obtain ⟨_,rfl,rfl⟩:=hI
  refine G.z4 4 5 7 9 10 ?_
  refine G.z5 2 5 7 9 10 30 ?_
  refine G.cut (fun fr C' L' μ=>(True)/\fr=[(5,[],.int .i64 n),(7,[],.int .i64 d),(9,[],.int .i64 (n.natAbs:Nat)),(10,[],.int .i64 d)]/\L'=[]) ?_ (fun fr C30 L30 μ hle30 hI=>?_)
  ·refine G.cd (fun h30=>?_) fun h30=>?_
   ·have hneg:n<0:=by simpa using h30
    refine G.z4 3 5 7 9 10 ?_
    rw [show IntKind.i64.wrap (0-n)=((n.natAbs:Nat):Int) by rw [wrap_i64 (by omega) (by omega)];omega]
    refine G.ax 0 (Mem.le.refl _) (h_4 5 7 9 10) ⟨trivial,rfl,rfl⟩
   ·have hneg:¬ n<0:=by simpa using h30
    refine G.ax 0 (Mem.le.refl _) (h_4 5 7 9 10) ⟨trivial,by rw [show ((n.natAbs:Nat):Int)=n by omega],rfl⟩
  ·obtain ⟨_,rfl,rfl⟩:=hI
   refine G.loop (fun fr C' L' μ=>∃ (x y:Int),(x.natAbs<9000000000000000000/\0<=x/\0<=y/\y.natAbs<9000000000000000000/\Nat.gcd x.natAbs y.natAbs=g)/\fr=[(5,[],.int .i64 n),(7,[],.int .i64 d),(9,[],.int .i64 x),(10,[],.int .i64 y)]/\L'=[]/\μ=y.natAbs+1) (h_4 5 7 9 10) ⟨(n.natAbs:Int),d,⟨by omega,by omega,by omega,by omega,by rw [Int.natAbs_natCast,Int.natAbs_natCast];exact hg⟩,rfl,rfl,rfl⟩ (fun fr C0' L0' m hle0 hI=>?_)
   obtain ⟨x,y,⟨hxa,hx0,hy0,hya,hgi⟩,rfl,rfl,rfl⟩:=hI
   refine G.z5 2 5 7 9 10 34 ?_
   refine G.cd (fun h34=>?_) fun h34=>?_
   ·have hyn:y≠0:=by simpa using h34
    have hta:(x.tmod y).natAbs=x.natAbs % y.natAbs:=Int.natAbs_tmod x y
    have htl:=Nat.mod_lt x.natAbs (show 0<y.natAbs by omega)
    have htn:=Int.tmod_nonneg y hx0
    refine G.aI [0,1,2,3,4,5] [] rfl (by kernel_rfl) (fun R hB hR=>?_)
    refine D.ps 3 ?_
    refine D.fA (x.tmod y) rfl rfl rfl rfl rfl rfl hyn rfl rfl rfl ?_
    refine D.q4 2 5 7 9 10 hR ?_
    refine G.au (m':=(x.tmod y).natAbs+1) (by omega) hle0 (h_4 5 7 9 10) ⟨y,x.tmod y,⟨hya,hy0,htn,by omega,by rw [hta,<- hgi,Nat.gcd_comm x.natAbs,Nat.gcd_rec y.natAbs x.natAbs,Nat.gcd_comm]⟩,rfl,rfl,rfl⟩
   ·have hyn:y=0:=by simpa using h34
    subst hyn
    rw [show (0:Int).natAbs=0 from rfl,Nat.gcd_zero_right] at hgi
    obtain rfl:x=(g:Int):=by omega
    refine G.aI [0,1,2,3,4,5,6,7] [] rfl (by kernel_rfl) (fun R hB hR=>?_)
    refine D.ps 2 ?_
    refine D.quoT (n / (g:Int)) rfl rfl rfl rfl rfl rfl (by omega) (quotT_dvd hgn) (wrap_i64 (by omega) (by omega)) rfl rfl ?_
    refine D.ps 2 ?_
    refine D.fF (d) (g) rfl rfl rfl rfl rfl rfl hg0 (.inl ⟨rfl,by omega⟩) rfl rfl ?_
    refine D.q2 2 5 7 hR ?_
    refine G.z3 2 5 7 46 ?_
    refine G.cd (fun h46=>?_) fun h46=>?_
    ·have h1:d / g=1:=by
      have h2:(((d / g:Nat):Int))=1:=by simpa using h46
      omega
     refine G.rp 1 fun R hR=>?_
     refine D.af (d9 _ (hT.mono mup) _ (by omega) (by omega)) rfl rfl rfl rfl rfl rfl rfl (fun _=>rfl) ?_
     refine D.q1 1 4 hR ?_
     refine G.rf ?_
     refine ⟨?_,rfl⟩
     rw [h1,dens_one rfl]
     simp [bX]
    ·have h1:d / g≠1:=by
      intro h2
      rw [h2] at h46
      exact absurd h46 (by decide)
     have hT1:=txt_len (n / (g:Int))
     have hT2:=txt_len ((d / g:Nat):Int)
     have hT3:(decS (n / (g:Int)).natAbs).length<=20:=cI (Nat.lt_of_le_of_lt hnq (Nat.lt_trans hna (by decide))) (by decide)
     have hT4:(decS ((d / g:Nat):Int).natAbs).length<=20:=cI (by rw [Int.natAbs_natCast];exact Nat.lt_of_le_of_lt hdq (Nat.lt_trans (show d<1000000000 by omega) (by decide))) (by decide)
     refine G.rp 1 fun R hR=>?_
     refine D.af (d9 _ (hT.mono mup) _ (by omega) (by omega)) rfl rfl rfl rfl rfl rfl rfl (fun _=>rfl) ?_
     refine D.bS rfl rfl rfl rfl rfl rfl (fun _=>(by simp only [List.length_cons,List.length_nil];omega)) rfl rfl ?_
     refine D.ae ?_
     refine D.af (d9 _ (hT.mono mup) ((d / g:Nat):Int) (Int.le_trans (by decide) (Int.natCast_nonneg _)) (Int.le_trans (Int.ofNat_le.2 hdq) (by omega))) rfl rfl rfl rfl rfl rfl rfl (fun _=>rfl) ?_
     refine D.bS rfl rfl rfl rfl rfl rfl (fun _=>(by simp only [List.length_append,List.length_cons,List.length_nil];omega)) rfl rfl ?_
     refine D.q1 1 4 hR ?_
     refine G.rf ?_
     refine ⟨?_,rfl⟩
     rw [dz h1,bM,List.append_assoc]
     rfl
def briefV (sg:Bool)(A:Str)(B:Option Str):Value:=.tuple #[.int .i64 (sgZ sg (decV A)),.int .i64 (denV B),.bool true]
theorem brief2_raw (C:Mem)(sg:Bool)(A:Str)(B:Option Str)(hA:∀ c∈A,digB c=true)(hA0:A≠[])(hB:∀ b,B=some b->∀ c∈b,digB c=true)(hl:(preS sg++A++bX B).length<=9) :
  Gives cx.P 118 [strV (preS sg++A++bX B)] C (briefV sg A B):=by
 obtain ⟨s,hs⟩:∃ s,preS sg++A++bX B=s:=⟨_,rfl⟩
 obtain ⟨p,hp⟩:∃ p,(preS sg).length=p:=⟨_,rfl⟩
 have hp1:p=if sg then 1 else 0:=by rw [<- hp];cases sg <;> rfl
 have hgA:∀ j c,A[j]?=some c->s[p+j]?=some c:=fun j c h=>by rw [<- hs,<- hp];exact pre_get _ _ _ h
 have hgB:∀ j,s[p+A.length+j]?=(bX B)[j]?:=fun j=>by rw [<- hs,<- hp];exact post_get _ _ _ _
 have hsl:s.length=p+A.length+(bX B).length:=by rw [<- hs,<- hp,List.length_append,List.length_append]
 have hAl:0<A.length:=List.length_pos_iff.2 hA0
 rw [hs] at hl ⊢
 have hV:∀ j,decV (A.take j)<1000000000:=fun j=>by
  have h:=decV_le9 hA (i:=min j A.length) (by omega)
  rcases Nat.le_total j A.length with h1 | h1
  ·rwa [Nat.min_eq_left h1] at h
  ·rw [Nat.min_eq_right h1,List.take_length] at h
   rwa [List.take_of_length_le h1]
 refine Fn.it (by kernel_rfl) Tryz.func118 57 fun w0=>?_
 refine G.z2 3 0 2 ?_
 refine G.z3 3 0 2 9 ?_
 refine G.cd (fun h9=>?_) fun h9=>?_
 ·exfalso
  have h:(9:Int)<((s.length:Nat):Int):=of_decide_eq_true h9
  omega
 ·refine G.z5 3 0 2 3 5 6 ?_
  refine G.rp 1 fun R hR=>?_
  refine D.a7 (b:=s.getD 0 0) rfl rfl rfl rfl rfl rfl rfl rfl (fun _=>⟨by omega,(by rw [List.getD_eq_getElem?_getD,show (0:Int).toNat=0 from rfl];obtain ⟨c,hc⟩:∃ c,s[0]?=some c:=⟨s[0]'(by omega),List.getElem?_eq_getElem (by omega)⟩;rw [hc];rfl)⟩) rfl rfl ?_
  refine D.q6 1 0 2 3 5 6 12 hR ?_;clear hR R
  refine G.cut (fun fr C' L' μ=>(True)/\fr=[(0,[],strV s),(2,[],.int .i64 0),(3,[],.int .i64 1),(5,[],.int .i64 p),(6,[],.int .i64 (if sg then -1 else 1))]/\L'=[]) ?_ (fun fr C12 L12 μ hle12 hI=>?_)
  ·refine G.cd (fun h12=>?_) fun h12=>?_
   ·have hsg:sg=true:=by
     cases sg with
     | true=>rfl
     | false =>
      exfalso
      rw [if_neg (by decide)] at hp1
      subst hp1
      obtain ⟨c,hc⟩:∃ c,A[0]?=some c:=⟨A[0],List.getElem?_eq_getElem hAl⟩
      have h1:=hgA 0 c hc
      have h2:=hA c (List.mem_of_getElem? hc)
      rw [Nat.add_zero] at h1
      rw [List.getD_eq_getElem?_getD,h1] at h12
      unfold digB at h2
      simp at h12 h2
      omega
    subst hsg
    rw [if_pos rfl] at hp1
    subst hp1
    refine G.z5 2 0 2 3 5 6 ?_
    refine G.ax 0 (Mem.le.refl _) (h_5 0 2 3 5 6) ⟨trivial,rfl,rfl⟩
   ·have hsg:sg=false:=by
     cases sg with
     | false=>rfl
     | true =>
      exfalso
      have h1:s[0]?=some 45:=by rw [<- hs];rfl
      rw [List.getD_eq_getElem?_getD,h1] at h12
      exact absurd h12 (by decide)
    subst hsg
    rw [if_neg (by decide)] at hp1
    subst hp1
    refine G.ax 0 (Mem.le.refl _) (h_5 0 2 3 5 6) ⟨trivial,rfl,rfl⟩
  ·obtain ⟨_,rfl,rfl⟩:=hI
   refine G.loop (fun fr C' L' μ=>∃ (j:Nat),(j<=A.length)/\fr=[(0,[],strV s),(2,[],.int .i64 ((decV (A.take j):Nat):Int)),(3,[],.int .i64 1),(5,[],.int .i64 ((p+j:Nat):Int)),(6,[],.int .i64 (if sg then -1 else 1))]/\L'=[]/\μ=A.length-j+1) (h_5 0 2 3 5 6) ⟨0,by omega,rfl,rfl,rfl⟩ (fun fr C0' L0' m hle0 hI=>?_)
   obtain ⟨j,hj,rfl,rfl,rfl⟩:=hI
   obtain ⟨c,hc⟩:∃ c,p+j<s.length->s[p+j]?=some c:=⟨s.getD (p+j) 0,fun h=>by rw [List.getD_eq_getElem?_getD,List.getElem?_eq_getElem h];rfl⟩
   refine G.rp 7 fun R hR=>?_
   refine D.a7 (b:=c) rfl rfl rfl rfl rfl rfl rfl rfl (fun hg=>⟨by omega,hc (by have h:decide (((p+j:Nat):Int)<((s.length:Nat):Int))=true:=hg.1;have h2:=of_decide_eq_true h;omega)⟩) rfl rfl ?_
   refine D.ae ?_
   refine D.ay ?_
   refine D.e6 0 2 3 5 6 22 hR ?_;clear hR R
   refine G.cd (fun h22=>?_) fun h22=>?_
   ·have h22':p+j<s.length/\c.toNat≠47:=by
     simp at h22
     omega
    have hjl:j<A.length:=by
     rcases Nat.lt_or_ge j A.length with h | h
     ·exact h
     ·exfalso
      obtain rfl:j=A.length:=by omega
      have h1:=hc h22'.1
      have h2:=hgB 0
      rw [Nat.add_zero,h1] at h2
      cases B with
      | none=>simp [bX] at h2
      | some b =>
       simp [bX] at h2
       subst h2
       exact h22'.2 rfl
    obtain ⟨c',hcA⟩:∃ c,A[j]?=some c:=⟨A[j],List.getElem?_eq_getElem hjl⟩
    obtain rfl:c'=c:=by
     have h1:=hc h22'.1
     rw [hgA j c' hcA] at h1
     exact Option.some.inj h1
    have hcr:48<=c'.toNat/\c'.toNat<=57:=by simpa [digB] using hA c' (List.mem_of_getElem? hcA)
    have hV1:=hV j
    refine G.rp 1 fun R hR=>?_
    refine D.am _ ?_
    refine D.ps 2 ?_
    refine D.a7 rfl rfl rfl rfl rfl rfl rfl rfl (fun _=>⟨by omega,hgA j _ hcA⟩) rfl rfl ?_
    refine D.int (((c'.toNat:Nat):Int)-48) rfl rfl rfl rfl (by rw [IntKind.wrap_u8];omega) rfl rfl ?_
    refine D.cY (c:=((c'.toNat:Nat):Int)-48) rfl rfl rfl rfl rfl rfl rfl rfl (by rw [IntKind.wrap_i64];omega) (fun _=>rfl) ?_
    refine D.am _ ?_
    refine D.ae ?_
    refine D.am _ ?_
    refine D.q5 2 0 2 3 5 6 hR ?_;clear hR R
    rw [show 10*((decV (A.take j):Nat):Int)+(((c'.toNat:Nat):Int)-48)=((decV (A.take (j+1)):Nat):Int) by rw [decV_t10 hcA];omega]
    refine G.au (m':=A.length-(j+1)+1) (by omega) hle0 (h_5 0 2 3 5 6) ⟨j+1,(by omega),rfl,rfl,rfl⟩
   ·have hjl:j=A.length:=by
     rcases Nat.lt_or_ge j A.length with h | h
     ·exfalso
      obtain ⟨c',hcA⟩:∃ c,A[j]?=some c:=⟨A[j],List.getElem?_eq_getElem h⟩
      have h1:=hc (by omega)
      rw [hgA j c' hcA] at h1
      obtain rfl:=Option.some.inj h1
      have hcr:48<=c'.toNat/\c'.toNat<=57:=by simpa [digB] using hA c' (List.mem_of_getElem? hcA)
      simp at h22
      have:=h22 (by omega)
      omega
     ·omega
    subst hjl
    have hV1:=hV A.length
    rw [List.take_length] at hV1 ⊢
    refine G.z6 4 0 2 3 5 6 36 ?_
    refine G.cut (fun fr C' L' μ=>(True)/\fr=[(2,[],.int .i64 ((decV A:Nat):Int)),(3,[],.int .i64 ((denV B:Nat):Int)),(6,[],.int .i64 (if sg then -1 else 1))]/\L'=[]) ?_ (fun fr C36 L36 μ hle36 hI=>?_)
    ·refine G.cd (fun h36=>?_) fun h36=>?_
     ·obtain ⟨b,rfl⟩:∃ b,B=some b:=by
       cases B with
       | some b=>exact ⟨b,rfl⟩
       | none =>
        exfalso
        rw [hsl] at h36
        simp [bX] at h36
      have hBd:=hB b rfl
      have hsl':s.length=p+A.length+1+b.length:=by rw [hsl];simp [bX];omega
      have hVb:∀ j,decV (b.take j)<1000000000:=fun j=>by
       have h:=decV_le9 hBd (i:=min j b.length) (by omega)
       rcases Nat.le_total j b.length with h1 | h1
       ·rwa [Nat.min_eq_left h1] at h
       ·rw [Nat.min_eq_right h1,List.take_length] at h
        rwa [List.take_of_length_le h1]
      refine G.z5 1 0 2 3 5 6 ?_
      refine G.rp 1 fun R hR=>?_
      refine D.am _ ?_
      refine D.q5 1 0 2 3 5 6 hR ?_;clear hR R
      refine G.loop (fun fr C' L' μ=>∃ (j:Nat),(j<=b.length)/\fr=[(0,[],strV s),(2,[],.int .i64 ((decV A:Nat):Int)),(3,[],.int .i64 ((decV (b.take j):Nat):Int)),(5,[],.int .i64 ((p+A.length+1+j:Nat):Int)),(6,[],.int .i64 (if sg then -1 else 1))]/\L'=[]/\μ=b.length-j+1) (h_5 0 2 3 5 6) ⟨0,(by omega),rfl,rfl,rfl⟩ (fun fr C1' L1' m hle1 hI=>?_)
      obtain ⟨j,hk,rfl,rfl,rfl⟩:=hI
      refine G.z6 4 0 2 3 5 6 42 ?_
      refine G.cd (fun h42=>?_) fun h42=>?_
      ·have hkl:j<b.length:=by
        have:p+A.length+1+j<s.length:=by simp at h42;omega
        omega
       obtain ⟨c,hcB⟩:∃ c,b[j]?=some c:=⟨b[j],List.getElem?_eq_getElem hkl⟩
       have hcs:s[p+A.length+1+j]?=some c:=by rw [Nat.add_assoc,hgB,Nat.add_comm 1 j];exact hcB
       have hcr:48<=c.toNat/\c.toNat<=57:=by simpa [digB] using hBd c (List.mem_of_getElem? hcB)
       have hV2:=hVb j
       refine G.rp 1 fun R hR=>?_
       refine D.am _ ?_
       refine D.ps 2 ?_
       refine D.a7 rfl rfl rfl rfl rfl rfl rfl rfl (fun _=>⟨by omega,hcs⟩) rfl rfl ?_
       refine D.int (((c.toNat:Nat):Int)-48) rfl rfl rfl rfl (by rw [IntKind.wrap_u8];omega) rfl rfl ?_
       refine D.cY (c:=((c.toNat:Nat):Int)-48) rfl rfl rfl rfl rfl rfl rfl rfl (by rw [IntKind.wrap_i64];omega) (fun _=>rfl) ?_
       refine D.am _ ?_
       refine D.q5 1 0 2 3 5 6 hR ?_;clear hR R
       refine G.rp 1 fun R hR=>?_
       refine D.am _ ?_
       refine D.q5 1 0 2 3 5 6 hR ?_;clear hR R
       rw [show 10*((decV (b.take j):Nat):Int)+(((c.toNat:Nat):Int)-48)=((decV (b.take (j+1)):Nat):Int) by rw [decV_t10 hcB];omega]
       refine G.au (m':=b.length-(j+1)+1) (by omega) hle1 (h_5 0 2 3 5 6) ⟨j+1,(by omega),rfl,rfl,rfl⟩
      ·have hkl:j=b.length:=by
        have:¬ p+A.length+1+j<s.length:=by simp at h42;omega
        omega
       subst hkl
       rw [List.take_length]
       refine G.ax 0 mup (h_3 2 3 6) ⟨trivial,rfl,rfl⟩
     ·have hB0:B=none:=by
       cases B with
       | none=>rfl
       | some b =>
        exfalso
        have h:¬ ((p+A.length:Nat):Int)<((s.length:Nat):Int):=of_decide_eq_false h36
        rw [hsl] at h
        simp only [bX,List.length_cons] at h
        omega
      subst hB0
      refine G.ax 0 (Mem.le.refl _) (h_3 2 3 6) ⟨trivial,rfl,rfl⟩
    ·obtain ⟨_,rfl,rfl⟩:=hI
     have hsz:-1000000000<sgZ sg (decV A)/\sgZ sg (decV A)<1000000000:=by unfold sgZ;split <;> omega
     refine G.rp 2 fun R hR=>?_
     refine D.cg (sgZ sg (decV A)) rfl rfl rfl rfl (by unfold sgZ;cases sg <;> simp) (by omega) (by omega) rfl rfl ?_
     refine D.q3 4 2 3 4 hR ?_;clear hR R
     refine G.aA (G.dropAll (G.eU rfl rfl rfl rfl ?_))
     exact ⟨rfl,rfl⟩

theorem abs_lt_of {z:Int}{m:Nat}(h:z.natAbs<m)(g:Nat)(hd:g ∣ z.natAbs):(z / (g:Int)).natAbs<m:=by
 rw [Int.natAbs_ediv_of_dvd (Int.dvd_natAbs.1 (Int.natCast_dvd_natCast.2 hd)),Int.natAbs_natCast]
 exact Nat.lt_of_le_of_lt (Nat.div_le_self _ _) h
theorem gcd_ref2 (C:Mem)(hT:Tabs C)(y:Int)(d:Nat)(hy:y.natAbs<BP ^ 200)(hd:d<BP ^ 200):Gives cx.P 59 [strV (txt y),strV (decS d)] C (strV (decS (Nat.gcd y.natAbs d))):=by
 have h:=gcd_ref_fn C hT y (d:Nat) hy (by omega)
 rwa [bM,Int.natAbs_natCast] at h
theorem fraction_fn (C:Mem)(hT:Tabs C)(z w:Int)(hz:z.natAbs<BP ^ 200)(hw:w.natAbs<BP ^ 200)(hw0:w≠0):Gives cx.P 99 [strV (txt z),strV (txt w)] C (strV (qtx (divS z w))):=by
 have hzl:=dq hz
 have hwl:=dq hw
 obtain ⟨y,hy⟩:∃ y,(if w<0 then -z else z)=y:=⟨_,rfl⟩
 obtain ⟨d,hd⟩:∃ d,w.natAbs=d:=⟨_,rfl⟩
 have hd0:d≠0:=by omega
 have hya:y.natAbs=z.natAbs:=by rw [<- hy];split <;> omega
 obtain ⟨g,hg⟩:∃ g,Nat.gcd y.natAbs d=g:=⟨_,rfl⟩
 have hg0:0<g:=by rw [<- hg];exact Nat.gcd_pos_of_pos_right _ (by omega)
 have hgd:g ∣ d:=by rw [<- hg];exact Nat.gcd_dvd_right _ _
 have hgy:g ∣ y.natAbs:=by rw [<- hg];exact Nat.gcd_dvd_left _ _
 have hgl:g<=d:=Nat.le_of_dvd (by omega) hgd
 refine Fn.it (by kernel_rfl) Tryz.func99 46 fun w0=>?_
 refine G.z2 1 0 1 ?_
 refine G.rp 7 fun R hR=>?_
 refine D.ay ?_
 refine D.e3 0 1 13 hR ?_
 refine G.cd (fun h13=>?_) fun h13=>?_
 ·have h:(txt z).length<=9/\(txt w).length<=9:=by
   have h1:=(Bool.and_eq_true _ _ ▸ h13:_/\_)
   have h2:((txt z).length:Int)<=9:=of_decide_eq_true h1.1
   have h3:((txt w).length:Int)<=9:=of_decide_eq_true h1.2
   omega
  refine G.rp 2 fun R hR=>?_
  refine D.ah (small2_fn _ (hT.mono mup) z w h.1 h.2 hw0) ?_
  refine D.q1 1 4 hR ?_
  refine G.rf ?_
  exact ⟨rfl,rfl⟩
 ·refine G.rp 1 fun R hR=>?_
  refine D.ah (sign_ref_fn _ w) ?_
  refine D.q3 1 0 1 19 hR ?_
  refine G.cut (fun fr C' L' μ=>(True)/\fr=[(0,[],strV (txt y)),(1,[],strV (decS d))]/\L'=[]) ?_ (fun fr C19 L19 μ hle19 hI=>?_)
  ·refine G.cd (fun h19=>?_) fun h19=>?_
   ·have hneg:w<0:=by
     have h:=of_decide_eq_true h19
     refine Classical.byContradiction fun h2=>?_
     rw [if_neg h2] at h
     revert h
     split <;> decide
    rw [if_pos hneg] at hy
    refine G.rp 1 fun R hR=>?_
    refine D.af (neg_ref_fn _ z (by omega)) rfl rfl rfl rfl rfl rfl rfl (fun _=>rfl) ?_
    refine D.ae ?_
    refine D.af (neg_ref_fn _ w (by omega)) rfl rfl rfl rfl rfl rfl rfl (fun _=>rfl) ?_
    refine D.q2 2 0 1 hR ?_
    refine G.ax 0 (Mem.le.refl _) (h_2 0 1) ⟨trivial,by rw [hy,show -w=((d:Nat):Int) by omega,bM],rfl⟩
   ·have hneg:¬ w<0:=by
     intro h2
     have h:=of_decide_eq_false h19
     rw [if_pos h2] at h
     exact h (by decide)
    rw [if_neg hneg] at hy
    refine G.ax 0 (Mem.le.refl _) (h_2 0 1) ⟨trivial,by rw [hy,show w=((d:Nat):Int) by omega,bM],rfl⟩
  ·obtain ⟨_,rfl,rfl⟩:=hI
   unfold divS
   rw [hy,hd,qtx_mk hd0,hg]
   have hyl:=abs_lt_of (z:=y) (by rw [hya];exact hz) g hgy
   have hyl2:=dq hyl
   have hdl:d / g<BP ^ 200:=Nat.lt_of_le_of_lt (Nat.div_le_self _ _) (by omega)
   have hdl2:=dq hdl
   have hT1:=txt_len (y / (g:Int))
   refine G.rp 2 fun R hR=>?_
   refine D.af (gcd_ref2 _ (hT.mono mup) y d (by omega) (by omega)) rfl rfl rfl rfl rfl rfl rfl (fun _=>rfl) ?_
   refine D.q3 1 0 1 5 hR ?_
   rw [hg]
   refine G.rp 2 fun R hR=>?_
   refine D.af (divmod_ex_fn _ (hT.mono mup) y g (by omega) (by omega) hg0 hgy) rfl rfl rfl rfl rfl rfl rfl (fun _=>rfl) ?_
   refine D.q3 4 0 1 5 hR ?_
   refine G.rp 2 fun R hR=>?_
   refine D.af (divmod_ref_fn _ (hT.mono mup) d g (by omega) (by omega) hg0) rfl rfl rfl rfl rfl rfl rfl (fun _=>rfl) ?_
   refine D.q2 4 0 1 hR ?_
   refine G.z3 2 0 1 40 ?_
   refine G.cd (fun h40=>?_) fun h40=>?_
   ·have h1:d / g=1:=by rw [decEq1] at h40;exact of_decide_eq_true h40
    refine G.z1 2 4 ?_
    refine G.rf ?_
    refine ⟨?_,rfl⟩
    rw [dens_one h1]
    simp [bX]
   ·have h1:d / g≠1:=by rw [decEq1] at h40;exact of_decide_eq_false h40
    refine G.rp 1 fun R hR=>?_
    refine D.bS rfl rfl rfl rfl rfl rfl (fun _=>(by simp only [List.length_cons,List.length_nil];omega)) rfl rfl ?_
    refine D.ae ?_
    refine D.bS rfl rfl rfl rfl rfl rfl (fun _=>(by simp only [List.length_append,List.length_cons,List.length_nil];omega)) rfl rfl ?_
    refine D.q1 1 4 hR ?_
    refine G.rf ?_
    refine ⟨?_,rfl⟩
    rw [dz h1,List.append_assoc]
    rfl
theorem of2_fn (C:Mem)(hT:Tabs C)(z w:Int)(hz:z.natAbs<9000000000000000000)(hw:w.natAbs<9000000000000000000)(hw0:w≠0):Gives cx.P 63 [.int .i64 z,.int .i64 w] C (strV (qtx (divS z w))):=by
 have hb:9000000000000000000<BP ^ 200:=by decide +kernel
 refine Fn.it (by kernel_rfl) Tryz.func63 10 fun w0=>?_
 refine G.z2 1 0 1 ?_
 refine G.rp 1 fun R hR=>?_
 refine D.af (eO _ (hT.mono mup) z (by omega) (by omega)) rfl rfl rfl rfl rfl rfl rfl (fun _=>rfl) ?_
 refine D.ae ?_
 refine D.af (eO _ (hT.mono mup) w (by omega) (by omega)) rfl rfl rfl rfl rfl rfl rfl (fun _=>rfl) ?_
 refine D.af (fraction_fn _ (hT.mono mup) z w (by omega) (by omega) hw0) rfl rfl rfl rfl rfl rfl rfl (fun _=>rfl) ?_
 refine D.q1 1 4 hR ?_
 refine G.rf ?_
 exact ⟨rfl,rfl⟩
theorem sign2_fn (C:Mem)(q:Rat)(_hl:(qtx q).length<=1000000):Gives cx.P 122 [strV (qtx q)] C (.int .i64 (sgnZ q.num)):=by
 obtain ⟨c,r,hcr,hcd⟩:=qtx_head q
 have hpos:=qtx_ne q
 refine Fn.it (by kernel_rfl) Tryz.func122 8 fun w0=>?_
 refine G.z1 1 0 ?_
 refine G.z2 2 0 4 ?_
 refine G.cd (fun h4=>?_) fun h4=>?_
 ·have h0:q=0:=by rw [dF] at h4;exact of_decide_eq_true h4
  refine G.z1 1 2 ?_
  refine G.rf ?_
  refine ⟨?_,rfl⟩
  rw [h0]
  rfl
 ·have h0:q≠0:=by rw [dF] at h4;exact of_decide_eq_false h4
  have hn0:q.num≠0:=fun e=>h0 (Rat.num_eq_zero.1 e)
  refine G.rp 1 fun R hR=>?_
  refine D.a7 rfl rfl rfl rfl rfl rfl rfl rfl (fun _=>⟨by omega,by rw [hcr];rfl⟩) rfl rfl ?_
  refine D.q1 1 7 hR ?_
  refine G.cd (fun h7=>?_) fun h7=>?_
  ·rw [hcd] at h7
   have hn:q.num<0:=of_decide_eq_true h7
   refine G.z1 1 2 ?_
   refine G.rf ?_
   refine ⟨?_,rfl⟩
   unfold sgnZ
   rw [if_pos hn]
  ·rw [hcd] at h7
   have hn:¬ q.num<0:=of_decide_eq_false h7
   refine G.z1 1 2 ?_
   refine G.rf ?_
   refine ⟨?_,rfl⟩
   unfold sgnZ
   rw [if_neg hn,if_neg hn0]
theorem neg2_fn (C:Mem)(q:Rat)(hl:(qtx q).length<=1000000):Gives cx.P 44 [strV (qtx q)] C (strV (qtx (-q))):=by
 have hpos:=qtx_ne q
 refine Fn.it (by kernel_rfl) Tryz.func44 13 fun w0=>?_
 refine G.z1 1 0 ?_
 refine G.z2 2 0 4 ?_
 refine G.cd (fun h4=>?_) fun h4=>?_
 ·have h0:q=0:=by rw [dF] at h4;exact of_decide_eq_true h4
  refine G.z1 2 2 ?_
  refine G.rf ?_
  refine ⟨?_,rfl⟩
  rw [h0,Rat.neg_zero]
 ·have h0:q≠0:=by rw [dF] at h4;exact of_decide_eq_false h4
  obtain ⟨c,r,hcr,hcd⟩:=qtx_head q
  refine G.rp 1 fun R hR=>?_
  refine D.a7 rfl rfl rfl rfl rfl rfl rfl rfl (fun _=>⟨by omega,by rw [hcr];rfl⟩) rfl rfl ?_
  refine D.q2 1 0 8 hR ?_
  refine G.cd (fun h8=>?_) fun h8=>?_
  ·have hn:q.num<0:=by rw [hcd] at h8;exact of_decide_eq_true h8
   refine G.rp 1 fun R hR=>?_
   refine D.bB 1 (qtx q).length rfl rfl rfl rfl rfl rfl rfl rfl rfl (fun _=>⟨.inr ⟨_,rfl⟩,.inl ⟨rfl,rfl⟩,.inl ⟨rfl,rfl⟩,by omega,Nat.le_refl _,Nat.le_refl _⟩) rfl rfl ?_
   refine D.q1 1 2 hR ?_
   refine G.rf ?_
   refine ⟨?_,rfl⟩
   rw [List.take_length,qtx_neg_of_neg hn]
   rfl
  ·have hn:¬ q.num<0:=by rw [hcd] at h8;exact of_decide_eq_false h8
   refine G.rp 1 fun R hR=>?_
   refine D.bS rfl rfl rfl rfl rfl rfl (fun _=>(by simp only [List.length_cons,List.length_nil];omega)) rfl rfl ?_
   refine D.q1 1 2 hR ?_
   refine G.rf ?_
   refine ⟨?_,rfl⟩
   rw [dt hn h0]
   rfl

theorem bp_of {n m:Nat}(h:n<B9 ^ m)(hm:m<=88):n<BP ^ 200:=by
 rw [BP200]
 rw [pow9] at h
 exact Nat.lt_of_lt_of_le h (Nat.pow_le_pow_right (n:=10) (i:=9*m) (j:=800) (by decide) (by omega))
theorem brief2_long (C:Mem)(s:Str)(hl:9<s.length):Gives cx.P 118 [strV s] C (.tuple #[.int .i64 0,.int .i64 0,.bool false]):=by
 refine Fn.it (by kernel_rfl) Tryz.func118 57 fun w0=>?_
 refine G.z2 3 0 2 ?_
 refine G.z3 3 0 2 9 ?_
 refine G.cd (fun h9=>?_) fun h9=>?_
 ·refine G.z3 3 2 3 4 ?_
  refine G.aA (G.dropAll (G.eU rfl rfl rfl rfl ?_))
  exact ⟨rfl,rfl⟩
 ·exfalso
  have h:¬ (9:Int)<((s.length:Nat):Int):=of_decide_eq_false h9
  omega
theorem brief2_q (C:Mem)(q:Rat):Gives cx.P 118 [strV (qtx q)] C (.tuple #[.int .i64 (if (qtx q).length<=9 then q.num else 0),.int .i64 (if (qtx q).length<=9 then ((q.den:Nat):Int) else 0),.bool (decide ((qtx q).length<=9))]):=by
 by_cases h:(qtx q).length<=9
 ·rw [if_pos h,if_pos h,decide_eq_true h]
  have h2:=brief2_raw C (decide (q.num<0)) (decS q.num.natAbs) (denS q.den) (fk _) (decS_ne _) (denS_dig _) h
  unfold briefV at h2
  rw [(aS _).2,denV_denS] at h2
  have e:sgZ (decide (q.num<0)) q.num.natAbs=q.num:=by
   unfold sgZ
   by_cases h:q.num<0
   ·rw [decide_eq_true h,if_pos rfl];omega
   ·rw [decide_eq_false h,if_neg (by decide)];omega
  rw [e] at h2
  exact h2
 ·rw [if_neg h,if_neg h,decide_eq_false h]
  exact brief2_long C _ (by omega)
theorem short_lt {q:Rat}(h:(qtx q).length<=9):q.num.natAbs<1000000000/\q.den<1000000000:=by
 refine fitQ_lt ?_
 unfold fitQ fit9
 unfold qtx at h
 rw [List.length_append,List.length_append] at h
 have h2:((denS q.den).getD []).length<=(bX (denS q.den)).length:=by
  cases denS q.den with
  | none=>exact Nat.le_refl _
  | some b=>simp [bX]
 rw [decide_eq_true (by omega),decide_eq_true (by omega)]
 rfl
theorem parts2_q (C:Mem)(q:Rat)(hl:(qtx q).length<1000000):Gives cx.P 55 [strV (qtx q)] C (.tuple #[strV (txt q.num),strV (txt ((q.den:Nat):Int))]):=by
 have h:=parts2_fn C (qtx q) hl
 rwa [cut1_qtx,den_get,<- bM] at h
theorem radd2_fn (C:Mem)(hT:Tabs C)(a b:Rat)(k:Nat)(hk0:0<k)(hk:k<=40)(ha:QB k a)(hb:QB k b):Gives cx.P 67 [strV (qtx a),strV (qtx b)] C (strV (qtx (a+b))):=by
 have hal:=bA ha hk0
 have hbl:=bA hb hk0
 have hda:=dp a
 have hdb:=dp b
 have hdd:0<a.den*b.den:=Nat.mul_pos hda hdb
 refine Fn.it (by kernel_rfl) Tryz.func67 61 fun w0=>?_
 refine G.z2 1 0 1 ?_
 refine G.rp 1 fun R hR=>?_
 refine D.ah (brief2_q _ a) ?_
 refine D.q5 7 0 1 5 6 7 hR ?_
 refine G.z5 1 0 1 5 6 21 ?_
 refine G.cut (fun fr C' L' μ=>(True)/\fr=[(0,[],strV (qtx a)),(1,[],strV (qtx b))]/\L'=[]) ?_ (fun fr C21 L21 μ hle21 hI=>?_)
 ·refine G.cd (fun h21=>?_) fun h21=>?_
  ·have hfa:=of_decide_eq_true h21
   rw [if_pos hfa,if_pos hfa]
   have ha9:=short_lt hfa
   refine G.rp 1 fun R hR=>?_
   refine D.ah (brief2_q _ b) ?_
   refine D.q7 7 0 1 5 6 8 9 10 hR ?_
   refine G.z7 1 0 1 5 6 8 9 28 ?_
   refine G.cd (fun h28=>?_) fun h28=>?_
   ·have hfb:=of_decide_eq_true h28
    rw [if_pos hfb,if_pos hfb]
    have hb9:=short_lt hfb
    have hm1:=nine_mul ha9.1 hb9.2
    have hm2:=nine_mul hb9.1 ha9.2
    have hm3:=nine_mulN ha9.2 hb9.2
    refine G.rp 2 fun R hR=>?_
    refine D.am _ ?_
    refine D.ps 2 ?_
    refine D.am _ ?_
    refine D.am _ ?_
    refine D.ps 2 ?_
    refine D.cg (((a.den*b.den:Nat):Int)) rfl rfl rfl rfl (Int.natCast_mul _ _).symm (by omega) (by omega) rfl rfl ?_
    refine D.af (lowest2_fn _ (hT.mono mup) _ _ hdd (by omega) (by omega)) rfl rfl rfl rfl rfl rfl rfl (fun _=>rfl) ?_
    refine D.q1 1 4 hR ?_
    refine G.rf ?_
    exact ⟨by rw [dR],rfl⟩
   ·refine G.ax 0 (Mem.le.refl _) (h_2 0 1) ⟨trivial,rfl,rfl⟩
  ·refine G.ax 0 (Mem.le.refl _) (h_2 0 1) ⟨trivial,rfl,rfl⟩
 ·obtain ⟨_,rfl,rfl⟩:=hI
  refine G.rp 1 fun R hR=>?_
  refine D.af (parts2_q _ a (by omega)) rfl rfl rfl rfl rfl rfl rfl (fun _=>rfl) ?_
  refine D.q3 5 1 11 12 hR ?_
  refine G.rp 1 fun R hR=>?_
  refine D.af (parts2_q _ b (by omega)) rfl rfl rfl rfl rfl rfl rfl (fun _=>rfl) ?_
  refine D.q4 5 11 12 13 14 hR ?_
  refine G.rp 2 fun R hR=>?_
  refine D.af (ea _ (hT.mono mup) _ _ (bp_of ha.1 (by omega)) (bp_of (denI hb) (by omega))) rfl rfl rfl rfl rfl rfl rfl (fun _=>rfl) ?_
  refine D.ps 2 ?_
  refine D.af (ea _ (hT.mono mup) _ _ (bp_of hb.1 (by omega)) (bp_of (denI ha) (by omega))) rfl rfl rfl rfl rfl rfl rfl (fun _=>rfl) ?_
  refine D.af (add_ref_fn _ (hT.mono mup) _ _ (bp_of (bI ha.1 (denI hb)) (by omega)) (bp_of (bI hb.1 (denI ha)) (by omega))) rfl rfl rfl rfl rfl rfl rfl (fun _=>rfl) ?_
  refine D.ps 2 ?_
  refine D.af (ea _ (hT.mono mup) _ _ (bp_of (denI ha) (by omega)) (bp_of (denI hb) (by omega))) rfl rfl rfl rfl rfl rfl rfl (fun _=>rfl) ?_
  refine D.af (fraction_fn _ (hT.mono mup) _ _ (bp_of (Nat.lt_of_le_of_lt (Int.natAbs_add_le _ _) (sum_lt9 (bI ha.1 (denI hb)) (bI hb.1 (denI ha)))) (by omega)) (bp_of (bI (denI ha) (denI hb)) (by omega)) (by rw [<- Int.natCast_mul];omega)) rfl rfl rfl rfl rfl rfl rfl (fun _=>rfl) ?_
  refine D.q1 1 4 hR ?_
  refine G.rf ?_
  exact ⟨by rw [dR,<- Int.natCast_mul,divS_pos hdd],rfl⟩
theorem rmul2_fn (C:Mem)(hT:Tabs C)(a b:Rat)(k:Nat)(hk0:0<k)(hk:k<=40)(ha:QB k a)(hb:QB k b):Gives cx.P 68 [strV (qtx a),strV (qtx b)] C (strV (qtx (a*b))):=by
 have hal:=bA ha hk0
 have hbl:=bA hb hk0
 have hda:=dp a
 have hdb:=dp b
 have hdd:0<a.den*b.den:=Nat.mul_pos hda hdb
 refine Fn.it (by kernel_rfl) Tryz.func68 53 fun w0=>?_
 refine G.z2 1 0 1 ?_
 refine G.rp 1 fun R hR=>?_
 refine D.ah (brief2_q _ a) ?_
 refine D.q5 7 0 1 5 6 7 hR ?_
 refine G.z5 1 0 1 5 6 21 ?_
 refine G.cut (fun fr C' L' μ=>(True)/\fr=[(0,[],strV (qtx a)),(1,[],strV (qtx b))]/\L'=[]) ?_ (fun fr C21 L21 μ hle21 hI=>?_)
 ·refine G.cd (fun h21=>?_) fun h21=>?_
  ·have hfa:=of_decide_eq_true h21
   rw [if_pos hfa,if_pos hfa]
   have ha9:=short_lt hfa
   refine G.rp 1 fun R hR=>?_
   refine D.ah (brief2_q _ b) ?_
   refine D.q7 7 0 1 5 6 8 9 10 hR ?_
   refine G.z7 1 0 1 5 6 8 9 28 ?_
   refine G.cd (fun h28=>?_) fun h28=>?_
   ·have hfb:=of_decide_eq_true h28
    rw [if_pos hfb,if_pos hfb]
    have hb9:=short_lt hfb
    have hm1:=prod18 ha9.1 hb9.1
    have hm3:=nine_mulN ha9.2 hb9.2
    refine G.rp 2 fun R hR=>?_
    refine D.am _ ?_
    refine D.ps 2 ?_
    refine D.cg (((a.den*b.den:Nat):Int)) rfl rfl rfl rfl (Int.natCast_mul _ _).symm (by omega) (by omega) rfl rfl ?_
    refine D.af (lowest2_fn _ (hT.mono mup) _ _ hdd (by omega) (by omega)) rfl rfl rfl rfl rfl rfl rfl (fun _=>rfl) ?_
    refine D.q1 1 4 hR ?_
    refine G.rf ?_
    exact ⟨by rw [dQ],rfl⟩
   ·refine G.ax 0 (Mem.le.refl _) (h_2 0 1) ⟨trivial,rfl,rfl⟩
  ·refine G.ax 0 (Mem.le.refl _) (h_2 0 1) ⟨trivial,rfl,rfl⟩
 ·obtain ⟨_,rfl,rfl⟩:=hI
  refine G.rp 1 fun R hR=>?_
  refine D.af (parts2_q _ a (by omega)) rfl rfl rfl rfl rfl rfl rfl (fun _=>rfl) ?_
  refine D.q3 5 1 11 12 hR ?_
  refine G.rp 1 fun R hR=>?_
  refine D.af (parts2_q _ b (by omega)) rfl rfl rfl rfl rfl rfl rfl (fun _=>rfl) ?_
  refine D.q4 5 11 12 13 14 hR ?_
  refine G.rp 2 fun R hR=>?_
  refine D.af (ea _ (hT.mono mup) _ _ (bp_of ha.1 (by omega)) (bp_of hb.1 (by omega))) rfl rfl rfl rfl rfl rfl rfl (fun _=>rfl) ?_
  refine D.ps 2 ?_
  refine D.af (ea _ (hT.mono mup) _ _ (bp_of (denI ha) (by omega)) (bp_of (denI hb) (by omega))) rfl rfl rfl rfl rfl rfl rfl (fun _=>rfl) ?_
  refine D.af (fraction_fn _ (hT.mono mup) _ _ (bp_of (bI ha.1 hb.1) (by omega)) (bp_of (bI (denI ha) (denI hb)) (by omega)) (by rw [<- Int.natCast_mul];omega)) rfl rfl rfl rfl rfl rfl rfl (fun _=>rfl) ?_
  refine D.q1 1 4 hR ?_
  refine G.rf ?_
  exact ⟨by rw [dQ,<- Int.natCast_mul,divS_pos hdd],rfl⟩
theorem rsub2_fn (C:Mem)(hT:Tabs C)(a b:Rat)(k:Nat)(hk0:0<k)(hk:k<=40)(ha:QB k a)(hb:QB k b):Gives cx.P 100 [strV (qtx a),strV (qtx b)] C (strV (qtx (a-b))):=by
 have hbl:=bA hb hk0
 refine Fn.it (by kernel_rfl) Tryz.func100 9 fun w0=>?_
 refine G.z2 1 0 1 ?_
 refine G.rp 2 fun R hR=>?_
 refine D.af (neg2_fn _ b (by omega)) rfl rfl rfl rfl rfl rfl rfl (fun _=>rfl) ?_
 refine D.ah (radd2_fn _ (hT.mono mup) a (-b) k hk0 hk ha (QB_neg hb)) ?_
 refine D.q1 1 4 hR ?_
 refine G.rf ?_
 exact ⟨by rw [Rat.sub_eq_add_neg],rfl⟩
theorem qnum_neg (q:Rat):q.num<0 ↔ q<0:=by
 rw [Rat.lt_iff];simp
theorem sgn_sub (a b:Rat):sgnZ (a-b).num=cmpQ a b:=by
 have h1:(a-b).num<0 ↔ a<b:=by rw [qnum_neg];grind
 have h2:(a-b).num=0 ↔ a=b:=by rw [Rat.num_eq_zero];grind
 unfold sgnZ cmpQ
 by_cases h:a<b
 ·rw [if_pos (h1.2 h),if_pos h]
 ·rw [if_neg (fun e=>h (h1.1 e)),if_neg h]
  by_cases h3:a=b
  ·rw [if_pos (h2.2 h3),if_neg (by rw [h3];exact Rat.lt_irrefl)]
  ·rw [if_neg (fun e=>h3 (h2.1 e)),if_pos (by grind)]
theorem rcompare2_fn (C:Mem)(hT:Tabs C)(a b:Rat)(k:Nat)(hk0:0<k)(hk:k<=40)(ha:QB k a)(hb:QB k b):Gives cx.P 69 [strV (qtx a),strV (qtx b)] C (.int .i64 (cmpQ a b)):=by
 refine Fn.it (by kernel_rfl) Tryz.func69 9 fun w0=>?_
 refine G.z2 1 0 1 ?_
 refine G.rp 2 fun R hR=>?_
 refine D.ah (rsub2_fn _ (hT.mono mup) a b k hk0 hk ha hb) ?_
 refine D.af (sign2_fn _ (a-b) (by have:=bA (QB_sub ha hb) (by omega);omega)) rfl rfl rfl rfl rfl rfl rfl (fun _=>rfl) ?_
 refine D.q1 1 4 hR ?_
 refine G.rf ?_
 exact ⟨by rw [sgn_sub],rfl⟩

theorem right_txt {z:Int}(h:(decS z.natAbs).length<=200):bJ (txt z)=true:=by
 refine rightI_iff.2 ?_
 rw [cD]
 refine ⟨okD_can.2 ⟨(aS _).1,h⟩,fun hz=>?_⟩
 have h1:=of_decide_eq_true hz
 show 0<decV (decS z.natAbs)
 rw [(aS _).2]
 omega
theorem decZ_txt (z:Int):decZ (txt z)=z:=by
 unfold decZ
 rw [cD]
 show sgZ (decide (z<0)) (decV (decS z.natAbs))=z
 rw [(aS _).2]
 unfold sgZ
 by_cases h:z<0
 ·rw [decide_eq_true h,if_pos rfl];omega
 ·rw [decide_eq_false h,if_neg (by decide)];omega
theorem bf {q:Rat}(h:QB 22 q):aR (qtx q)=true:=by
 have h1:(decS q.num.natAbs).length<=200:=by have:=bC h.1 (by decide);omega
 have h2:(decS q.den).length<=200:=by have:=bC h.2 (by decide);omega
 unfold aR
 rw [cut1_qtx]
 show (bJ (txt q.num) && bJ ((denS q.den).getD [49]) && restOk (decZ (txt q.num)) (denS q.den))=true
 rw [den_get,decZ_txt,right_txt h1,<- bM,right_txt (by rw [Int.natAbs_natCast];exact h2),Bool.true_and,Bool.true_and]
 by_cases hd:q.den=1
 ·rw [dens_one hd];rfl
 ·rw [dz hd]
  unfold restOk
  show (decide (1<decZ (decS q.den)) && !(q.num == 0) && (Nat.gcd q.num.natAbs (decZ (decS q.den)).natAbs == 1))=true
  have hz:decZ (decS q.den)=((q.den:Nat):Int):=by rw [<- bM,decZ_txt]
  have hp:=dp q
  rw [hz,decide_eq_true (by omega),Int.natAbs_natCast,show Nat.gcd q.num.natAbs q.den=1 from q.reduced]
  have hn:q.num≠0:=by
   intro e
   have h3:=q.reduced
   rw [e] at h3
   have h4:Nat.gcd 0 q.den=1:=h3
   rw [Nat.gcd_zero_left] at h4
   exact hd h4
  simp [hn]
theorem chk_ok {q:Rat}(h:QB 22 q):chkZ (aR (qtx q))=0:=by rw [bf h];rfl
abbrev Pt:=Rat × Rat
def encP (p:Pt):List Value:=[strV (qtx p.1),strV (qtx p.2)]
def ptV (p:Pt):Value:=.agg ⟨encP p⟩
def QP (k:Nat)(p:Pt):Prop:=QB k p.1/\QB k p.2
def bY (a b c:Pt):Rat:=(b.1-a.1)*(c.2-a.2)-(b.2-a.2)*(c.1-a.1)
theorem eR (b:Bool):chkZ b=0/\b=true∨chkZ b=2/\b=false:=by cases b <;> simp [chkZ]
def dM (s:Str):List Value:=[strV s]
theorem numbers_fn (C:Mem)(hT:Tabs C)(v:Value)(l:List Str)(hv:Sl C 1 v (l.map dM))(hl:∀ s∈l,s.length<=999998):Gives cx.P 145 [v] C (.int .i64 (chkZ (l.all aR))):=by
 obtain ⟨A0,c0,rfl,hc1,hc2,_⟩:=id hv
 have hmx:maxLen<=9223372036854775807:=by simp [maxLen]
 simp only [List.length_map] at hv hc1 ⊢
 refine Fn.it (by kernel_rfl) Tryz.func145 18 fun w0=>?_
 refine G.z1 1 0 ?_
 refine G.z3 3 6 7 8 ?_
 refine G.loop (fun fr C' L' μ=>∃ (i:Nat),(i<=l.length/\(l.take i).all aR=true)/\fr=[(6,[],.slice A0 l.length c0),(7,[],.int .i64 l.length),(8,[],.int .i64 i)]/\L'=[]/\μ=l.length-i) (h_3 6 7 8) ⟨0,⟨Nat.zero_le _,by simp⟩,rfl,rfl,rfl⟩ (fun fr C0' L0' m hle0 hI=>?_)
 obtain ⟨i,⟨hi,hall⟩,rfl,rfl,rfl⟩:=hI
 refine G.z4 1 6 7 8 9 ?_
 refine G.cd (fun h9=>?_) fun h9=>?_
 ·have hil:i<l.length:=by simpa using h9
  obtain ⟨s,hs⟩:∃ s,l[i]?=some s:=⟨l[i],List.getElem?_eq_getElem hil⟩
  refine G.rg fun R hR=>?_
  refine D.ap (hv.mono mup) rfl rfl rfl rfl rfl rfl rfl rfl rfl rfl (by omega) (by rw [List.getElem?_map,hs];rfl:(l.map dM)[i]?=some (dM s)) (fun _=>rfl) (fun p10 hp10=>?_)
  refine D.aa hp10 ?_
  refine D.q4 1 4 6 7 8 hR ?_
  refine G.rp 1 fun R hR=>?_
  refine D.ah (db _ (hT.mono mup) s (hl s (List.mem_of_getElem? hs))) ?_
  refine D.q4 1 5 6 7 8 hR ?_
  refine G.z5 2 5 6 7 8 15 ?_
  refine G.cd (fun h15=>?_) fun h15=>?_
  ·have hno:aR s=false:=by
    rcases eR (aR s) with ⟨h1,h2⟩ | ⟨h1,h2⟩
    ·rw [h1] at h15;exact absurd h15 (by decide)
    ·exact h2
   refine G.z1 2 2 ?_
   refine G.rf ?_
   refine ⟨?_,rfl⟩
   rw [hno,show l.all aR=false from List.all_eq_false.2 ⟨s,List.mem_of_getElem? hs,by rw [hno];decide⟩]
  ·have hyes:aR s=true:=by
    rcases eR (aR s) with ⟨h1,h2⟩ | ⟨h1,h2⟩
    ·exact h2
    ·rw [h1] at h15;exact absurd h15 (by decide)
   refine G.rg fun R hR=>?_
   refine D.am _ ?_
   refine D.q3 1 6 7 8 hR ?_
   refine G.au (m':=l.length-(i+1)) (by omega) hle0 (h_3 6 7 8) ⟨i+1,⟨by omega,by rw [List.take_add_one,hs,List.all_append,hall];simp [hyes]⟩,rfl,rfl,rfl⟩
 ·have hil:i=l.length:=by
   have:¬ i<l.length:=by simpa using h9
   omega
  refine G.z1 1 2 ?_
  refine G.rf ?_
  refine ⟨?_,rfl⟩
  rw [hil,List.take_length] at hall
  rw [hall]
  rfl
theorem two_le {s t:Str}{n:Nat}(hs:s.length<=n)(ht:t.length<=n):∀ x∈[s,t],x.length<=n:=by simp [hs,ht]
theorem three_le {s t u:Str}{n:Nat}(hs:s.length<=n)(ht:t.length<=n)(hu:u.length<=n):∀ x∈[s,t,u],x.length<=n:=by simp [hs,ht,hu]
theorem ft (C:Mem)(hT:Tabs C)(s t:Str)(hs:s.length<=999998)(ht:t.length<=999998):Gives cx.P 92 [.agg ⟨[strV s,strV t]⟩] C (.int .i64 (chkZ (aR s && aR t))):=by
 refine Fn.it (by kernel_rfl) Tryz.func92 9 fun w0=>?_
 refine G.rg fun R hR=>?_
 refine D.aE (fun b1=>?_)
 refine D.q1 1 1 hR ?_
 refine G.rp 1 fun R hR=>?_
 refine D.ag (.head _) ?_
 refine D.ae ?_
 refine D.ag (.head _) ?_
 refine D.ai [dM s,dM t] (fun p7 C7 hle7 hs7=>?_)
 refine D.ah (numbers_fn _ (hT.mono mup) _ [s,t] (hs7.mono mup) (two_le hs ht)) ?_
 refine D.q1 1 2 hR ?_
 refine G.rf ?_
 refine ⟨?_,rfl⟩
 simp
theorem checkVector_fn (C:Mem)(hT:Tabs C)(s t u:Str)(hs:s.length<=999998)(ht:t.length<=999998)(hu:u.length<=999998):Gives cx.P 185 [.agg ⟨[strV s,strV t,strV u]⟩] C (.int .i64 (chkZ (aR s && aR t && aR u))):=by
 refine Fn.it (by kernel_rfl) Tryz.func185 11 fun w0=>?_
 refine G.rg fun R hR=>?_
 refine D.aE (fun b1=>?_)
 refine D.q1 1 1 hR ?_
 refine G.rp 1 fun R hR=>?_
 refine D.ag (.head _) ?_
 refine D.ae ?_
 refine D.ag (.head _) ?_
 refine D.ae ?_
 refine D.ag (.head _) ?_
 refine D.ai [dM s,dM t,dM u] (fun p9 C9 hle9 hs9=>?_)
 refine D.ah (numbers_fn _ (hT.mono mup) _ [s,t,u] (hs9.mono mup) (three_le hs ht hu)) ?_
 refine D.q1 1 2 hR ?_
 refine G.rf ?_
 refine ⟨?_,rfl⟩
 simp [Bool.and_assoc]
theorem area_fn (C:Mem)(hT:Tabs C)(a b c:Pt)(k:Nat)(hk0:0<k)(hk:k<=1000)(ha:QP k a)(hb:QP k b)(hc:QP k c):Gives cx.P 177 [ptV a,ptV b,ptV c] C (strV (qtx (bY a b c))):=by
 have h1:=QB_sub hb.1 ha.1
 have h2:=QB_sub hc.2 ha.2
 have h3:=QB_sub hb.2 ha.2
 have h4:=QB_sub hc.1 ha.1
 refine Fn.it (by kernel_rfl) Tryz.func177 32 fun w0=>?_
 refine G.rg fun R hR=>?_
 refine D.aE (fun b3=>?_)
 refine D.aE (fun b4=>?_)
 refine D.aE (fun b5=>?_)
 refine D.q3 1 3 4 5 hR ?_
 refine G.aI [0,1,2,3,4,5,6,7,8,9,10,11] [(4,1),(9,1),(10,1)] rfl (by kernel_rfl) (fun R hB hR=>?_)
 refine D.ae ?_
 refine D.ag (.tail _ (.head _)) ?_
 refine D.ae ?_
 refine D.ag (.tail _ (.tail _ (.head _))) ?_
 refine D.aD (fun _=>(cR _ (hT.mono mup) b.1 a.1 k hk0 (by omega) hb.1 ha.1)) rfl rfl rfl rfl rfl rfl rfl rfl rfl ?_
 refine D.ae ?_
 refine D.ag (.head _) ?_
 refine D.ae ?_
 refine D.ag (.tail _ (.tail _ (.head _))) ?_
 refine D.aD (fun _=>(cR _ (hT.mono mup) c.2 a.2 k hk0 (by omega) hc.2 ha.2)) rfl rfl rfl rfl rfl rfl rfl rfl rfl ?_
 refine D.aD (fun _=>(dB _ (hT.mono mup) (b.1-a.1) (c.2-a.2) (k+k+1) (by omega) (by omega) h1 h2)) rfl rfl rfl rfl rfl rfl rfl rfl rfl ?_
 refine D.q4 1 3 4 5 7 hR ?_
 refine G.aI [0,1,2,3,4,5,6,7,8,9,10,11,12,13] [(5,1),(10,1),(11,1),(12,1)] rfl (by kernel_rfl) (fun R hB hR=>?_)
 refine D.ps 2 ?_
 refine D.ag (.tail _ (.head _)) ?_
 refine D.ae ?_
 refine D.ag (.tail _ (.tail _ (.head _))) ?_
 refine D.aD (fun _=>(cR _ (hT.mono mup) b.2 a.2 k hk0 (by omega) hb.2 ha.2)) rfl rfl rfl rfl rfl rfl rfl rfl rfl ?_
 refine D.ae ?_
 refine D.ag (.head _) ?_
 refine D.ae ?_
 refine D.ag (.tail _ (.tail _ (.head _))) ?_
 refine D.aD (fun _=>(cR _ (hT.mono mup) c.1 a.1 k hk0 (by omega) hc.1 ha.1)) rfl rfl rfl rfl rfl rfl rfl rfl rfl ?_
 refine D.aD (fun _=>(dB _ (hT.mono mup) (b.2-a.2) (c.1-a.1) (k+k+1) (by omega) (by omega) h3 h4)) rfl rfl rfl rfl rfl rfl rfl rfl rfl ?_
 refine D.aD (fun _=>(cR _ (hT.mono mup) ((b.1-a.1)*(c.2-a.2)) ((b.2-a.2)*(c.1-a.1)) (k+k+1+(k+k+1)) (by omega) (by omega) (QB_mul h1 h2) (QB_mul h3 h4))) rfl rfl rfl rfl rfl rfl rfl rfl rfl ?_
 refine D.q1 1 6 hR ?_
 refine G.rf ?_
 exact ⟨rfl,rfl⟩
theorem QB_area {a b c:Pt}{k:Nat}(ha:QP k a)(hb:QP k b)(hc:QP k c):QB (8*k+5) (bY a b c):=by
 have h:=QB_sub (QB_mul (QB_sub hb.1 ha.1) (QB_sub hc.2 ha.2)) (QB_mul (QB_sub hb.2 ha.2) (QB_sub hc.1 ha.1))
 exact h.le (by omega)
theorem turn_fn (C:Mem)(hT:Tabs C)(a b c:Pt)(k:Nat)(hk0:0<k)(hk:k<=1000)(ha:QP k a)(hb:QP k b)(hc:QP k c):Gives cx.P 127 [ptV a,ptV b,ptV c] C (.int .i64 (sgnZ (bY a b c).num)):=by
 refine Fn.it (by kernel_rfl) Tryz.func127 12 fun w0=>?_
 refine G.rg fun R hR=>?_
 refine D.aE (fun b3=>?_)
 refine D.aE (fun b4=>?_)
 refine D.aE (fun b5=>?_)
 refine D.q3 1 3 4 5 hR ?_
 refine G.rg fun R hR=>?_
 refine D.ag (.tail _ (.tail _ (.head _))) ?_
 refine D.ag (.tail _ (.head _)) ?_
 refine D.ag (.head _) ?_
 refine D.ah (area_fn _ (hT.mono mup) a b c k hk0 hk ha hb hc) ?_
 refine D.af (rsign_fn _ (bY a b c) (by have:=bA (QB_area ha hb hc) (by omega);omega)) rfl rfl rfl rfl rfl rfl rfl (fun _=>rfl) ?_
 refine D.q1 1 6 hR ?_
 refine G.rf ?_
 exact ⟨rfl,rfl⟩
theorem right_fn (C:Mem)(hT:Tabs C)(q:Rat)(hq:QB 22 q):Gives cx.P 189 [strV (qtx q)] C (.tuple #[strV (qtx q),.int .i64 0]):=by
 refine Fn.it (by kernel_rfl) Tryz.func189 8 fun w0=>?_
 refine G.z1 2 0 ?_
 refine G.rp 1 fun R hR=>?_
 refine D.af (db _ (hT.mono mup) _ (by have:=bA hq (by decide);omega)) rfl rfl rfl rfl rfl rfl rfl (fun _=>rfl) ?_
 refine D.q2 1 0 6 hR ?_
 refine G.cd (fun h6=>?_) fun h6=>?_
 ·exfalso
  rw [chk_ok hq] at h6
  exact absurd h6 (by decide)
 ·refine G.z2 3 2 3 ?_
  refine G.aA (G.dropAll (G.aP rfl rfl rfl ?_))
  exact ⟨rfl,rfl⟩

abbrev Tri:=Nat × Nat × Nat
def encT (t:Tri):List Value:=[.int .i64 (t.1:Nat),.int .i64 (t.2.1:Nat),.int .i64 (t.2.2:Nat)]
def cornV (a b c:Pt):Value:=.agg ⟨encP a++encP b++encP c⟩
theorem corners_fn (C:Mem)(v1 v2:Value)(pts:List Pt)(tris:List Tri)(i:Nat)(t:Tri)(a b c:Pt)(h1:Sl C 2 v1 (pts.map encP))(h2:Sl C 3 v2 (tris.map encT))(ht:tris[i]?=some t)(ha:pts[t.1]?=some a)(hb:pts[t.2.1]?=some b)(hc:pts[t.2.2]?=some c) :
  Gives cx.P 94 [.agg ⟨[v1,v2]⟩,.int .i64 i] C (cornV a b c):=by
 obtain ⟨A1,c1,rfl,hq1,hq2,_⟩:=id h1
 obtain ⟨A2,c2,rfl,hq3,hq4,_⟩:=id h2
 have hmx:maxLen<=9223372036854775807:=by simp [maxLen]
 simp only [List.length_map] at h1 h2 hq1 hq3 ⊢
 have hil:=(List.getElem?_eq_some_iff.1 ht).1
 have hal:=(List.getElem?_eq_some_iff.1 ha).1
 have hbl:=(List.getElem?_eq_some_iff.1 hb).1
 have hcl:=(List.getElem?_eq_some_iff.1 hc).1
 refine Fn.it (by kernel_rfl) Tryz.func94 30 fun w0=>?_
 refine G.rg fun R hR=>?_
 refine D.aE (fun b2=>?_)
 refine D.aq (fun b4=>?_)
 refine D.e3 1 2 4 hR ?_
 refine G.rp 1 fun R hR=>?_
 refine D.ag (.tail _ (.head _)) ?_
 refine D.ae ?_
 refine D.ap (h2.mono mup) rfl rfl rfl rfl rfl rfl rfl rfl rfl rfl (by omega) (by rw [List.getElem?_map,ht];rfl:(tris.map encT)[i]?=some (encT t)) (fun _=>rfl) (fun p9 hp9=>?_)
 refine D.aa hp9 ?_
 refine D.aq (fun b5=>?_)
 refine D.aj (j:=0) ?_
 refine D.e3 2 4 5 hR ?_
 refine G.aI [0,1,2,3,4,5,6,7,8,9,10,11,12,13,14,15,16,17,18,19] [] rfl (by kernel_rfl) (fun R hB hR=>?_)
 refine D.ae ?_
 refine D.ag (.tail _ (.tail _ (.head _))) ?_
 refine D.aw (0) rfl rfl rfl rfl rfl rfl rfl rfl rfl (fun _=>⟨by decide,by decide,rfl⟩) rfl rfl ?_
 refine D.ag (.head _) ?_
 refine D.ap (h1.mono mup) rfl rfl rfl rfl rfl rfl rfl rfl rfl rfl (by omega) (by rw [List.getElem?_map,ha];rfl:(pts.map encP)[t.1]?=some (encP a)) (fun _=>rfl) (fun p15 hp15=>?_)
 refine D.aa hp15 ?_
 refine D.ae ?_
 refine D.ag (.tail _ (.tail _ (.head _))) ?_
 refine D.aw (1) rfl rfl rfl rfl rfl rfl rfl rfl rfl (fun _=>⟨by decide,by decide,rfl⟩) rfl rfl ?_
 refine D.ag (.head _) ?_
 refine D.ap (h1.mono mup) rfl rfl rfl rfl rfl rfl rfl rfl rfl rfl (by omega) (by rw [List.getElem?_map,hb];rfl:(pts.map encP)[t.2.1]?=some (encP b)) (fun _=>rfl) (fun p21 hp21=>?_)
 refine D.aa hp21 ?_
 refine D.ae ?_
 refine D.ag (.tail _ (.tail _ (.head _))) ?_
 refine D.aw (2) rfl rfl rfl rfl rfl rfl rfl rfl rfl (fun _=>⟨by decide,by decide,rfl⟩) rfl rfl ?_
 refine D.ag (.head _) ?_
 refine D.ap (h1.mono mup) rfl rfl rfl rfl rfl rfl rfl rfl rfl rfl (by omega) (by rw [List.getElem?_map,hc];rfl:(pts.map encP)[t.2.2]?=some (encP c)) (fun _=>rfl) (fun p27 hp27=>?_)
 refine D.aa hp27 ?_
 refine D.ak (encP a++encP b++encP c) ?_
 refine D.aj (j:=1) ?_
 refine D.e1 4 hR ?_
 refine G.aA (G.ee (.head _) rfl rfl rfl rfl ?_)
 exact ⟨rfl,rfl⟩
theorem inside_fn (C:Mem)(hT:Tabs C)(a b c p:Pt)(k:Nat)(hk0:0<k)(hk:k<=1000)(ha:QP k a)(hb:QP k b)(hc:QP k c)(hp:QP k p) :
  Gives cx.P 93 [cornV a b c,ptV p] C (.bool (decide (0<=bY a b p) && decide (0<=bY b c p) && decide (0<=bY c a p))):=by
 refine Fn.it (by kernel_rfl) Tryz.func93 30 fun w0=>?_
 refine G.rg fun R hR=>?_
 refine D.aE (fun b2=>?_)
 refine D.aE (fun b3=>?_)
 refine D.q2 1 2 3 hR ?_
 refine G.rg fun R hR=>?_
 refine D.aw (0) rfl rfl rfl rfl rfl rfl rfl rfl rfl (fun _=>⟨by decide,by decide,rfl⟩) rfl rfl ?_
 refine D.ag (.tail _ (.head _)) ?_
 refine D.aw (2) rfl rfl rfl rfl rfl rfl rfl rfl rfl (fun _=>⟨by decide,by decide,rfl⟩) rfl rfl ?_
 refine D.ag (.tail _ (.head _)) ?_
 refine D.ag (.head _) ?_
 refine D.ah (turn_fn _ (hT.mono mup) a b p k hk0 hk ha hb hp) ?_
 refine D.ps 2 ?_
 refine D.aw (2) rfl rfl rfl rfl rfl rfl rfl rfl rfl (fun _=>⟨by decide,by decide,rfl⟩) rfl rfl ?_
 refine D.ag (.tail _ (.head _)) ?_
 refine D.aw (4) rfl rfl rfl rfl rfl rfl rfl rfl rfl (fun _=>⟨by decide,by decide,rfl⟩) rfl rfl ?_
 refine D.ag (.tail _ (.head _)) ?_
 refine D.ag (.head _) ?_
 refine D.bd (fun _=>(turn_fn _ (hT.mono mup) b c p k hk0 hk hb hc hp)) ?_
 refine D.ae ?_
 refine D.ay ?_
 refine D.ae ?_
 refine D.aw (4) rfl rfl rfl rfl rfl rfl rfl rfl rfl (fun _=>⟨by decide,by decide,rfl⟩) rfl rfl ?_
 refine D.ag (.tail _ (.head _)) ?_
 refine D.aw (0) rfl rfl rfl rfl rfl rfl rfl rfl rfl (fun _=>⟨by decide,by decide,rfl⟩) rfl rfl ?_
 refine D.ag (.tail _ (.head _)) ?_
 refine D.ag (.head _) ?_
 refine D.bd (fun _=>(turn_fn _ (hT.mono mup) c a p k hk0 hk hc ha hp)) ?_
 refine D.ae ?_
 refine D.ay ?_
 refine D.q1 1 4 hR ?_
 refine G.rf ?_
 refine ⟨?_,rfl⟩
 have hs:∀ q:Rat,decide (sgnZ q.num ≥ 0)=decide (0<=q):=fun q=>by
  rw [decide_eq_decide,<- Rat.num_nonneg]
  rcases cU q.num with h | h | h <;> omega
 rw [<- hs,<- hs,<- hs]
open Go Go.Jog Go.RowKit Go.Shelf
attribute [local go_sem] Oper.semAt_some

def sideW (zs:Nat->Int)(k:Nat):Value:=.agg #[.int .i64 (zs k),.int .i64 (zs ((k+1) % 3))]
set_option maxRecDepth 100000 in
theorem sides_in (l Bs:Nat)(zs:Nat->Int)(J:Nat->World->Prop)
  (hD:∀ k W,J k W->J k W.drew)
  (hJ:∀ k W,J k W->∀ j,j<3->W.cell? ⟨Bs,j,none⟩=some (.int .i64 (zs j)))
  (hY:∀ k W,J k W->k<3->YieldAt Fence.wide 1 Tryz.prog l #[.int .i64 (k:Nat),sideW zs k] W fun e W'=>e=.returned (.bool true)/\J (k+1) W')
  (W:World) (h0:J 0 W) :
  CallsIn Fence.wide 2 Tryz.prog 232 #[.func (.yield l) #[] #[],.pointer (some ⟨Bs,0,none⟩)] W fun e W'=>(∃ v,e=.returned v)/\J 3 W':=by
 refine callsIn_of_wp Tryz.func232 rfl trivial ?_ rfl
 simp only [Tryz.ntmps232,List.size_toArray,List.length_cons,List.length_nil,Nat.reduceAdd,Nat.reduceSub,Array.replicate_succ,Array.replicate_zero,List.push_toArray,List.append_toArray,List.nil_append,List.cons_append]
 gi_wp2
 gi_loopw [4] (fun i wr=>∃ k:Nat,k<=3/\i=.int .i64 k/\J k wr) (fun i _=>(3-intOf i).toNat)
 case atStart=>exact ⟨0,by omega,rfl,h0⟩
 case round =>
  obtain ⟨k,hk,rfl,hJs⟩:=hrel
  by_cases hlt:k<3
  ·have hJd:=hD k wr hJs
   have hcd:=hJ k _ hJd
   obtain ⟨fn,tmps,assign,body,hy,hR⟩:=hY k _ hJd hlt
   rcases (by omega:k=0∨k=1∨k=2) with rfl | rfl | rfl
   ·have hc0:=hcd 0 (by omega)
    have hc1:=hcd 1 (by omega)
    have hy2:Sem.run Tryz.prog (Instr.yield l #[Value.int .i64 0,Value.agg #[.int .i64 (zs 0),.int .i64 (zs 1)]]) wr.drew=.ok (.round l fn tmps assign body) wr.drew:=hy
    clear hy
    gi_wp2
    gi_region_with (refine hR.mono ?_;rintro e W3 ⟨rfl,hJ3⟩)
    all_goals
     gi_wp2
     go_roundw
     case rel=>exact ⟨1,by omega,rfl,hJ3⟩
     case measure=>simp [intOf]
   ·have hc0:=hcd 1 (by omega)
    have hc1:=hcd 2 (by omega)
    have hy2:Sem.run Tryz.prog (Instr.yield l #[Value.int .i64 1,Value.agg #[.int .i64 (zs 1),.int .i64 (zs 2)]]) wr.drew=.ok (.round l fn tmps assign body) wr.drew:=hy
    clear hy
    gi_wp2
    gi_region_with (refine hR.mono ?_;rintro e W3 ⟨rfl,hJ3⟩)
    all_goals
     gi_wp2
     go_roundw
     case rel=>exact ⟨2,by omega,rfl,hJ3⟩
     case measure=>simp [intOf]
   ·have hc0:=hcd 2 (by omega)
    have hc1:=hcd 0 (by omega)
    have hy2:Sem.run Tryz.prog (Instr.yield l #[Value.int .i64 2,Value.agg #[.int .i64 (zs 2),.int .i64 (zs 0)]]) wr.drew=.ok (.round l fn tmps assign body) wr.drew:=hy
    clear hy
    gi_wp2
    gi_region_with (refine hR.mono ?_;rintro e W3 ⟨rfl,hJ3⟩)
    all_goals
     gi_wp2
     go_roundw
     case rel=>exact ⟨3,by omega,rfl,hJ3⟩
     case measure=>simp [intOf]
  ·obtain rfl:k=3:=by omega
   gi_wp2
   go_end0
   exact ⟨⟨_,rfl⟩,hJs⟩

def triZ (t:Tri)(j:Nat):Int:=if j=0 then (t.1:Nat) else if j=1 then (t.2.1:Nat) else (t.2.2:Nat)
def sidesV (t:Tri):List (Value × Value):=(List.range 3).map fun k=>(.int .i64 (k:Nat),sideW (triZ t) k)
theorem sidesV_len (t:Tri):(sidesV t).length=3:=rfl
theorem sidesV_at {t:Tri}{k:Nat}(h:k<3):(sidesV t)[k]?=some (.int .i64 (k:Nat),sideW (triZ t) k):=by
 simp [sidesV,h]
theorem sides_iter (C:Mem)(b ty:Nat)(t:Tri)(hb:C b=some (.cells ⟨encT t⟩ ty (0,0))) :
  Iter Tryz.prog 232 #[.pointer (some ⟨b,0,none⟩)] C (sidesV t):=by
 intro l J W hC hD hY h0
 refine sides_in l b (triZ t) J hD (fun k W hj j hj3=>?_) (fun k W hj hk=>hY k _ W hj (sidesV_at hk)) W h0
 have h1:=hC k W hj b _ hb
 rcases (by omega:j=0∨j=1∨j=2) with rfl | rfl | rfl <;> simp [World.cell?,h1,encT,triZ]
theorem sides_fn (C:Mem)(t:Tri):Pur cx.P 213 [.agg ⟨encT t⟩] C fun r C'=>∃ b,r=.func (.func 232) #[] #[.pointer (some ⟨b,0,none⟩)]/\C' b=some (.cells ⟨encT t⟩ 121 (0,0)):=by
 refine Fn.it (by kernel_rfl) Tryz.func213 4 fun w0=>?_
 refine G.rg fun R hR=>?_
 refine D.aE (fun b1=>?_)
 refine D.q1 1 1 hR ?_
 refine G.z1 2 2 ?_
 refine G.freeze 0 rfl (fun Cf hf hb1=>?_)
 refine G.rf ?_
 exact ⟨rfl,_,rfl,hb1⟩
end Go.Proofs.YtmgkekjbbodicaaGreatDoor
namespace Go.Jog
open Go

end Go.Jog
namespace Go.Jog
open Go

end Go.Jog
namespace Go.Jog
open Go Go.MapKept

section
variable {cx:Cx} {n:Nat} {ds:List (Option Nat)} {R:Rg n ds} {its:List It} {fr:Fr} {C:Mem} {L:List Ent} {i k d:Nat} {o:Oper} {g:GL} {v:Value}
variable {kd:TypeDesc} {κ:Type} [DecidableEq κ] (K:KeyT kd κ)
theorem D.insert {t kt et j b:Nat}{x y z:Operand}{m:List (κ × Value)}{key:κ}{ti:TI}(hk:k=3)(hg:gOn ds fr o.guard=true)(hd:o.dst=none)(hop:o.op=.insert t x y z)
  (hx:ev fr [] x=some (.map (some b))) (hy:ev fr [] y=some (K.enc key)) (hz:ev fr [] z=some v) (hm:L[j]?=some (.obj b (aF K.enc m)))
  (ht:cx.T.get t=some ti) (htk:ti.k=.map kt et) (hkt:cx.P.underlying kt=some kd)
  (h:D cx R its fr C (.obj b (aF K.enc (mset m key v))::L.eraseIdx j)):D cx R ((i,k,o)::its) fr C L :=
 D.eff0 (S:=fun C' L'=>C'=C/\L'=.obj b (aF K.enc (mset m key v))::L.eraseIdx j) (by subst hk;rfl) hg (fun a hs w _ hw=>by
  have hw':=St.perm hw (a8 hm)
  have hb:w.heap[b]?=some (aF K.enc m):=hw'.sep.e _ (List.mem_cons_self ..)
  have hu:=eh cx.hT ht htk
  have hf:=dL K key m 0 0
  have h1:(getObj b).run cx.P w=.ok (.map ⟨aW K.enc m 0⟩ m.length) w:=Go.MapKept.run_getObj_map hb
  have h2:=run_findKey (P:=cx.P) (w:=w) hkt hf
  have hrun:(Instr.mapUpdate t (.map (some b)) (K.enc key) v).run cx.P w=.ok () { w with heap:=w.heap.setIfInBounds b (aF K.enc (mset m key v)) }:=by
   unfold Instr.mapUpdate
   simp only [Sem.run_bind,run_underlying hu,Result.andThen_ok,h1,run_checkKey hkt (K.isKey key)]
   rw [h2]
   cases hi:midx m key with
   | none =>
    obtain ⟨h3,h4⟩:=mapEs_none K (v:=v) (i:=0) hi
    simp only [Option.map_none,Result.andThen_ok]
    rw [Go.MapKept.run_setObj_map (P:=cx.P) _ hb]
    congr 2
    simp only [aF,h4,<- h3,Nat.zero_add]
    congr 2
    apply Array.ext'
    simp
   | some p =>
    obtain ⟨q,u⟩:=p
    obtain ⟨h3,h4,h5⟩:=mapEs_some K (v:=v) (i:=0) hi
    have hq:(((⟨aW K.enc m 0⟩:Array MapEntry)[0+q]?).map (·.key)).getD (K.enc key)=K.enc key:=by
     rw [Nat.zero_add]
     show (((aW K.enc m 0).toArray[q]?).map (·.key)).getD (K.enc key)=K.enc key
     rw [List.getElem?_toArray,h5];rfl
    simp only [Option.map_some,Result.andThen_ok,Sem.run_bind]
    rw [hq,run_keyThatStays (d:=kd) (K.isKey key)]
    simp only [Result.andThen_ok]
    rw [Go.MapKept.run_setObj_map (P:=cx.P) _ hb]
    congr 2
    simp only [aF,h4,<- h3,Nat.zero_add]
    congr 2
    apply Array.ext'
    simp
  have hex:(execOp a.eval o).run cx.P w=.ok .skip { w with heap:=w.heap.setIfInBounds b (aF K.enc (mset m key v)) }:=by
   have e1:execOp a.eval o=(do Instr.mapUpdate t (a.eval x) (a.eval y) (a.eval z);Pure.pure .skip:Sem Next):=by unfold execOp;rw [hop]
   rw [e1,hs _ _ hx,hs _ _ hy,hs _ _ hz]
   simp only [Sem.run_bind,hrun,Result.andThen_ok,Sem.run_pure]
  unfold Oper.wp
  rw [hex]
  have hset:=heap_set (o':=aF K.enc (mset m key v)) hb
  refine ⟨C,.obj b (aF K.enc (mset m key v))::L.eraseIdx j, ?_,Mem.le.refl _,fun h2=>by omega,St.put hw' hset.1 hset.2 (by simp) rfl rfl rfl (Nat.le_refl _),rfl,rfl⟩
  rw [hd];rfl)
  (fun C' L' _ ⟨e1,e2⟩=>by subst e1;subst e2;exact h)
end
end Go.Jog
namespace Go.Jog
open Go Go.MapKept

def aT (bm n:Nat)(seen:List Nat):Obj:=.mapIter (some bm) n seen.toArray n

theorem mapEs_get {κ:Type}(enc:κ->Value):∀ (m:List (κ × Value))(i j:Nat),(aW enc m i)[j]?=(m[j]?).map fun p=>⟨enc p.1,p.2,i+j⟩
 | [],i,j=>by simp [aW]
 | (k,v)::m,i,0=>by simp [aW]
 | (k,v)::m,i,j+1=>by
  simp only [aW,List.getElem?_cons_succ,mapEs_get enc m (i+1) j]
  cases m[j]? with
  | none=>rfl
  | some p=>simp;omega
theorem mapEs_mem {κ:Type}{enc:κ->Value}{m:List (κ × Value)}{e:MapEntry}(h:e∈aW enc m 0):∃ p,m[e.born]?=some p/\e.key=enc p.1/\e.val=p.2:=by
 obtain ⟨j,hj⟩:=List.getElem?_of_mem h
 rw [mapEs_get] at hj
 cases hp:m[j]? with
 | none=>rw [hp] at hj;cases hj
 | some p =>
  rw [hp] at hj
  cases hj
  exact ⟨p,by simpa using hp,rfl,rfl⟩
theorem mapEs_nodup {κ:Type}(enc:κ->Value)(m:List (κ × Value)):((aW enc m 0).map (·.born)).Nodup:=by
 have:∀ (m:List (κ × Value))(i:Nat),(aW enc m i).map (·.born)=List.range' i m.length:=by
  intro m
  induction m with
  | nil=>intro i;rfl
  | cons p m ih=>intro i;simp only [aW,List.map_cons,ih,List.length_cons,List.range'_succ]
 rw [this]
 exact List.nodup_range'

section
variable {cx:Cx} {n:Nat} {ds:List (Option Nat)} {R:Rg n ds} {its:List It} {fr:Fr} {C:Mem} {L:List Ent} {i k d:Nat} {o:Oper} {g:GL} {v:Value}
variable {kd:TypeDesc} {κ:Type} [DecidableEq κ] (K:KeyT kd κ)

theorem D.rangeMap {t kt et bm:Nat}{x:Operand}{m:List (κ × Value)}{ti:TI}(hc:C bm=some (aF K.enc m))(hk:Nat.ble k 1=false)(hd:o.dst=some d)(hg:gOn ds fr o.guard=true)(hop:o.op=.range t x)(hx:ev fr [] x=some (.map (some bm)))
  (ht:cx.T.get t=some ti) (htk:ti.k=.map kt et) (hp:∀ v,aH n ds ((d,[],v)::fr) d=true)
  (h:∀ b,D cx R its ((d,[],.pointer (some ⟨b,0,none⟩))::fr) C (.obj b (aT bm m.length [])::L)):D cx R ((i,k,o)::its) fr C L :=
 D.eF (S:=fun v C' L'=>C'=C/\∃ b,v=.pointer (some ⟨b,0,none⟩)/\L'=.obj b (aT bm m.length [])::L) hk hd hg hp (fun a hs w _ hw=>by
  have hb:w.heap[bm]?=some (aF K.enc m):=hw.sep.c _ _ hc
  have hu:=eh cx.hT ht htk
  have hex:(execOp a.eval o).run cx.P w=.ok (.value (.pointer (some ⟨w.heap.size,0,none⟩))) (w.alloc (aT bm m.length [])):=by
   have e1:execOp a.eval o=(do Pure.pure (.value (<- Instr.range t (a.eval x))):Sem Next):=by unfold execOp;rw [hop]
   rw [e1,hs _ _ hx]
   simp only [Sem.run_bind,run_range_map w t kt et bm _ _ hu hb,Result.andThen_ok,Sem.run_pure]
   rfl
  unfold Oper.wp
  rw [hex]
  exact ⟨_,C,.obj w.heap.size (aT bm m.length [])::L,rfl,Mem.le.refl _,fun _ x hx=>by simp [hx],St.alloc hw _,rfl,_,rfl,rfl⟩)
  (fun v C' L' _ ⟨e1,b,e2,e3⟩=>by subst e1;subst e2;subst e3;exact h b)

theorem mem_leftOf {κ:Type}{enc:κ->Value}{m:List (κ × Value)}{seen:List Nat}{j:Nat}{p:κ × Value}(hj:m[j]?=some p)(hs:j ∉ seen):(⟨enc p.1,p.2,j⟩:MapEntry)∈(leftOf (aW enc m 0).toArray seen.toArray).toList:=by
 unfold leftOf
 simp only [Array.toList_filter,List.mem_filter]
 refine ⟨?_, ?_⟩
 ·refine List.mem_of_getElem? (i:=j) ?_
  rw [mapEs_get,hj];simp
 ·simpa using hs

theorem D.nextMap {b q bm:Nat}{x:Operand}{m:List (κ × Value)}{seen:List Nat}(hc:C bm=some (aF K.enc m))(hk:k=3)(hd:o.dst=some d)(hg:gOn ds fr o.guard=true)(hop:o.op=.next x false)(hx:ev fr [] x=some (.pointer (some ⟨b,0,none⟩)))
  (hm:L[q]?=some (.obj b (aT bm m.length seen))) (hp:∀ v,aH n ds ((d,[],v)::fr) d=true)
  (h:∀ (go:Bool)(rest:List Value)(seen':List Nat),(go=false/\seen'=seen/\∀ j,j<m.length->j∈seen)∨(go=true/\∃ j,j<m.length/\j ∉ seen/\seen'=seen++[j]) ->
   D cx R its ((d,[],.tuple ⟨.bool go::rest⟩)::fr) C (.obj b (aT bm m.length seen')::L.eraseIdx q)):D cx R ((i,k,o)::its) fr C L :=
 D.eF (S:=fun v C' L'=>C'=C/\∃ (go:Bool)(rest:List Value)(seen':List Nat),((go=false/\seen'=seen/\∀ j,j<m.length->j∈seen)∨(go=true/\∃ j,j<m.length/\j ∉ seen/\seen'=seen++[j]))/\v=.tuple ⟨.bool go::rest⟩/\L'=.obj b (aT bm m.length seen')::L.eraseIdx q) (by subst hk;rfl) hd hg hp (fun a hs w _ hw=>by
  have hw':=St.perm hw (a8 hm)
  have hb:w.heap[b]?=some (aT bm m.length seen):=hw'.sep.e _ (List.mem_cons_self ..)
  have hbm:w.heap[bm]?=some (aF K.enc m):=hw.sep.c _ _ hc
  have e1:execOp a.eval o=(do Pure.pure (.value (<- Instr.next (a.eval x) false 0)):Sem Next):=by unfold execOp;rw [hop];rfl
  have hold:∀ x∈(aW K.enc m 0).toArray.toList,x.born<m.length:=fun x hx=>by
   obtain ⟨p,h1,_⟩:=mapEs_mem (show x∈aW K.enc m 0 by simpa using hx)
   exact (List.getElem?_eq_some_iff.1 h1).1
  have hg1:∀ w:World,w.heap[b]?=some (aT bm m.length seen)->(getObj b).run cx.P w=.ok (aT bm m.length seen) w:=fun w h=>by
   simp only [getObj,Sem.run,h,aT]
  have hrun:(∀ j,j<m.length->j∈seen)/\(Instr.next (.pointer (some ⟨b,0,none⟩)) false 0).run cx.P w=.ok (.tuple #[.bool false]) w ∨
    ∃ (j:Nat)(p:κ × Value)(w1:World),m[j]?=some p/\j ∉ seen/\w1.heap=w.heap/\w1.os=w.os/\w1.tape=w.tape/\w1.output=w.output/\w.drawn<=w1.drawn /\
     (Instr.next (.pointer (some ⟨b,0,none⟩)) false 0).run cx.P w=.ok (.tuple #[.bool true,K.enc p.1,p.2]) { w1 with heap:=w1.heap.setIfInBounds b (aT bm m.length (seen++[j])) }:=by
   have hnx:(Instr.next (.pointer (some ⟨b,0,none⟩)) false 0).run cx.P w=(do
     let candidates:=(if (leftOf (aW K.enc m 0).toArray seen.toArray).isEmpty then #[none] else #[])++(leftOf (aW K.enc m 0).toArray seen.toArray).map some
     match candidates[<- choose (.mapNext candidates.size)]? with
     | some (some e) =>
      setObj b (.mapIter (some bm) m.length (seen.toArray.push e.born) m.length)
      Pure.pure (Value.tuple #[.bool true,e.key,e.val])
     | some none=>Pure.pure (Value.tuple #[.bool false])
     | none => stuck "Next: no such candidate" : Sem Value).run cx.P w := by
    have hmem:∀ x∈(leftOf (aW K.enc m 0).toArray seen.toArray).toList,x.born<m.length:=fun x hx=>hold x (mem_left hx).1
    have f1:(leftOf (aW K.enc m 0).toArray seen.toArray).filter (fun x=>decide (x.born<m.length))=leftOf (aW K.enc m 0).toArray seen.toArray:=Array.filter_eq_self.2 (fun x hx=>by simpa using hmem x (by simpa using hx))
    have f2:(leftOf (aW K.enc m 0).toArray seen.toArray).filter (fun x=>decide (x.born ≥ m.length))=#[]:=by
     rw [Array.filter_eq_empty_iff]
     intro x hx
     have:=hmem x (by simpa using hx)
     simp;omega
    unfold Instr.next
    simp only [Sem.run_bind,hg1 w hb,Result.andThen_ok,aT]
    have hg2:(getObj bm).run cx.P w=.ok (.map (aW K.enc m 0).toArray m.length) w:=Go.MapKept.run_getObj_map hbm
    simp only [Sem.run_bind,hg2,Result.andThen_ok,next_test_false seen.toArray (aW K.enc m 0).toArray m.length m.length hold (Nat.le_refl _),Bool.false_eq_true,if_false]
    unfold leftOf at f1 f2 ⊢
    simp only [f1,f2,Array.append_empty]
    refine congrArg _ (funext fun a=>funext fun w'=>?_)
    congr 1
   rw [hnx]
   have hcorr:∀ e∈(leftOf (aW K.enc m 0).toArray seen.toArray).toList,∃ p,m[e.born]?=some p/\e.born ∉ seen/\e.key=K.enc p.1/\e.val=p.2:=fun e he=>by
    obtain ⟨h1,h2⟩:=mem_left he
    obtain ⟨p,h3,h4,h5⟩:=mapEs_mem (show e∈aW K.enc m 0 by simpa using h1)
    exact ⟨p,h3,by simpa using h2,h4,h5⟩
   have hall:(leftOf (aW K.enc m 0).toArray seen.toArray)=#[]->∀ j,j<m.length->j∈seen:=fun he j hj=>by
    by_cases hs:j∈seen
    ·exact hs
    ·have:=mem_leftOf (enc:=K.enc) (List.getElem?_eq_getElem hj) hs
     rw [he] at this;cases this
   generalize leftOf (aW K.enc m 0).toArray seen.toArray=F at hcorr hall ⊢
   by_cases h0:F.size=0
   ·have:F=#[]:=Array.eq_empty_of_size_eq_zero h0
    subst this
    left
    refine ⟨hall rfl, ?_⟩
    simp [choose,Sem.run,Question.forced]
   ·right
    have hne:F.isEmpty=false:=by simp [Array.isEmpty,h0]
    simp only [hne,Bool.false_eq_true,if_false,Array.empty_append,Array.size_map]
    have hch:∃ (j:Nat)(w1:World),j<F.size/\w1.heap=w.heap/\w1.os=w.os/\w1.tape=w.tape/\w1.output=w.output/\w.drawn<=w1.drawn/\(choose (Question.mapNext F.size)).run cx.P w=.ok j w1:=by
     by_cases hf:F.size<=1
     ·exact ⟨0,w,by omega,rfl,rfl,rfl,rfl,Nat.le_refl _,by simp [choose,Sem.run,Question.forced,hf]⟩
     ·exact ⟨_,w.drew,Nat.mod_lt _ (by omega),rfl,rfl,rfl,rfl,Nat.le_succ _,by
       simp only [choose,Sem.run,Question.forced,decide_eq_true_eq,hf,if_false,Question.cut]
       rfl⟩
    obtain ⟨j,w1,hj,hh,ho,htp,hou,hdr,hrun⟩:=hch
    obtain ⟨p,h1,h2,h3,h4⟩:=hcorr F[j] (by simp)
    refine ⟨F[j].born,p,w1,h1,h2,hh,ho,htp,hou,hdr, ?_⟩
    have hset:(setObj b (.mapIter (some bm) m.length (seen.toArray.push F[j].born) m.length)).run cx.P w1=.ok () { w1 with heap:=w1.heap.setIfInBounds b (aT bm m.length (seen++[F[j].born])) }:=by
     have hb1:w1.heap[b]?=some (aT bm m.length seen):=by rw [hh];exact hb
     simp only [setObj,Sem.run,hb1,aT]
     simp
    simp only [hrun,Array.getElem?_map,Array.getElem?_eq_getElem hj,Option.map_some,Sem.run_bind,Result.andThen_ok,hset,Sem.run_pure,h3,h4]
  rw [show a.eval x=.pointer (some ⟨b,0,none⟩) from hs _ _ hx] at e1
  unfold Oper.wp
  rw [e1]
  rcases hrun with ⟨h1,hr⟩ | ⟨j,p,w1,h1,h2,hh,ho,htp,hou,hdr,hr⟩
  ·simp only [Sem.run_bind,hr,Result.andThen_ok,Sem.run_pure]
   exact ⟨_,C,.obj b (aT bm m.length seen)::L.eraseIdx q,rfl,Mem.le.refl _,fun h2=>by omega,hw',rfl,false,[],seen,.inl ⟨rfl,rfl,h1⟩,rfl,rfl⟩
  ·simp only [Sem.run_bind,hr,Result.andThen_ok,Sem.run_pure]
   have hw1:=hw'.same (w':=w1) ho htp hou hh hdr
   have hset:=heap_set (o':=aT bm m.length (seen++[j])) (show w1.heap[b]?=_ from by rw [hh];exact hb)
   exact ⟨_,C,.obj b (aT bm m.length (seen++[j]))::L.eraseIdx q,rfl,Mem.le.refl _,fun h2=>by omega,St.put hw1 hset.1 hset.2 (by simp) rfl rfl rfl (Nat.le_refl _),rfl,true,[K.enc p.1,p.2],_,
    .inr ⟨rfl,j,(List.getElem?_eq_some_iff.1 h1).1,h2,rfl⟩,rfl,rfl⟩)
  (fun v C' L' _ ⟨e1,go,rest,seen',h1,e2,e3⟩=>by subst e1;subst e2;subst e3;exact h go rest seen' h1)

theorem D.entryMap {b bm j:Nat}{x:Operand}{m:List (κ × Value)}{seen:List Nat}{p:κ × Value}(hc:C bm=some (aF K.enc m))(hj:m[j]?=some p)(hm:Ent.obj b (aT bm m.length (seen++[j]))∈L)(hk:k=1)(hd:o.dst=some d)(hop:o.op=.entry x)(hg:gOf ds fr o.guard=some g)(hx:ev fr g x=some (.pointer (some ⟨b,0,none⟩)))
  (hp:aH n ds ((d,g,.tuple #[K.enc p.1,p.2])::fr) d=true) (hwf:wfG ds fr g=true)
  (h:D cx R its ((d,g,.tuple #[K.enc p.1,p.2])::fr) C L):D cx R ((i,k,o)::its) fr C L :=
 D.det (by subst hk;rfl) hd hg hp hwf (fun _ a hs κ' hκ w hw=>by
  have hb:w.heap[b]?=some (aT bm m.length (seen++[j])):=hw.sep.e _ ((hκ hk).2 _ hm)
  have hbm:w.heap[bm]?=some (aF K.enc m):=hw.sep.c _ _ ((hκ hk).1 _ _ hc)
  have hf:(aW K.enc m 0).toArray.find? (·.born == j)=some ⟨K.enc p.1,p.2,j⟩:=by
   rw [<- Array.find?_toList]
   refine find_born ⟨K.enc p.1,p.2,j⟩ _ (by simpa using mapEs_nodup K.enc m) ?_
   refine List.mem_of_getElem? (i:=j) ?_
   simp [mapEs_get,hj]
  have hrun:(Instr.entry (.pointer (some ⟨b,0,none⟩))).run cx.P w=.ok (.tuple #[K.enc p.1,p.2]) w:=by
   have hg2:(getObj bm).run cx.P w=.ok (.map (aW K.enc m 0).toArray m.length) w:=Go.MapKept.run_getObj_map hbm
   have hg1:(getObj b).run cx.P w=.ok (aT bm m.length (seen++[j])) w:=by simp only [getObj,Sem.run,hb,aT]
   unfold Instr.entry
   simp only [Sem.run_bind,hg1,Result.andThen_ok,aT]
   have hbk:(seen++[j]).toArray.back?=some j:=by simp
   simp only [hbk,hg2,Sem.run_bind,Result.andThen_ok,bne_self_eq_false,Bool.false_eq_true,if_false,hf,Sem.run_pure]
  have hex:(execOp a.eval o).run cx.P w=.ok (.value (.tuple #[K.enc p.1,p.2])) w:=by
   have e1:execOp a.eval o=(do Pure.pure (.value (<- Instr.entry (a.eval x))):Sem Next):=by unfold execOp;rw [hop]
   rw [e1,hs _ _ hx]
   simp only [Sem.run_bind,hrun,Result.andThen_ok,Sem.run_pure]
  unfold Oper.quietAt
  rw [hex]
  exact ⟨rfl,rfl⟩) h
end
end Go.Jog
namespace Go.Jog
open Go Go.MapKept

structure KeyP (P:Program)(kt:TypeId)(κ:Type)[DecidableEq κ] where
 enc:κ->Value
 check:∀ a em w,(Instr.checkKey em 10000 kt (enc a)).run P w=.ok () w
 ask:∀ x es w,(Instr.findKey kt x es).run P w=(Instr.findAsking kt x es).run P w
 same:∀ a b w,(Op.equal kt (enc a) (enc b)).run P w=.ok (decide (a=b)) w
 stays:∀ a w,(Instr.keyThatStays (enc a) (enc a)).run P w=.ok (enc a) w
section
variable {κ:Type} [DecidableEq κ] {enc:κ->Value}
theorem mapEs_noneP {k:κ}{v:Value}:∀ {m:List (κ × Value)}{i:Nat},midx m k=none->aW enc m i++[⟨enc k,v,i+m.length⟩]=aW enc (mset m k v) i/\(mset m k v).length=m.length+1
 | [],i,_=>⟨rfl,rfl⟩
 | (k',v')::m,i,h=>by
  simp only [midx] at h
  split at h
  ·cases h
  ·rename_i hne
   have h':midx m k=none:=by
    cases hx:midx m k with
    | none=>rfl
    | some p=>rw [hx] at h;cases h
   obtain ⟨h1,h2⟩:=mapEs_noneP (i:=i+1) (v:=v) h'
   simp only [mset,if_neg hne,aW,List.cons_append,List.length_cons,h2]
   refine ⟨?_,trivial⟩
   rw [<- h1]
   congr 3
   congr 1
   omega
theorem mapEs_someP {k:κ}{v:Value}:∀ {m:List (κ × Value)}{i q:Nat}{u:Value},midx m k=some (q,u)->(aW enc m i).modify q (fun e=>{ e with key:=enc k,val:=v })=aW enc (mset m k v) i/\(mset m k v).length=m.length/\((aW enc m i)[q]?).map (·.key)=some (enc k)
 | [],_,_,_,h=>by cases h
 | (k',v')::m,i,q,u,h=>by
  simp only [midx] at h
  split at h
  ·rename_i e
   subst e
   cases h
   simp [aW,mset]
  ·rename_i hne
   cases hx:midx m k with
   | none=>rw [hx] at h;cases h
   | some p =>
    obtain ⟨q',u'⟩:=p
    rw [hx] at h
    cases h
    obtain ⟨h1,h2,h3⟩:=mapEs_someP (i:=i+1) (v:=v) hx
    simp only [mset,if_neg hne,aW,List.length_cons,h2,List.modify_succ_cons,h1]
    exact ⟨trivial,trivial,by simpa using h3⟩
end
section
variable {P:Program} {kt:TypeId} {κ:Type} [DecidableEq κ] (K:KeyP P kt κ)
theorem run_askP (k:κ)(w:World):∀ (m:List (κ × Value))(i j:Nat),(Instr.findAsking kt (K.enc k) (aW K.enc m i) j).run P w=.ok ((midx m k).map fun p=>(j+p.1,p.2)) w
 | [],i,j=>rfl
 | (k',v)::m,i,j=>by
  simp only [aW,Instr.findAsking,Sem.run_bind,K.same,Result.andThen_ok]
  by_cases h:k=k'
  ·subst h
   simp [midx]
  ·have h':¬ k'=k:=fun e=>h e.symm
   simp only [h,decide_false,run_askP k w m (i+1) (j+1),midx,if_neg h',Bool.false_eq_true,if_false]
   cases midx m k with
   | none=>rfl
   | some p=>simp;omega
theorem run_findP (k:κ)(m:List (κ × Value))(i:Nat)(w:World):(Instr.findKey kt (K.enc k) (aW K.enc m i)).run P w=.ok (midx m k) w:=by
 rw [K.ask,run_askP K k w m i 0]
 cases midx m k <;> simp
theorem run_lookupP {T:Tab}(hT:tabB P T=true){t et:Nat}{ti te:TI}{ok:Bool}(ht:T.get t=some ti)(htk:ti.k=.map kt et)(hte:T.get et=some te){w:World}{b:Nat}{m:List (κ × Value)}(hb:w.heap[b]?=some (aF K.enc m))(y:κ) :
  (Instr.lookup t (.map (some b)) (K.enc y) ok).run P w=.ok (lookV te.zv ok (mget m y)) w:=by
 have hu:=eh hT ht htk
 have h1:(getObj b).run P w=.ok (.map ⟨aW K.enc m 0⟩ m.length) w:=Go.MapKept.run_getObj_map hb
 have h2:=run_findP K y m 0 w
 rw [<- midx_mget]
 unfold Instr.lookup
 simp only [Sem.run_bind,run_underlying hu,Result.andThen_ok,h1,Sem.run_pure,K.check]
 rw [h2]
 cases midx m y with
 | none=>cases ok <;> simp [lookV,zero_of hT hte w]
 | some p=>cases ok <;> simp [lookV]
end
section
variable {cx:Cx} {n:Nat} {ds:List (Option Nat)} {R:Rg n ds} {its:List It} {fr:Fr} {C:Mem} {L:List Ent} {i k d:Nat} {o:Oper} {g:GL} {v:Value}
variable {κ:Type} [DecidableEq κ]
theorem D.lookupLP {b t kt et:Nat}(K:KeyP cx.P kt κ){x y:Operand}{ok:Bool}{m:List (κ × Value)}{key:κ}{ti te:TI}(hm:Ent.obj b (aF K.enc m)∈L)(hk:k=1)(hd:o.dst=some d)(hop:o.op=.lookup t x y ok)(hg:gOf ds fr o.guard=some g)(hx:ev fr g x=some (.map (some b)))(hy:ev fr g y=some (K.enc key))
  (ht:cx.T.get t=some ti) (htk:ti.k=.map kt et) (hte:cx.T.get et=some te) (hv:lookV te.zv ok (mget m key)=v) (hp:aH n ds ((d,g,v)::fr) d=true) (hwf:wfG ds fr g=true)
  (h:D cx R its ((d,g,v)::fr) C L):D cx R ((i,k,o)::its) fr C L :=
 D.det (by subst hk;rfl) hd hg hp hwf (fun _ a hs κ' hκ w hw=>by
  have hb:w.heap[b]?=some (aF K.enc m):=hw.sep.e _ ((hκ hk).2 _ hm)
  have hex:(execOp a.eval o).run cx.P w=.ok (.value v) w:=by
   have e1:execOp a.eval o=(do Pure.pure (.value (<- Instr.lookup t (a.eval x) (a.eval y) ok)):Sem Next):=by unfold execOp;rw [hop]
   rw [e1,hs _ _ hx,hs _ _ hy,<- hv]
   simp only [Sem.run_bind,run_lookupP K cx.hT ht htk hte hb key,Result.andThen_ok,Sem.run_pure]
  unfold Oper.quietAt
  rw [hex]
  exact ⟨rfl,rfl⟩) h

theorem D.lookupCP {b t kt et:Nat}(K:KeyP cx.P kt κ){x y:Operand}{ok:Bool}{m:List (κ × Value)}{key:κ}{ti te:TI}(hm:GT ds fr g->C b=some (aF K.enc m))(hk:k=1)(hd:o.dst=some d)(hop:o.op=.lookup t x y ok)(hg:gOf ds fr o.guard=some g)(hx:ev fr g x=some (.map (some b)))(hy:ev fr g y=some (K.enc key))
  (ht:cx.T.get t=some ti) (htk:ti.k=.map kt et) (hte:cx.T.get et=some te) (hv:lookV te.zv ok (mget m key)=v) (hp:aH n ds ((d,g,v)::fr) d=true) (hwf:wfG ds fr g=true)
  (h:D cx R its ((d,g,v)::fr) C L):D cx R ((i,k,o)::its) fr C L :=
 D.det (by subst hk;rfl) hd hg hp hwf (fun hGT a hs κ' hκ w hw=>by
  have hb:w.heap[b]?=some (aF K.enc m):=hw.sep.c _ _ ((hκ hk).1 _ _ (hm hGT))
  have hex:(execOp a.eval o).run cx.P w=.ok (.value v) w:=by
   have e1:execOp a.eval o=(do Pure.pure (.value (<- Instr.lookup t (a.eval x) (a.eval y) ok)):Sem Next):=by unfold execOp;rw [hop]
   rw [e1,hs _ _ hx,hs _ _ hy,<- hv]
   simp only [Sem.run_bind,run_lookupP K cx.hT ht htk hte hb key,Result.andThen_ok,Sem.run_pure]
  unfold Oper.quietAt
  rw [hex]
  exact ⟨rfl,rfl⟩) h

theorem D.fP {t kt et j b:Nat}(K:KeyP cx.P kt κ){x y z:Operand}{m:List (κ × Value)}{key:κ}{ti:TI}(hk:k=3)(hg:gOn ds fr o.guard=true)(hd:o.dst=none)(hop:o.op=.mapUpdate t x y z)
  (hx:ev fr [] x=some (.map (some b))) (hy:ev fr [] y=some (K.enc key)) (hz:ev fr [] z=some v) (hm:L[j]?=some (.obj b (aF K.enc m)))
  (ht:cx.T.get t=some ti) (htk:ti.k=.map kt et)
  (h:D cx R its fr C (.obj b (aF K.enc (mset m key v))::L.eraseIdx j)):D cx R ((i,k,o)::its) fr C L :=
 D.eff0 (S:=fun C' L'=>C'=C/\L'=.obj b (aF K.enc (mset m key v))::L.eraseIdx j) (by subst hk;rfl) hg (fun a hs w _ hw=>by
  have hw':=St.perm hw (a8 hm)
  have hb:w.heap[b]?=some (aF K.enc m):=hw'.sep.e _ (List.mem_cons_self ..)
  have hu:=eh cx.hT ht htk
  have h1:(getObj b).run cx.P w=.ok (.map ⟨aW K.enc m 0⟩ m.length) w:=Go.MapKept.run_getObj_map hb
  have h2:=run_findP K key m 0 w
  have hrun:(Instr.mapUpdate t (.map (some b)) (K.enc key) v).run cx.P w=.ok () { w with heap:=w.heap.setIfInBounds b (aF K.enc (mset m key v)) }:=by
   unfold Instr.mapUpdate
   simp only [Sem.run_bind,run_underlying hu,Result.andThen_ok,h1,K.check]
   rw [h2]
   cases hi:midx m key with
   | none =>
    obtain ⟨h3,h4⟩:=mapEs_noneP (enc:=K.enc) (v:=v) (i:=0) hi
    simp only [Result.andThen_ok]
    rw [Go.MapKept.run_setObj_map (P:=cx.P) _ hb]
    congr 2
    simp only [aF,h4,<- h3,Nat.zero_add]
    congr 2
    apply Array.ext'
    simp
   | some p =>
    obtain ⟨q,u⟩:=p
    obtain ⟨h3,h4,h5⟩:=mapEs_someP (enc:=K.enc) (v:=v) (i:=0) hi
    have hq:(((⟨aW K.enc m 0⟩:Array MapEntry)[q]?).map (·.key)).getD (K.enc key)=K.enc key:=by
     show (((aW K.enc m 0).toArray[q]?).map (·.key)).getD (K.enc key)=K.enc key
     rw [List.getElem?_toArray,h5];rfl
    simp only [Result.andThen_ok,Sem.run_bind]
    rw [hq,K.stays]
    simp only [Result.andThen_ok]
    rw [Go.MapKept.run_setObj_map (P:=cx.P) _ hb]
    congr 2
    simp only [aF,h4,<- h3]
    congr 2
    apply Array.ext'
    simp
  have hex:(execOp a.eval o).run cx.P w=.ok .skip { w with heap:=w.heap.setIfInBounds b (aF K.enc (mset m key v)) }:=by
   have e1:execOp a.eval o=(do Instr.mapUpdate t (a.eval x) (a.eval y) (a.eval z);Pure.pure .skip:Sem Next):=by unfold execOp;rw [hop]
   rw [e1,hs _ _ hx,hs _ _ hy,hs _ _ hz]
   simp only [Sem.run_bind,hrun,Result.andThen_ok,Sem.run_pure]
  unfold Oper.wp
  rw [hex]
  have hset:=heap_set (o':=aF K.enc (mset m key v)) hb
  refine ⟨C,.obj b (aF K.enc (mset m key v))::L.eraseIdx j, ?_,Mem.le.refl _,fun h2=>by omega,St.put hw' hset.1 hset.2 (by simp) rfl rfl rfl (Nat.le_refl _),rfl,rfl⟩
  rw [hd];rfl)
  (fun C' L' _ ⟨e1,e2⟩=>by subst e1;subst e2;exact h)
end
end Go.Jog
namespace Go.Jog
open Go Go.MapKept

section
variable {cx:Cx} {n:Nat} {ds:List (Option Nat)} {R:Rg n ds} {its:List It} {fr:Fr} {C:Mem} {L:List Ent} {i k d:Nat} {o:Oper} {g:GL} {v:Value}
variable {κ:Type} (enc:κ->Value)

theorem D.rangeMapE {t kt et bm:Nat}{x:Operand}{m:List (κ × Value)}{ti:TI}(hc:C bm=some (aF enc m))(hk:Nat.ble k 1=false)(hd:o.dst=some d)(hg:gOn ds fr o.guard=true)(hop:o.op=.range t x)(hx:ev fr [] x=some (.map (some bm)))
  (ht:cx.T.get t=some ti) (htk:ti.k=.map kt et) (hp:∀ v,aH n ds ((d,[],v)::fr) d=true)
  (h:∀ b,D cx R its ((d,[],.pointer (some ⟨b,0,none⟩))::fr) C (.obj b (aT bm m.length [])::L)):D cx R ((i,k,o)::its) fr C L :=
 D.eF (S:=fun v C' L'=>C'=C/\∃ b,v=.pointer (some ⟨b,0,none⟩)/\L'=.obj b (aT bm m.length [])::L) hk hd hg hp (fun a hs w _ hw=>by
  have hb:w.heap[bm]?=some (aF enc m):=hw.sep.c _ _ hc
  have hu:=eh cx.hT ht htk
  have hex:(execOp a.eval o).run cx.P w=.ok (.value (.pointer (some ⟨w.heap.size,0,none⟩))) (w.alloc (aT bm m.length [])):=by
   have e1:execOp a.eval o=(do Pure.pure (.value (<- Instr.range t (a.eval x))):Sem Next):=by unfold execOp;rw [hop]
   rw [e1,hs _ _ hx]
   simp only [Sem.run_bind,run_range_map w t kt et bm _ _ hu hb,Result.andThen_ok,Sem.run_pure]
   rfl
  unfold Oper.wp
  rw [hex]
  exact ⟨_,C,.obj w.heap.size (aT bm m.length [])::L,rfl,Mem.le.refl _,fun _ x hx=>by simp [hx],St.alloc hw _,rfl,_,rfl,rfl⟩)
  (fun v C' L' _ ⟨e1,b,e2,e3⟩=>by subst e1;subst e2;subst e3;exact h b)

theorem D.nextMapE {b q bm:Nat}{x:Operand}{m:List (κ × Value)}{seen:List Nat}(hc:C bm=some (aF enc m))(hk:k=3)(hd:o.dst=some d)(hg:gOn ds fr o.guard=true)(hop:o.op=.next x false)(hx:ev fr [] x=some (.pointer (some ⟨b,0,none⟩)))
  (hm:L[q]?=some (.obj b (aT bm m.length seen))) (hp:∀ v,aH n ds ((d,[],v)::fr) d=true)
  (h:∀ (go:Bool)(rest:List Value)(seen':List Nat),(go=false/\seen'=seen/\∀ j,j<m.length->j∈seen)∨(go=true/\∃ j,j<m.length/\j ∉ seen/\seen'=seen++[j]) ->
   D cx R its ((d,[],.tuple ⟨.bool go::rest⟩)::fr) C (.obj b (aT bm m.length seen')::L.eraseIdx q)):D cx R ((i,k,o)::its) fr C L :=
 D.eF (S:=fun v C' L'=>C'=C/\∃ (go:Bool)(rest:List Value)(seen':List Nat),((go=false/\seen'=seen/\∀ j,j<m.length->j∈seen)∨(go=true/\∃ j,j<m.length/\j ∉ seen/\seen'=seen++[j]))/\v=.tuple ⟨.bool go::rest⟩/\L'=.obj b (aT bm m.length seen')::L.eraseIdx q) (by subst hk;rfl) hd hg hp (fun a hs w _ hw=>by
  have hw':=St.perm hw (a8 hm)
  have hb:w.heap[b]?=some (aT bm m.length seen):=hw'.sep.e _ (List.mem_cons_self ..)
  have hbm:w.heap[bm]?=some (aF enc m):=hw.sep.c _ _ hc
  have e1:execOp a.eval o=(do Pure.pure (.value (<- Instr.next (a.eval x) false 0)):Sem Next):=by unfold execOp;rw [hop];rfl
  have hold:∀ x∈(aW enc m 0).toArray.toList,x.born<m.length:=fun x hx=>by
   obtain ⟨p,h1,_⟩:=mapEs_mem (show x∈aW enc m 0 by simpa using hx)
   exact (List.getElem?_eq_some_iff.1 h1).1
  have hg1:∀ w:World,w.heap[b]?=some (aT bm m.length seen)->(getObj b).run cx.P w=.ok (aT bm m.length seen) w:=fun w h=>by
   simp only [getObj,Sem.run,h,aT]
  have hrun:(∀ j,j<m.length->j∈seen)/\(Instr.next (.pointer (some ⟨b,0,none⟩)) false 0).run cx.P w=.ok (.tuple #[.bool false]) w ∨
    ∃ (j:Nat)(p:κ × Value)(w1:World),m[j]?=some p/\j ∉ seen/\w1.heap=w.heap/\w1.os=w.os/\w1.tape=w.tape/\w1.output=w.output/\w.drawn<=w1.drawn /\
     (Instr.next (.pointer (some ⟨b,0,none⟩)) false 0).run cx.P w=.ok (.tuple #[.bool true,enc p.1,p.2]) { w1 with heap:=w1.heap.setIfInBounds b (aT bm m.length (seen++[j])) }:=by
   have hnx:(Instr.next (.pointer (some ⟨b,0,none⟩)) false 0).run cx.P w=(do
     let candidates:=(if (leftOf (aW enc m 0).toArray seen.toArray).isEmpty then #[none] else #[])++(leftOf (aW enc m 0).toArray seen.toArray).map some
     match candidates[<- choose (.mapNext candidates.size)]? with
     | some (some e) =>
      setObj b (.mapIter (some bm) m.length (seen.toArray.push e.born) m.length)
      Pure.pure (Value.tuple #[.bool true,e.key,e.val])
     | some none=>Pure.pure (Value.tuple #[.bool false])
     | none => stuck "Next: no such candidate" : Sem Value).run cx.P w := by
    have hmem:∀ x∈(leftOf (aW enc m 0).toArray seen.toArray).toList,x.born<m.length:=fun x hx=>hold x (mem_left hx).1
    have f1:(leftOf (aW enc m 0).toArray seen.toArray).filter (fun x=>decide (x.born<m.length))=leftOf (aW enc m 0).toArray seen.toArray:=Array.filter_eq_self.2 (fun x hx=>by simpa using hmem x (by simpa using hx))
    have f2:(leftOf (aW enc m 0).toArray seen.toArray).filter (fun x=>decide (x.born ≥ m.length))=#[]:=by
     rw [Array.filter_eq_empty_iff]
     intro x hx
     have:=hmem x (by simpa using hx)
     simp;omega
    unfold Instr.next
    simp only [Sem.run_bind,hg1 w hb,Result.andThen_ok,aT]
    have hg2:(getObj bm).run cx.P w=.ok (.map (aW enc m 0).toArray m.length) w:=Go.MapKept.run_getObj_map hbm
    simp only [Sem.run_bind,hg2,Result.andThen_ok,next_test_false seen.toArray (aW enc m 0).toArray m.length m.length hold (Nat.le_refl _),Bool.false_eq_true,if_false]
    unfold leftOf at f1 f2 ⊢
    simp only [f1,f2,Array.append_empty]
    refine congrArg _ (funext fun a=>funext fun w'=>?_)
    congr 1
   rw [hnx]
   have hcorr:∀ e∈(leftOf (aW enc m 0).toArray seen.toArray).toList,∃ p,m[e.born]?=some p/\e.born ∉ seen/\e.key=enc p.1/\e.val=p.2:=fun e he=>by
    obtain ⟨h1,h2⟩:=mem_left he
    obtain ⟨p,h3,h4,h5⟩:=mapEs_mem (show e∈aW enc m 0 by simpa using h1)
    exact ⟨p,h3,by simpa using h2,h4,h5⟩
   have hall:(leftOf (aW enc m 0).toArray seen.toArray)=#[]->∀ j,j<m.length->j∈seen:=fun he j hj=>by
    by_cases hs:j∈seen
    ·exact hs
    ·have:=mem_leftOf (enc:=enc) (List.getElem?_eq_getElem hj) hs
     rw [he] at this;cases this
   generalize leftOf (aW enc m 0).toArray seen.toArray=F at hcorr hall ⊢
   by_cases h0:F.size=0
   ·have:F=#[]:=Array.eq_empty_of_size_eq_zero h0
    subst this
    left
    refine ⟨hall rfl, ?_⟩
    simp [choose,Sem.run,Question.forced]
   ·right
    have hne:F.isEmpty=false:=by simp [Array.isEmpty,h0]
    simp only [hne,Bool.false_eq_true,if_false,Array.empty_append,Array.size_map]
    have hch:∃ (j:Nat)(w1:World),j<F.size/\w1.heap=w.heap/\w1.os=w.os/\w1.tape=w.tape/\w1.output=w.output/\w.drawn<=w1.drawn/\(choose (Question.mapNext F.size)).run cx.P w=.ok j w1:=by
     by_cases hf:F.size<=1
     ·exact ⟨0,w,by omega,rfl,rfl,rfl,rfl,Nat.le_refl _,by simp [choose,Sem.run,Question.forced,hf]⟩
     ·exact ⟨_,w.drew,Nat.mod_lt _ (by omega),rfl,rfl,rfl,rfl,Nat.le_succ _,by
       simp only [choose,Sem.run,Question.forced,decide_eq_true_eq,hf,if_false,Question.cut]
       rfl⟩
    obtain ⟨j,w1,hj,hh,ho,htp,hou,hdr,hrun⟩:=hch
    obtain ⟨p,h1,h2,h3,h4⟩:=hcorr F[j] (by simp)
    refine ⟨F[j].born,p,w1,h1,h2,hh,ho,htp,hou,hdr, ?_⟩
    have hset:(setObj b (.mapIter (some bm) m.length (seen.toArray.push F[j].born) m.length)).run cx.P w1=.ok () { w1 with heap:=w1.heap.setIfInBounds b (aT bm m.length (seen++[F[j].born])) }:=by
     have hb1:w1.heap[b]?=some (aT bm m.length seen):=by rw [hh];exact hb
     simp only [setObj,Sem.run,hb1,aT]
     simp
    simp only [hrun,Array.getElem?_map,Array.getElem?_eq_getElem hj,Option.map_some,Sem.run_bind,Result.andThen_ok,hset,Sem.run_pure,h3,h4]
  rw [show a.eval x=.pointer (some ⟨b,0,none⟩) from hs _ _ hx] at e1
  unfold Oper.wp
  rw [e1]
  rcases hrun with ⟨h1,hr⟩ | ⟨j,p,w1,h1,h2,hh,ho,htp,hou,hdr,hr⟩
  ·simp only [Sem.run_bind,hr,Result.andThen_ok,Sem.run_pure]
   exact ⟨_,C,.obj b (aT bm m.length seen)::L.eraseIdx q,rfl,Mem.le.refl _,fun h2=>by omega,hw',rfl,false,[],seen,.inl ⟨rfl,rfl,h1⟩,rfl,rfl⟩
  ·simp only [Sem.run_bind,hr,Result.andThen_ok,Sem.run_pure]
   have hw1:=hw'.same (w':=w1) ho htp hou hh hdr
   have hset:=heap_set (o':=aT bm m.length (seen++[j])) (show w1.heap[b]?=_ from by rw [hh];exact hb)
   exact ⟨_,C,.obj b (aT bm m.length (seen++[j]))::L.eraseIdx q,rfl,Mem.le.refl _,fun h2=>by omega,St.put hw1 hset.1 hset.2 (by simp) rfl rfl rfl (Nat.le_refl _),rfl,true,[enc p.1,p.2],_,
    .inr ⟨rfl,j,(List.getElem?_eq_some_iff.1 h1).1,h2,rfl⟩,rfl,rfl⟩)
  (fun v C' L' _ ⟨e1,go,rest,seen',h1,e2,e3⟩=>by subst e1;subst e2;subst e3;exact h go rest seen' h1)

theorem D.entryMapE {b bm j:Nat}{x:Operand}{m:List (κ × Value)}{seen:List Nat}{p:κ × Value}(hc:C bm=some (aF enc m))(hj:m[j]?=some p)(hm:Ent.obj b (aT bm m.length (seen++[j]))∈L)(hk:k=1)(hd:o.dst=some d)(hop:o.op=.entry x)(hg:gOf ds fr o.guard=some g)(hx:ev fr g x=some (.pointer (some ⟨b,0,none⟩)))
  (hp:aH n ds ((d,g,.tuple #[enc p.1,p.2])::fr) d=true) (hwf:wfG ds fr g=true)
  (h:D cx R its ((d,g,.tuple #[enc p.1,p.2])::fr) C L):D cx R ((i,k,o)::its) fr C L :=
 D.det (by subst hk;rfl) hd hg hp hwf (fun _ a hs κ' hκ w hw=>by
  have hb:w.heap[b]?=some (aT bm m.length (seen++[j])):=hw.sep.e _ ((hκ hk).2 _ hm)
  have hbm:w.heap[bm]?=some (aF enc m):=hw.sep.c _ _ ((hκ hk).1 _ _ hc)
  have hf:(aW enc m 0).toArray.find? (·.born == j)=some ⟨enc p.1,p.2,j⟩:=by
   rw [<- Array.find?_toList]
   refine find_born ⟨enc p.1,p.2,j⟩ _ (by simpa using mapEs_nodup enc m) ?_
   refine List.mem_of_getElem? (i:=j) ?_
   simp [mapEs_get,hj]
  have hrun:(Instr.entry (.pointer (some ⟨b,0,none⟩))).run cx.P w=.ok (.tuple #[enc p.1,p.2]) w:=by
   have hg2:(getObj bm).run cx.P w=.ok (.map (aW enc m 0).toArray m.length) w:=Go.MapKept.run_getObj_map hbm
   have hg1:(getObj b).run cx.P w=.ok (aT bm m.length (seen++[j])) w:=by simp only [getObj,Sem.run,hb,aT]
   unfold Instr.entry
   simp only [Sem.run_bind,hg1,Result.andThen_ok,aT]
   have hbk:(seen++[j]).toArray.back?=some j:=by simp
   simp only [hbk,hg2,Sem.run_bind,Result.andThen_ok,bne_self_eq_false,Bool.false_eq_true,if_false,hf,Sem.run_pure]
  have hex:(execOp a.eval o).run cx.P w=.ok (.value (.tuple #[enc p.1,p.2])) w:=by
   have e1:execOp a.eval o=(do Pure.pure (.value (<- Instr.entry (a.eval x))):Sem Next):=by unfold execOp;rw [hop]
   rw [e1,hs _ _ hx]
   simp only [Sem.run_bind,hrun,Result.andThen_ok,Sem.run_pure]
  unfold Oper.quietAt
  rw [hex]
  exact ⟨rfl,rfl⟩) h
end
end Go.Jog
