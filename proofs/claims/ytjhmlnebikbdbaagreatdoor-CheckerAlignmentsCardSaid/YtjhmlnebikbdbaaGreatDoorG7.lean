/- Laws that the proofs of this seat share, part 7. -/
import Derived.Test.YtjhmlnebikbdbaaGreatDoorG6
import Derived.Test.YtjhmlnebikbdbaaGreatDoorShelf
import Derived.Laws.IdiomRangeMap
import Derived.WideKeyRuns
set_option maxHeartbeats 4000000
namespace Go.Proofs.YtjhmlnebikbdbaaGreatDoor
open Go Go.Jog
set_option maxRecDepth 100000

def divS (z w:Int):Rat:=mkRat (if w<0 then -z else z) w.natAbs
theorem lowest_fn (C:Mem)(hT:Tabs C)(z w:Int)(k:Nat)(hk0:0<k)(hk:k<=40000)(hz:z.natAbs<B9 ^ k)(hw:w.natAbs<B9 ^ k)(hw0:w≠0):Gives cx.P 83 [strV (txt z),strV (txt w)] C (strV (qtx (divS z w))):=by
 have hzl:=bd hz hk0
 have hwl:=bd hw hk0
 obtain ⟨y,hy⟩:∃ y,(if w<0 then -z else z)=y:=⟨_,rfl⟩
 obtain ⟨d,hd⟩:∃ d,w.natAbs=d:=⟨_,rfl⟩
 have hd0:d≠0:=by omega
 have hya:y.natAbs=z.natAbs:=by rw [<- hy];split <;> omega
 obtain ⟨g,hg⟩:∃ g,Nat.gcd y.natAbs d=g:=⟨_,rfl⟩
 have hg0:0<g:=by rw [<- hg];exact Nat.gcd_pos_of_pos_right _ om_
 have hgd:g ∣ d:=by rw [<- hg];exact Nat.gcd_dvd_right _ _
 have hgl:g<=d:=Nat.le_of_dvd om_ hgd
 unfold divS
 rw [hy,hd,qtx_mk hd0,hg]
 refine Fn.it kr_ Tryz.func83 35 fun w0=>?_
 refine G.z2 1 0 1 ?_
 refine G.rp 1 fun R hR=>?_
 refine D.am (isign_fn _ w) ?_
 refine D.q3 1 0 1 8 hR ?_
 refine G.bH (fun fr C' L' μ=>(True)/\fr=[(0,[],strV (txt y)),(1,[],strV (txt (d:Nat)))]/\L'=[]) ?_ (fun fr C8 L8 μ hle8 hI=>?_)
 ·refine G.cd (fun h8=>?_) fun h8=>?_
  ·have hw1:w<0:=by
    have h:sgnZ w<0:=by simpa using h8
    unfold sgnZ at h
    split at h <;> omega
   rw [if_pos hw1] at hy
   refine G.rp 1 fun R hR=>?_
   refine D.au (ineg_fn _ z om_) rfl rfl rfl rfl rfl rfl rfl fl_ ?_
   refine D.ae ?_
   refine D.au (ineg_fn _ w om_) rfl rfl rfl rfl rfl rfl rfl fl_ ?_
   refine D.q2 2 0 1 hR ?_
   refine G.ay 0 (Mem.le.refl _) (h_2 0 1) ⟨trivial,by rw [hy,show -w=((d:Nat):Int) by omega],rfl⟩
  ·have hw1:¬ w<0:=by
    intro h2
    have h:¬ sgnZ w<0:=by simpa using h8
    unfold sgnZ at h
    split at h <;> omega
   rw [if_neg hw1] at hy
   refine G.ay 0 (Mem.le.refl _) (h_2 0 1) ⟨trivial,by rw [hy,show w=((d:Nat):Int) by omega],rfl⟩
 ·obtain ⟨_,rfl,rfl⟩:=hI
  refine G.rp 2 fun R hR=>?_
  refine D.au (igcd_fn _ (hT.mono mup) y (d:Nat) k hk0 hk om_ om_) rfl rfl rfl rfl rfl rfl rfl fl_ ?_
  refine D.q3 1 0 1 5 hR ?_
  rw [Int.natAbs_natCast,hg]
  refine G.z4 2 0 1 5 17 ?_
  refine G.bH (fun fr C' L' μ=>(True)/\fr=[(0,[],strV (txt (y / (g:Nat)))),(1,[],strV (txt ((d / g:Nat):Int)))]/\L'=[]) ?_ (fun fr C17 L17 μ hle17 hI=>?_)
  ·refine G.cd (fun h17=>?_) fun h17=>?_
   ·refine G.rp 2 fun R hR=>?_
    refine D.au (idivmod_fn _ (hT.mono mup) y (g:Nat) k hk0 hk om_ om_ om_) rfl rfl rfl rfl rfl rfl rfl fl_ ?_
    refine D.q3 5 0 1 5 hR ?_
    refine G.rp 2 fun R hR=>?_
    refine D.au (idivmod_fn _ (hT.mono mup) (d:Nat) (g:Nat) k hk0 hk om_ om_ om_) rfl rfl rfl rfl rfl rfl rfl fl_ ?_
    refine D.q2 5 0 1 hR ?_
    refine G.ay 0 (Mem.le.refl _) (h_2 0 1) ⟨trivial,by rw [Int.natCast_ediv],rfl⟩
   ·have hg1:g=1:=by
     rw [txt_nat,decEq1] at h17
     simpa using h17
    refine G.ay 0 (Mem.le.refl _) (h_2 0 1) ⟨trivial,by rw [hg1,Nat.div_one,Int.natCast_one,Int.ediv_one],rfl⟩
  ·obtain ⟨_,rfl,rfl⟩:=hI
   rw [txt_nat]
   refine G.rp 2 fun R hR=>?_
   refine D.au (join_fn _ (y / (g:Nat)) (d / g) k hk0 hk (by rw [Int.natAbs_ediv_of_dvd (Int.dvd_natAbs.1 (Int.natCast_dvd_natCast.2 (by rw [<- hg];exact Nat.gcd_dvd_left _ _))),Int.natAbs_natCast];exact Nat.lt_of_le_of_lt (Nat.div_le_self _ _) om_) (Nat.lt_of_le_of_lt (Nat.div_le_self _ _) om_)) rfl rfl rfl rfl rfl rfl rfl fl_ ?_
   refine D.q1 1 4 hR ?_
   refine G.rf ?_
   exact ⟨rfl,rfl⟩

theorem decS_eq {a b:Nat}(h:decS a=decS b):a=b:=by rw [<- (aV a).2,h,(aV b).2]
theorem txt_eq {z w:Int}(h:txt z=txt w):z=w:=by
 have h1:=bJ z
 rw [h,bJ w] at h1
 have h2:=decS_eq (Prod.mk.inj h1).1
 have h3:decide (w<0)=decide (z<0):=(Prod.mk.inj h1).2
 by_cases hw:w<0
 ·rw [decide_eq_true hw] at h3
  have:=of_decide_eq_true h3.symm
  omega
 ·rw [decide_eq_false hw] at h3
  have:=of_decide_eq_false h3.symm
  omega
theorem qtx_eq {a b:Rat}(h:qtx a=qtx b):a=b:=by
 have h1:=cut1_qtx a
 rw [h,cut1_qtx b] at h1
 have h2:=txt_eq (Prod.mk.inj h1).1
 have h3:=congrArg denV (Prod.mk.inj h1).2
 rw [denV_denS,denV_denS] at h3
 exact Rat.ext h2.symm h3.symm
theorem qtxEq (a b:Rat):((⟨(qtx a).toArray⟩:ByteArray).data.toList == (⟨(qtx b).toArray⟩:ByteArray).data.toList)=decide (a=b):=by
 show (qtx a == qtx b)=_
 rw [Bool.eq_iff_iff,beq_iff_eq,decide_eq_true_eq]
 exact ⟨qtx_eq,fun h=>by rw [h]⟩
theorem qtx_zero:qtx 0=[48]:=by
 rw [show (0:Rat)=((0:Int):Rat) from rfl,qtx_int]
 unfold txt
 rw [if_neg om_,show decS (0:Int).natAbs=decS 0 from rfl,decS];rfl
theorem qtx_one:qtx 1=[49]:=by
 rw [show (1:Rat)=((1:Int):Rat) from rfl,qtx_int]
 exact one_val.symm
theorem qtxEq0 (a:Rat):((⟨(qtx a).toArray⟩:ByteArray).data.toList == (⟨#[48]⟩:ByteArray).data.toList)=decide (a=0):=by
 have h:=qtxEq a 0
 rwa [qtx_zero] at h
theorem qtxEq1 (a:Rat):((⟨(qtx a).toArray⟩:ByteArray).data.toList == (⟨#[49]⟩:ByteArray).data.toList)=decide (a=1):=by
 have h:=qtxEq a 1
 rwa [qtx_one] at h
theorem qtx_ne (a:Rat):0<(qtx a).length:=by
 unfold qtx
 rw [List.length_append,List.length_append]
 have:=List.length_pos_iff.2 (decS_ne a.num.natAbs)
 omega
theorem bf {q:Rat}{k:Nat}(h:QB k q)(hk:0<k):(qtx q).length<=18*k+2:=by
 unfold qtx
 rw [List.length_append,List.length_append]
 have h1:=bd h.1 hk
 have h2:=bd h.2 hk
 have h3:(preS (decide (q.num<0))).length<=1:=by cases decide (q.num<0) <;> simp [preS]
 have h4:(cZ (denS q.den)).length<=9*k+1:=by
  unfold denS
  split
  ·simp [cZ]
  ·simp [cZ];exact h2
 omega
theorem qtx_head (q:Rat):∃ c r,qtx q=c::r/\((((c.toNat:Nat):Int) == 45)=decide (q.num<0)):=by
 by_cases h:q.num<0
 ·refine ⟨45,decS q.num.natAbs++cZ (denS q.den), ?_,by rw [decide_eq_true h];decide⟩
  unfold qtx
  rw [decide_eq_true h]
  rfl
 ·obtain ⟨c,r,hc⟩:∃ c r,decS q.num.natAbs=c::r:=List.exists_cons_of_ne_nil (decS_ne _)
  refine ⟨c,r++cZ (denS q.den), ?_, ?_⟩
  ·unfold qtx
   rw [decide_eq_false h,hc]
   rfl
  ·have h2:=decS_dig q.num.natAbs c (by rw [hc];exact List.mem_cons_self)
   rw [decide_eq_false h]
   unfold digB at h2
   have h3:=of_decide_eq_true h2
   exact decide_eq_false om_
theorem qtx_neg_of_pos {q:Rat}(h:¬ q.num<0)(h0:q≠0):qtx (-q)=45::qtx q:=by
 have hn:q.num≠0:=fun e=>h0 (Rat.num_eq_zero.1 e)
 unfold qtx
 rw [Rat.neg_num,Rat.neg_den,decide_eq_true om_,decide_eq_false h,Int.natAbs_neg]
 rfl
theorem qtx_neg_of_neg {q:Rat}(h:q.num<0):qtx q=45::qtx (-q):=by
 have h2:=qtx_neg_of_pos (q:=-q) (by rw [Rat.neg_num];omega) (by intro e;have h3:=congrArg Rat.num e;rw [Rat.neg_num] at h3;have h4:(0:Rat).num=0:=rfl;omega)
 rwa [Rat.neg_neg] at h2
def fitQ (q:Rat):Bool:=fit9 (decS q.num.natAbs) (denS q.den)
theorem fit_lt {n:Nat}(h:(decS n).length<=9):n<1000000000:=by
 have h1:=cA (decS_dig n)
 rw [(aV n).2] at h1
 exact Nat.lt_of_lt_of_le h1 (Nat.le_trans (Nat.pow_le_pow_right (by decide) h) (by decide))
theorem fitQ_lt {q:Rat}(h:fitQ q=true):q.num.natAbs<1000000000/\q.den<1000000000:=by
 unfold fitQ fit9 at h
 rw [Bool.and_eq_true,decide_eq_true_eq,decide_eq_true_eq] at h
 refine ⟨fit_lt h.1, ?_⟩
 by_cases h1:q.den=1
 ·omega
 ·rw [dens_more h1] at h
  exact fit_lt h.2
theorem rquick_fn (C:Mem)(q:Rat)(hl:(qtx q).length<=1000000):Gives cx.P 79 [strV (qtx q)] C (if fitQ q then .tuple #[.int .i64 q.num,.int .i64 (q.den:Nat),.bool true] else .tuple #[.int .i64 0,.int .i64 0,.bool false]):=by
 have h:=rquick_raw C (decide (q.num<0)) (decS q.num.natAbs) (denS q.den) (decS_dig _) (decS_ne _) (denS_dig _) hl
 unfold quickV at h
 rw [(aV _).2,denV_denS] at h
 have e:sgZ (decide (q.num<0)) q.num.natAbs=q.num:=by
  unfold sgZ
  by_cases h:q.num<0
  ·rw [decide_eq_true h,if_pos rfl];omega
  ·rw [decide_eq_false h,if_neg (by decide)];omega
 rw [e] at h
 exact h
theorem rneg_fn (C:Mem)(q:Rat)(hl:(qtx q).length<=1000000):Gives cx.P 154 [strV (qtx q)] C (strV (qtx (-q))):=by
 have hpos:=qtx_ne q
 refine Fn.it kr_ Tryz.func154 13 fun w0=>?_
 refine G.z1 1 0 ?_
 refine G.z2 2 0 4 ?_
 refine G.cd (fun h4=>?_) fun h4=>?_
 ·have h0:q=0:=by rw [qtxEq0] at h4;exact of_decide_eq_true h4
  refine G.z1 2 2 ?_
  refine G.rf ?_
  refine ⟨?_,rfl⟩
  rw [h0,Rat.neg_zero]
 ·have h0:q≠0:=by rw [qtxEq0] at h4;exact of_decide_eq_false h4
  obtain ⟨c,r,hcr,hcd⟩:=qtx_head q
  refine G.rp 1 fun R hR=>?_
  refine D.aZ rfl rfl rfl rfl rfl rfl rfl rfl (fun _=>⟨by omega,by rw [hcr];rfl⟩) rfl rfl ?_
  refine D.q2 1 0 8 hR ?_
  refine G.cd (fun h8=>?_) fun h8=>?_
  ·have hn:q.num<0:=by rw [hcd] at h8;exact of_decide_eq_true h8
   refine G.rp 1 fun R hR=>?_
   refine D.bA 1 (qtx q).length rfl rfl rfl rfl rfl rfl rfl rfl rfl (fun _=>⟨.inr ⟨_,rfl⟩,.inl ⟨rfl,rfl⟩,.inl ⟨rfl,rfl⟩,by omega,Nat.le_refl _,Nat.le_refl _⟩) rfl rfl ?_
   refine D.q1 1 2 hR ?_
   refine G.rf ?_
   refine ⟨?_,rfl⟩
   rw [List.take_length,qtx_neg_of_neg hn]
   rfl
  ·have hn:¬ q.num<0:=by rw [hcd] at h8;exact of_decide_eq_false h8
   refine G.rp 1 fun R hR=>?_
   refine D.eM rfl rfl rfl rfl rfl rfl (fun _=>(by simp only [List.length_cons,List.length_nil];omega)) rfl rfl ?_
   refine D.q1 1 2 hR ?_
   refine G.rf ?_
   refine ⟨?_,rfl⟩
   rw [qtx_neg_of_pos hn h0]
   rfl
theorem rsign_fn (C:Mem)(q:Rat)(hl:(qtx q).length<=1000000):Gives cx.P 22 [strV (qtx q)] C (.int .i64 (sgnZ q.num)):=by
 obtain ⟨c,r,hcr,hcd⟩:=qtx_head q
 have hpos:=qtx_ne q
 refine Fn.it kr_ Tryz.func22 15 fun w0=>?_
 refine G.z1 1 0 ?_
 refine G.z2 3 0 3 ?_
 refine G.cd (fun h3=>?_) fun h3=>?_
 ·have h0:q=0:=by rw [qtxEq0] at h3;exact of_decide_eq_true h3
  refine G.z1 1 2 ?_
  refine G.rf ?_
  refine ⟨?_,rfl⟩
  rw [h0]
  rfl
 ·have h0:q≠0:=by rw [qtxEq0] at h3;exact of_decide_eq_false h3
  have hn0:q.num≠0:=fun e=>h0 (Rat.num_eq_zero.1 e)
  refine G.rp 5 fun R hR=>?_
  refine D.aZ rfl rfl rfl rfl rfl rfl rfl rfl (fun _=>⟨by omega,by rw [hcr];rfl⟩) rfl rfl ?_
  refine D.ae ?_
  refine D.aC rfl rfl rfl rfl rfl rfl rfl rfl ?_
  refine D.q1 1 6 hR ?_
  refine G.cd (fun h6=>?_) fun h6=>?_
  ·rw [hcd] at h6
   have hn:q.num<0:=by
    have h:=(Bool.and_eq_true _ _ ▸ h6:_/\_).2
    exact of_decide_eq_true h
   skip
   refine G.z1 1 2 ?_
   refine G.rf ?_
   refine ⟨?_,rfl⟩
   unfold sgnZ
   rw [if_pos hn]
  ·rw [hcd,decide_eq_true (show (0:Int)<((⟨(qtx q).toArray⟩:ByteArray).data.toList.length:Int) by show (0:Int)<(((qtx q).length:Nat):Int);omega),Bool.true_and] at h6
   have hn:¬ q.num<0:=of_decide_eq_false h6
   refine G.z1 1 2 ?_
   refine G.rf ?_
   refine ⟨?_,rfl⟩
   unfold sgnZ
   rw [if_neg hn,if_neg hn0]

theorem rquick_q (C:Mem)(q:Rat)(hl:(qtx q).length<=1000000):Gives cx.P 79 [strV (qtx q)] C (.tuple #[.int .i64 (if fitQ q then q.num else 0),.int .i64 (if fitQ q then ((q.den:Nat):Int) else 0),.bool (fitQ q)]):=by
 have h:=rquick_fn C q hl
 cases hf:fitQ q with
 | true=>rw [hf] at h;exact h
 | false=>rw [hf] at h;exact h
def cmpQ (a b:Rat):Int:=if a<b then -1 else if b<a then 1 else 0
theorem cmpQ_of {a b:Rat}:cmpQ a b=cmpZ (a.num*b.den) (b.num*a.den):=by
 unfold cmpQ cmpZ
 simp only [Rat.lt_iff]
theorem pos_den (a:Rat):0<a.den:=Nat.pos_of_ne_zero a.den_nz
theorem nine_mul {a:Int}{d:Nat}(ha:a.natAbs<1000000000)(hd:d<1000000000):-1000000000000000000<a*(d:Int)/\a*(d:Int)<1000000000000000000:=prod18 ha (by rw [Int.natAbs_natCast];exact hd)
theorem nine_mulN {a d:Nat}(ha:a<1000000000)(hd:d<1000000000):a*d<1000000000000000000:=Nat.mul_lt_mul'' ha hd
theorem parts_z (C:Mem)(q:Rat)(hl:(qtx q).length<1000000):Gives cx.P 80 [strV (qtx q)] C (.tuple #[strV (txt q.num),strV (txt ((q.den:Nat):Int))]):=by
 have h:=parts_q C q hl
 rwa [<- txt_nat] at h
theorem cC {z w:Int}{k:Nat}(hz:z.natAbs<B9 ^ k)(hw:w.natAbs<B9 ^ k):(z*w).natAbs<B9 ^ (k+k):=by
 rw [Int.natAbs_mul]
 exact prod_lt9 hz hw
theorem divS_pos {z:Int}{d:Nat}(hd:0<d):divS z ((d:Nat):Int)=mkRat z d:=by
 unfold divS
 rw [if_neg om_,Int.natAbs_natCast]
theorem denI {k:Nat}{q:Rat}(h:QB k q):((q.den:Nat):Int).natAbs<B9 ^ k:=by rw [Int.natAbs_natCast];exact h.2
theorem ed (C:Mem)(hT:Tabs C)(a b:Rat)(k:Nat)(hk0:0<k)(hk:k<=20000)(ha:QB k a)(hb:QB k b):Gives cx.P 40 [strV (qtx a),strV (qtx b)] C (.int .i64 (cmpQ a b)):=by
 have hal:=bf ha hk0
 have hbl:=bf hb hk0
 refine Fn.it kr_ Tryz.func40 65 fun w0=>?_
 refine G.z2 1 0 1 ?_
 refine G.z3 3 0 1 19 ?_
 refine G.cd (fun h19=>?_) fun h19=>?_
 ·have h0:a=b:=by rw [qtxEq] at h19;exact of_decide_eq_true h19
  refine G.z1 1 4 ?_
  refine G.rf ?_
  refine ⟨?_,rfl⟩
  subst h0
  rw [cmpQ,if_neg (Rat.lt_irrefl),if_neg (Rat.lt_irrefl)]
 ·refine G.rp 1 fun R hR=>?_
  refine D.au (rquick_q _ a om_) rfl rfl rfl rfl rfl rfl rfl fl_ ?_
  refine D.q5 7 0 1 5 6 7 hR ?_
  refine G.z5 1 0 1 5 6 26 ?_
  refine G.bH (fun fr C' L' μ=>(True)/\fr=[(0,[],strV (qtx a)),(1,[],strV (qtx b))]/\L'=[]) ?_ (fun fr C26 L26 μ hle26 hI=>?_)
  ·refine G.cd (fun h26=>?_) fun h26=>?_
   ·have hfa:fitQ a=true:=h26
    rw [if_pos hfa,if_pos hfa]
    have ha9:=fitQ_lt hfa
    refine G.rp 1 fun R hR=>?_
    refine D.au (rquick_q _ b om_) rfl rfl rfl rfl rfl rfl rfl fl_ ?_
    refine D.q7 7 0 1 5 6 8 9 10 hR ?_
    refine G.z7 1 0 1 5 6 8 9 33 ?_
    refine G.cd (fun h33=>?_) fun h33=>?_
    ·have hfb:fitQ b=true:=h33
     rw [if_pos hfb,if_pos hfb]
     have hb9:=fitQ_lt hfb
     have hm1:=nine_mul ha9.1 hb9.2
     have hm2:=nine_mul hb9.1 ha9.2
     refine G.rp 2 fun R hR=>?_
     refine D.ax _ ?_
     refine D.ps 2 ?_
     refine D.ax _ ?_
     refine D.q2 2 11 12 hR ?_
     refine G.z3 4 11 12 40 ?_
     refine G.cd (fun h40=>?_) fun h40=>?_
     ·have h1:=of_decide_eq_true h40
      refine G.z1 1 4 ?_
      refine G.rf ?_
      refine ⟨?_,rfl⟩
      rw [cmpQ_of,cmpZ,if_pos h1]
     ·have h1:=of_decide_eq_false h40
      refine G.z1 4 44 ?_
      refine G.cd (fun h44=>?_) fun h44=>?_
      ·have h2:=of_decide_eq_true h44
       refine G.z1 1 4 ?_
       refine G.rf ?_
       refine ⟨?_,rfl⟩
       rw [cmpQ_of,cmpZ,if_neg h1,if_pos h2]
      ·have h2:=of_decide_eq_false h44
       refine G.z1 1 4 ?_
       refine G.rf ?_
       refine ⟨?_,rfl⟩
       rw [cmpQ_of,cmpZ,if_neg h1,if_neg h2]
    ·refine G.ay 0 (Mem.le.refl _) (h_2 0 1) ⟨trivial,rfl,rfl⟩
   ·refine G.ay 0 (Mem.le.refl _) (h_2 0 1) ⟨trivial,rfl,rfl⟩
  ·obtain ⟨_,rfl,rfl⟩:=hI
   refine G.rp 1 fun R hR=>?_
   refine D.au (parts_z _ a om_) rfl rfl rfl rfl rfl rfl rfl fl_ ?_
   refine D.q3 5 1 13 14 hR ?_
   refine G.rp 1 fun R hR=>?_
   refine D.au (parts_z _ b om_) rfl rfl rfl rfl rfl rfl rfl fl_ ?_
   refine D.q4 5 13 14 15 16 hR ?_
   refine G.rp 2 fun R hR=>?_
   refine D.au (imul_fn _ (hT.mono mup) _ _ k hk0 om_ ha.1 (denI hb)) rfl rfl rfl rfl rfl rfl rfl fl_ ?_
   refine D.ps 2 ?_
   refine D.au (imul_fn _ (hT.mono mup) _ _ k hk0 om_ hb.1 (denI ha)) rfl rfl rfl rfl rfl rfl rfl fl_ ?_
   refine D.au (icompare_fn _ _ _ (by have:=bd (cC ha.1 (denI hb)) om_;omega) (by have:=bd (cC hb.1 (denI ha)) om_;omega)) rfl rfl rfl rfl rfl rfl rfl fl_ ?_
   refine D.q1 1 4 hR ?_
   refine G.rf ?_
   exact ⟨by rw [cmpQ_of],rfl⟩
theorem ee (C:Mem)(hT:Tabs C)(a b:Rat)(k:Nat)(hk0:0<k)(hk:k<=10000)(ha:QB k a)(hb:QB k b):Gives cx.P 41 [strV (qtx a),strV (qtx b)] C (strV (qtx (a+b))):=by
 have hal:=bf ha hk0
 have hbl:=bf hb hk0
 have hda:=pos_den a
 have hdb:=pos_den b
 have hdd:0<a.den*b.den:=Nat.mul_pos hda hdb
 refine Fn.it kr_ Tryz.func41 67 fun w0=>?_
 refine G.z2 1 0 1 ?_
 refine G.z3 2 0 1 16 ?_
 refine G.cd (fun h16=>?_) fun h16=>?_
 ·have h0:a=0:=by rw [qtxEq0] at h16;exact of_decide_eq_true h16
  refine G.z1 2 4 ?_
  refine G.rf ?_
  refine ⟨?_,rfl⟩
  rw [h0,Rat.zero_add]
 ·refine G.z3 2 0 1 19 ?_
  refine G.cd (fun h19=>?_) fun h19=>?_
  ·have h0:b=0:=by rw [qtxEq0] at h19;exact of_decide_eq_true h19
   refine G.z1 2 4 ?_
   refine G.rf ?_
   refine ⟨?_,rfl⟩
   rw [h0,Rat.add_zero]
  ·refine G.rp 1 fun R hR=>?_
   refine D.au (rquick_q _ a om_) rfl rfl rfl rfl rfl rfl rfl fl_ ?_
   refine D.q5 7 0 1 5 6 7 hR ?_
   refine G.z5 1 0 1 5 6 27 ?_
   refine G.bH (fun fr C' L' μ=>(True)/\fr=[(0,[],strV (qtx a)),(1,[],strV (qtx b))]/\L'=[]) ?_ (fun fr C27 L27 μ hle27 hI=>?_)
   ·refine G.cd (fun h27=>?_) fun h27=>?_
    ·have hfa:fitQ a=true:=h27
     rw [if_pos hfa,if_pos hfa]
     have ha9:=fitQ_lt hfa
     refine G.rp 1 fun R hR=>?_
     refine D.au (rquick_q _ b om_) rfl rfl rfl rfl rfl rfl rfl fl_ ?_
     refine D.q7 7 0 1 5 6 8 9 10 hR ?_
     refine G.z7 1 0 1 5 6 8 9 34 ?_
     refine G.cd (fun h34=>?_) fun h34=>?_
     ·have hfb:fitQ b=true:=h34
      rw [if_pos hfb,if_pos hfb]
      have hb9:=fitQ_lt hfb
      have hm1:=nine_mul ha9.1 hb9.2
      have hm2:=nine_mul hb9.1 ha9.2
      have hm3:=nine_mulN ha9.2 hb9.2
      refine G.rp 2 fun R hR=>?_
      refine D.ax _ ?_
      refine D.ps 2 ?_
      refine D.ax _ ?_
      refine D.ax _ ?_
      refine D.ps 2 ?_
      refine D.i64 (((a.den*b.den:Nat):Int)) rfl rfl rfl rfl (Int.natCast_mul _ _).symm om_ om_ rfl rfl ?_
      refine D.au (rsmall_fn _ (hT.mono mup) _ _ hdd om_ om_) rfl rfl rfl rfl rfl rfl rfl fl_ ?_
      refine D.q1 1 4 hR ?_
      refine G.rf ?_
      exact ⟨by rw [rat_add_mk],rfl⟩
     ·refine G.ay 0 (Mem.le.refl _) (h_2 0 1) ⟨trivial,rfl,rfl⟩
    ·refine G.ay 0 (Mem.le.refl _) (h_2 0 1) ⟨trivial,rfl,rfl⟩
   ·obtain ⟨_,rfl,rfl⟩:=hI
    refine G.rp 1 fun R hR=>?_
    refine D.au (parts_z _ a om_) rfl rfl rfl rfl rfl rfl rfl fl_ ?_
    refine D.q3 5 1 11 12 hR ?_
    refine G.rp 1 fun R hR=>?_
    refine D.au (parts_z _ b om_) rfl rfl rfl rfl rfl rfl rfl fl_ ?_
    refine D.q4 5 11 12 13 14 hR ?_
    refine G.rp 2 fun R hR=>?_
    refine D.au (imul_fn _ (hT.mono mup) _ _ k hk0 om_ ha.1 (denI hb)) rfl rfl rfl rfl rfl rfl rfl fl_ ?_
    refine D.ps 2 ?_
    refine D.au (imul_fn _ (hT.mono mup) _ _ k hk0 om_ hb.1 (denI ha)) rfl rfl rfl rfl rfl rfl rfl fl_ ?_
    refine D.au (iadd_fn _ (hT.mono mup) _ _ (k+k) om_ om_ (cC ha.1 (denI hb)) (cC hb.1 (denI ha))) rfl rfl rfl rfl rfl rfl rfl fl_ ?_
    refine D.ps 2 ?_
    refine D.au (imul_fn _ (hT.mono mup) _ _ k hk0 om_ (denI ha) (denI hb)) rfl rfl rfl rfl rfl rfl rfl fl_ ?_
    refine D.au (lowest_fn _ (hT.mono mup) _ _ (k+k+1) om_ om_ (Nat.lt_of_le_of_lt (Int.natAbs_add_le _ _) (sum_lt9 (cC ha.1 (denI hb)) (cC hb.1 (denI ha)))) (bI (cC (denI ha) (denI hb)) om_) (by rw [<- Int.natCast_mul];omega)) rfl rfl rfl rfl rfl rfl rfl fl_ ?_
    refine D.q1 1 4 hR ?_
    refine G.rf ?_
    exact ⟨by rw [rat_add_mk,<- Int.natCast_mul,divS_pos hdd],rfl⟩

theorem QB_add {a b:Rat}{k:Nat}(ha:QB k a)(hb:QB k b):QB (k+k+1) (a+b):=by
 rw [rat_add_mk]
 exact mk_bound (Nat.ne_of_gt (Nat.mul_pos (pos_den a) (pos_den b))) (Nat.lt_of_le_of_lt (Int.natAbs_add_le _ _) (sum_lt9 (cC ha.1 (denI hb)) (cC hb.1 (denI ha)))) (bI (prod_lt9 ha.2 hb.2) om_)
theorem QB_neg {a:Rat}{k:Nat}(ha:QB k a):QB k (-a):=⟨by rw [Rat.neg_num,Int.natAbs_neg];exact ha.1,by rw [Rat.neg_den];exact ha.2⟩
theorem QB_int {z:Int}{k:Nat}(h:z.natAbs<B9 ^ k)(hk:0<k):QB k (z:Rat):=⟨h,by
 show 1<B9 ^ k
 exact Nat.lt_of_lt_of_le (by decide:1<B9 ^ 1) (Nat.pow_le_pow_right (by decide) hk)⟩
theorem rmul_fn (C:Mem)(hT:Tabs C)(a b:Rat)(k:Nat)(hk0:0<k)(hk:k<=10000)(ha:QB k a)(hb:QB k b):Gives cx.P 121 [strV (qtx a),strV (qtx b)] C (strV (qtx (a*b))):=by
 have hal:=bf ha hk0
 have hbl:=bf hb hk0
 have hda:=pos_den a
 have hdb:=pos_den b
 have hdd:0<a.den*b.den:=Nat.mul_pos hda hdb
 refine Fn.it kr_ Tryz.func121 66 fun w0=>?_
 refine G.z2 1 0 1 ?_
 refine G.z3 3 0 1 15 ?_
 refine G.bH (fun fr C' L' μ=>(True)/\fr=[(0,[],strV (qtx a)),(1,[],strV (qtx b)),(15,[],.bool (decide (a=0∨b=0)))]/\L'=[]) ?_ (fun fr C15 L15 μ hle15 hI=>?_)
 ·refine G.cd (fun h15=>?_) fun h15=>?_
  ·have h0:a=0:=by rw [qtxEq0] at h15;exact of_decide_eq_true h15
   rw [qtxEq0,show decide (a=0)=decide (a=0∨b=0) by simp [h0]]
   refine G.ay 0 (Mem.le.refl _) (h_3 0 1 15) ⟨trivial,rfl,rfl⟩
  ·have h0:¬ a=0:=by rw [qtxEq0] at h15;exact of_decide_eq_false h15
   refine G.z3 3 0 1 15 ?_
   rw [qtxEq0,show decide (b=0)=decide (a=0∨b=0) by simp [h0]]
   refine G.ay 0 (Mem.le.refl _) (h_3 0 1 15) ⟨trivial,rfl,rfl⟩
 ·obtain ⟨_,rfl,rfl⟩:=hI
  refine G.cd (fun h15b=>?_) fun h15b=>?_
  ·have h0:=of_decide_eq_true h15b
   refine G.z1 1 4 ?_
   refine G.rf ?_
   refine ⟨?_,rfl⟩
   rw [show a*b=0 by rcases h0 with h | h <;> simp [h],qtx_zero]
   rfl
  ·refine G.z3 3 0 1 20 ?_
   refine G.cd (fun h20=>?_) fun h20=>?_
   ·have h1:a=1:=by rw [qtxEq1] at h20;exact of_decide_eq_true h20
    refine G.z1 2 4 ?_
    refine G.rf ?_
    refine ⟨?_,rfl⟩
    rw [h1,Rat.one_mul]
   ·refine G.z3 3 0 1 24 ?_
    refine G.cd (fun h24=>?_) fun h24=>?_
    ·have h1:b=1:=by rw [qtxEq1] at h24;exact of_decide_eq_true h24
     refine G.z1 2 4 ?_
     refine G.rf ?_
     refine ⟨?_,rfl⟩
     rw [h1,Rat.mul_one]
    ·refine G.rp 1 fun R hR=>?_
     refine D.au (rquick_q _ a om_) rfl rfl rfl rfl rfl rfl rfl fl_ ?_
     refine D.q5 7 0 1 5 6 7 hR ?_
     refine G.z5 1 0 1 5 6 34 ?_
     refine G.bH (fun fr C' L' μ=>(True)/\fr=[(0,[],strV (qtx a)),(1,[],strV (qtx b))]/\L'=[]) ?_ (fun fr C34 L34 μ hle34 hI=>?_)
     ·refine G.cd (fun h34=>?_) fun h34=>?_
      ·have hfa:fitQ a=true:=h34
       rw [if_pos hfa,if_pos hfa]
       have ha9:=fitQ_lt hfa
       refine G.rp 1 fun R hR=>?_
       refine D.au (rquick_q _ b om_) rfl rfl rfl rfl rfl rfl rfl fl_ ?_
       refine D.q7 7 0 1 5 6 8 9 10 hR ?_
       refine G.z7 1 0 1 5 6 8 9 41 ?_
       refine G.cd (fun h41=>?_) fun h41=>?_
       ·have hfb:fitQ b=true:=h41
        rw [if_pos hfb,if_pos hfb]
        have hb9:=fitQ_lt hfb
        have hm1:=prod18 ha9.1 hb9.1
        have hm3:=nine_mulN ha9.2 hb9.2
        refine G.rp 2 fun R hR=>?_
        refine D.ax _ ?_
        refine D.ps 2 ?_
        refine D.i64 (((a.den*b.den:Nat):Int)) rfl rfl rfl rfl (Int.natCast_mul _ _).symm om_ om_ rfl rfl ?_
        refine D.au (rsmall_fn _ (hT.mono mup) _ _ hdd om_ om_) rfl rfl rfl rfl rfl rfl rfl fl_ ?_
        refine D.q1 1 4 hR ?_
        refine G.rf ?_
        exact ⟨by rw [rat_mul_mk],rfl⟩
       ·refine G.ay 0 (Mem.le.refl _) (h_2 0 1) ⟨trivial,rfl,rfl⟩
      ·refine G.ay 0 (Mem.le.refl _) (h_2 0 1) ⟨trivial,rfl,rfl⟩
     ·obtain ⟨_,rfl,rfl⟩:=hI
      refine G.rp 1 fun R hR=>?_
      refine D.au (parts_z _ a om_) rfl rfl rfl rfl rfl rfl rfl fl_ ?_
      refine D.q3 5 1 11 12 hR ?_
      refine G.rp 1 fun R hR=>?_
      refine D.au (parts_z _ b om_) rfl rfl rfl rfl rfl rfl rfl fl_ ?_
      refine D.q4 5 11 12 13 14 hR ?_
      refine G.rp 2 fun R hR=>?_
      refine D.au (imul_fn _ (hT.mono mup) _ _ k hk0 om_ ha.1 hb.1) rfl rfl rfl rfl rfl rfl rfl fl_ ?_
      refine D.ps 2 ?_
      refine D.au (imul_fn _ (hT.mono mup) _ _ k hk0 om_ (denI ha) (denI hb)) rfl rfl rfl rfl rfl rfl rfl fl_ ?_
      refine D.au (lowest_fn _ (hT.mono mup) _ _ (k+k) om_ om_ (cC ha.1 hb.1) (cC (denI ha) (denI hb)) (by rw [<- Int.natCast_mul];omega)) rfl rfl rfl rfl rfl rfl rfl fl_ ?_
      refine D.q1 1 4 hR ?_
      refine G.rf ?_
      exact ⟨by rw [rat_mul_mk,<- Int.natCast_mul,divS_pos hdd],rfl⟩
theorem rsub_fn (C:Mem)(hT:Tabs C)(a b:Rat)(k:Nat)(hk0:0<k)(hk:k<=10000)(ha:QB k a)(hb:QB k b):Gives cx.P 123 [strV (qtx a),strV (qtx b)] C (strV (qtx (a-b))):=by
 have hbl:=bf hb hk0
 refine Fn.it kr_ Tryz.func123 9 fun w0=>?_
 refine G.z2 1 0 1 ?_
 refine G.rp 2 fun R hR=>?_
 refine D.au (rneg_fn _ b om_) rfl rfl rfl rfl rfl rfl rfl fl_ ?_
 refine D.am (ee _ (hT.mono mup) a (-b) k hk0 hk ha (QB_neg hb)) ?_
 refine D.q1 1 4 hR ?_
 refine G.rf ?_
 exact ⟨by rw [Rat.sub_eq_add_neg],rfl⟩
theorem rnew_fn (C:Mem)(hT:Tabs C)(z w:Int)(k:Nat)(hk0:0<k)(hk:k<=40000)(hz:z.natAbs<B9 ^ k)(hw:w.natAbs<B9 ^ k)(hw0:w≠0):Gives cx.P 53 [strV (txt z),strV (txt w)] C (.tuple #[strV (qtx (divS z w)),.int .i64 0]):=by
 refine Fn.it kr_ Tryz.func53 12 fun w0=>?_
 refine G.z2 2 0 1 ?_
 refine G.rp 1 fun R hR=>?_
 refine D.am (isign_fn _ w) ?_
 refine D.q3 1 0 1 8 hR ?_
 refine G.cd (fun h8=>?_) fun h8=>?_
 ·exfalso
  have h:sgnZ w=0:=by simpa using h8
  rcases sgnZ_cases w with h2 | h2 | h2 <;> omega
 ·refine G.rp 2 fun R hR=>?_
  refine D.am (lowest_fn _ (hT.mono mup) z w k hk0 hk hz hw hw0) ?_
  refine D.q2 2 4 5 hR ?_
  refine G.aA (G.dropAll (G.bg rfl rfl rfl ?_))
  exact ⟨rfl,rfl⟩
theorem rof_fn (C:Mem)(hT:Tabs C)(z w:Int)(hz:z.natAbs<9000000000000000000)(hw:w.natAbs<9000000000000000000)(hw0:w≠0):Gives cx.P 17 [.int .i64 z,.int .i64 w] C (.tuple #[strV (qtx (divS z w)),.int .i64 0]):=by
 have hb3:9000000000000000000<B9 ^ 3:=by decide
 refine Fn.it kr_ Tryz.func17 13 fun w0=>?_
 refine G.z2 2 0 1 ?_
 refine G.rp 1 fun R hR=>?_
 refine D.au (iof_fn _ (hT.mono mup) z om_ om_) rfl rfl rfl rfl rfl rfl rfl fl_ ?_
 refine D.ae ?_
 refine D.au (iof_fn _ (hT.mono mup) w om_ om_) rfl rfl rfl rfl rfl rfl rfl fl_ ?_
 refine D.au (rnew_fn _ (hT.mono mup) z w 3 (by decide) (by decide) om_ om_ hw0) rfl rfl rfl rfl rfl rfl rfl fl_ ?_
 refine D.q2 4 4 5 hR ?_
 refine G.aA (G.dropAll (G.bg rfl rfl rfl ?_))
 exact ⟨rfl,rfl⟩

theorem pow9 (k:Nat):B9 ^ k=10 ^ (9*k):=by rw [Nat.pow_mul]
theorem dj {s:Str}(h:a6 s=true):s=txt (decZ s)/\(decZ s).natAbs<B9 ^ 23:=by
 have h1:=dT.1 h
 refine ⟨canon_txt (by unfold a6 at h;exact (Bool.and_eq_true_iff.1 h).1), ?_⟩
 rw [decZ_abs]
 have h2:=eg.1 h1.1
 have h3:=cA h2.1.1
 exact Nat.lt_of_lt_of_le h3 (by rw [pow9];exact Nat.pow_le_pow_right (by decide) om_)
theorem rat_of {s:Str}(h:dW s=true):∃ q:Rat,s=qtx q/\QB 23 q:=by
 unfold dW at h
 rw [Bool.and_eq_true,Bool.and_eq_true] at h
 obtain ⟨⟨h1,h2⟩,h3⟩:=h
 obtain ⟨e1,b1⟩:=dj h1
 rcases dZ 47 s with ⟨hc,_,_⟩ | ⟨pre,post,hc,hs,_⟩
 ·rw [hc] at e1 b1
  exact ⟨((decZ s:Int):Rat),by rw [qtx_int];exact e1,QB_int b1 (by decide)⟩
 ·rw [hc] at h2 h3 e1 b1
  simp only [Option.getD_some] at h2 e1 b1
  obtain ⟨e2,b2⟩:=dj h2
  unfold restOk at h3
  simp only [Bool.and_eq_true,decide_eq_true_eq,beq_iff_eq] at h3
  obtain ⟨⟨h4,_⟩,h6⟩:=h3
  have hd0:(decZ post).natAbs≠0:=by omega
  refine ⟨⟨decZ pre,(decZ post).natAbs,hd0,h6⟩, ?_,b1,b2⟩
  rw [qtx_txt]
  show s=txt (decZ pre)++cZ (denS (decZ post).natAbs)
  rw [dens_more om_,<- e1,hs]
  show pre++47::post=pre++47::decS (decZ post).natAbs
  rw [<- txt_nat,show (((decZ post).natAbs:Nat):Int)=decZ post by omega,<- e2]
theorem icompare_right (C:Mem)(b:Str)(hb:a6 b=true):Gives cx.P 59 [strV b,strV [49]] C (.int .i64 (cmpZ (decZ b) 1)):=by
 obtain ⟨h1,h2⟩:=dj hb
 have h:=icompare_fn C (decZ b) 1 (by have:=bd h2 (by decide);omega) (by rw [show decS (1:Int).natAbs=[49] from one_dec];decide)
 rwa [<- one_val,<- h1] at h
theorem igcd_right (C:Mem)(hT:Tabs C)(a b:Str)(ha:a6 a=true)(hb:a6 b=true):Gives cx.P 60 [strV a,strV b] C (strV (txt (Nat.gcd (decZ a).natAbs (decZ b).natAbs:Nat))):=by
 obtain ⟨h1,h2⟩:=dj ha
 obtain ⟨h3,h4⟩:=dj hb
 have h:=igcd_fn C hT (decZ a) (decZ b) 23 (by decide) (by decide) h2 h4
 rwa [<- h1,<- h3] at h
theorem chk_right {b:Bool}(h:(chkZ b != 0)=false):b=true:=by cases b <;> first | rfl | (exact absurd h (by decide))
theorem dV (C:Mem)(hT:Tabs C)(s:Str)(hl:s.length<=999998):Gives cx.P 21 [strV s] C (.int .i64 (chkZ (dW s))):=by
 have hls:=ratOk_len hl
 obtain ⟨num,bo,hct⟩:∃ a b,cut1 47 s=(a,b):=⟨_,_,rfl⟩
 have hM:dW s=(a6 num && a6 (bo.getD [49]) && restOk (decZ num) bo):=by
  unfold dW;rw [hct]
 rw [hct] at hls
 simp only at hls
 refine Fn.it kr_ Tryz.func21 39 fun w0=>?_
 refine G.z1 1 0 ?_
 refine G.rp 1 fun R hR=>?_
 refine D.au (by have h:=cut_fn C s 47 om_;rw [hct] at h;exact h) rfl rfl rfl rfl rfl rfl rfl fl_ ?_
 refine D.q3 7 3 4 5 hR ?_
 refine G.rp 1 fun R hR=>?_
 refine D.am (icheck_fn _ num) ?_
 refine D.q4 1 3 4 5 16 hR ?_
 refine G.cd (fun h16=>?_) fun h16=>?_
 ·have hno:dW s=false:=by
   rw [hM]
   cases h1:a6 num with
   | false=>rfl
   | true=>rw [h1] at h16;exact absurd h16 (by decide)
  refine G.z1 1 2 ?_
  refine G.rf ?_
  exact ⟨by rw [hno];rfl,rfl⟩
 ·have hr1:a6 num=true:=by
   cases h1:a6 num with
   | true=>rfl
   | false=>rw [h1] at h16;exact absurd h16 (by decide)
  rw [hr1,Bool.true_and] at hM
  obtain ⟨hn1,hn2⟩:=dj hr1
  refine G.z3 2 3 4 18 ?_
  refine G.cd (fun h18=>?_) fun h18=>?_
  ·have hbo:bo=none:=by
    cases bo with
    | none=>rfl
    | some b=>simp at h18
   refine G.z1 1 2 ?_
   refine G.rf ?_
   refine ⟨?_,rfl⟩
   rw [hM,hbo]
   rfl
  ·obtain ⟨b,hbo⟩:∃ b,bo=some b:=by
    cases bo with
    | some b=>exact ⟨b,rfl⟩
    | none=>simp at h18
   subst hbo
   obtain ⟨zn,ezn⟩:∃ z,decZ num=z:=⟨_,rfl⟩
   obtain ⟨zd,ezd⟩:∃ z,decZ b=z:=⟨_,rfl⟩
   have hM2:dW s=(a6 b && restOk (decZ num) (some b)):=hM
   unfold restOk at hM2
   simp only [ezn,ezd] at hM2 hn1 hn2
   have e0:(num == [48])=(zn == 0):=by
    rw [hn1]
    have h:=txtEq0 zn
    rw [show (zn == 0)=decide (zn=0) by by_cases h:zn=0 <;> simp [h]]
    exact h
   have e1:(chkZ (a6 b) != 0)=!a6 b:=by cases a6 b <;> rfl
   have e2:decide (cmpZ zd 1<=0)=!decide (1<zd):=by
    unfold cmpZ
    by_cases h:1<zd
    ·rw [if_neg om_,if_pos h,decide_eq_true h];rfl
    ·rw [decide_eq_false h]
     refine decide_eq_true ?_
     split <;> first | omega | (split <;> omega)
   have key:(chkZ (a6 b) != 0 || decide (cmpZ (decZ b) 1<=0) || (num == [48]) || !(decS ((decZ num).natAbs.gcd (decZ b).natAbs) == [49]))=!dW s:=by
    have e3:=decEq1 (zn.natAbs.gcd zd.natAbs)
    have e4:(decS (zn.natAbs.gcd zd.natAbs) == [49])=(zn.natAbs.gcd zd.natAbs == 1):=e3
    rw [ezn,ezd,e0,e1,e2,e4,hM2]
    cases a6 b <;> cases decide (1<zd) <;> cases (zn == 0) <;> cases (zn.natAbs.gcd zd.natAbs == 1) <;> rfl
   rw [<- txt_nat] at key
   refine G.z2 4 6 7 ?_
   refine G.rp 1 fun R hR=>?_
   refine D.am (icheck_fn _ b) ?_
   refine D.ps 3 ?_
   refine D.aU (fun hg=>(icompare_right _ b (by exact chk_right (show (chkZ (a6 b) != 0)=false/\True from hg).1))) rfl rfl rfl rfl rfl rfl rfl rfl rfl ?_
   refine D.ae ?_
   refine D.ar ?_
   refine D.ps 3 ?_
   refine D.ar ?_
   refine D.ps 3 ?_
   refine D.aU (fun hg=>(igcd_right _ (hT.mono mup) num b hr1 (by exact chk_right (Bool.or_eq_false_iff.1 (Bool.or_eq_false_iff.1 (show (((chkZ (a6 b) != 0) || decide (cmpZ (decZ b) 1<=0)) || (num == [48]))=false/\True from hg).1).1).1))) rfl rfl rfl rfl rfl rfl rfl rfl rfl ?_
   refine D.ae ?_
   refine D.ar ?_
   refine D.e1 38 hR ?_
   refine G.cd (fun h38=>?_) fun h38=>?_
   ·have hno:dW s=false:=by
     have h:(!dW s)=true:=key.symm.trans h38
     simpa using h
    refine G.z1 1 2 ?_
    refine G.rf ?_
    exact ⟨by rw [hno];rfl,rfl⟩
   ·have hno:dW s=true:=by
     have h:(!dW s)=false:=key.symm.trans h38
     simpa using h
    refine G.z1 1 2 ?_
    refine G.rf ?_
    exact ⟨by rw [hno];rfl,rfl⟩
end Go.Proofs.YtjhmlnebikbdbaaGreatDoor
namespace Go.Jog
namespace Dp

structure Ed where
 s:Nat × Nat
 t:Nat × Nat
 c:Rat

abbrev Tb:=Nat × Nat->Option Rat

def improve (T:Tb)(p:Nat × Nat)(x:Rat):Tb:=fun q=>if q=p then (match T p with
 | none=>some x
 | some y=>if x<y then some x else some y) else T q
def relax (T:Tb)(e:Ed):Tb:=match T e.s with
 | none=>T
 | some u=>improve T e.t (u+e.c)
def run (T:Tb)(E:List Ed):Tb:=E.foldl relax T

theorem improve_other {T:Tb}{p q:Nat × Nat}{x:Rat}(h:q≠p):improve T p x q=T q:=by simp [improve,h]
theorem improve_same (T:Tb)(p:Nat × Nat)(x:Rat):∃ v,improve T p x p=some v/\v<=x/\(∀ y,T p=some y->v<=y)/\(v=x∨T p=some v):=by
 unfold improve
 simp only [if_true]
 cases hT:T p with
 | none=>exact ⟨x,rfl,Rat.le_refl,fun y hy=>(by cases hy),.inl rfl⟩
 | some y =>
  by_cases h:x<y
  ·refine ⟨x,by simp [h],Rat.le_refl,fun z hz=>?_,.inl rfl⟩
   cases hz;exact Rat.le_of_lt h
  ·refine ⟨y,by simp [h],Rat.not_lt.1 h,fun z hz=>?_,.inr rfl⟩
   cases hz;exact Rat.le_refl
theorem bC {T:Tb}{e:Ed}{q:Nat × Nat}(h:q≠e.t):relax T e q=T q:=by
 unfold relax
 cases T e.s with
 | none=>rfl
 | some u=>exact improve_other h

structure Done (r:Nat × Nat)(E:List Ed)(T:Tb):Prop where
 root:T r=some 0
 src:∀ e∈E,∃ u v,T e.s=some u/\T e.t=some v/\v<=u+e.c
 att:∀ p v,T p=some v->p=r∨∃ e∈E,e.t=p/\∃ u,T e.s=some u/\v=u+e.c

inductive Ord (r:Nat × Nat):List Ed->Prop where
 | nil:Ord r []
 | snoc {E:List Ed} {e:Ed}:Ord r E->(∀ x∈E,x.s≠e.t)->e.s≠e.t->r≠e.t->(e.s=r∨∃ x∈E,x.t=e.s)->Ord r (E++[e])

theorem run_snoc (T:Tb)(E:List Ed)(e:Ed):run T (E++[e])=relax (run T E) e:=by simp [run]

theorem done_start {r:Nat × Nat}{T:Tb}(h0:T r=some 0)(hn:∀ p,p≠r->T p=none):Done r [] T:=by
 refine ⟨h0,fun e he=>(by cases he),fun p v hp=>?_⟩
 by_cases h:p=r
 ·exact .inl h
 ·rw [hn p h] at hp;cases hp

theorem Done.step {r:Nat × Nat}{E:List Ed}{T:Tb}{e:Ed}(h:Done r E T)(h1:∀ x∈E,x.s≠e.t)(h2:e.s≠e.t)(h3:r≠e.t)(h4:e.s=r∨∃ x∈E,x.t=e.s):Done r (E++[e]) (relax T e):=by
 obtain ⟨u,hu⟩:∃ u,T e.s=some u:=by
  rcases h4 with h4 | ⟨x,hx,h4⟩
  ·exact ⟨0,by rw [h4];exact h.root⟩
  ·obtain ⟨_,v,_,hv,_⟩:=h.src x hx
   exact ⟨v,by rw [<- h4];exact hv⟩
 have hr:relax T e=improve T e.t (u+e.c):=by unfold relax;rw [hu]
 obtain ⟨v,hv,hle,hold,hor⟩:=improve_same T e.t (u+e.c)
 rw [<- hr] at hv
 have hs:relax T e e.s=some u:=by rw [bC h2];exact hu
 refine ⟨by rw [bC h3];exact h.root,fun x hx=>?_,fun p w hp=>?_⟩
 ·rcases List.mem_append.1 hx with hx | hx
  ·obtain ⟨a,b,ha,hb,hab⟩:=h.src x hx
   by_cases ht:x.t=e.t
   ·refine ⟨a,v,by rw [bC (h1 x hx)];exact ha,by rw [ht];exact hv,Rat.le_trans (hold b (by rw [<- ht];exact hb)) hab⟩
   ·exact ⟨a,b,by rw [bC (h1 x hx)];exact ha,by rw [bC ht];exact hb,hab⟩
  ·rw [List.mem_singleton] at hx;subst hx
   exact ⟨u,v,hs,hv,hle⟩
 ·by_cases ht:p=e.t
  ·subst ht
   rw [hv] at hp;cases hp
   rcases hor with rfl | hor
   ·exact .inr ⟨e,by simp,rfl,u,hs,rfl⟩
   ·rcases h.att _ _ hor with h5 | ⟨x,hx,hxt,a,ha,hva⟩
    ·exact .inl h5
    ·exact .inr ⟨x,List.mem_append_left _ hx,hxt,a,by rw [bC (h1 x hx)];exact ha,hva⟩
  ·rw [bC ht] at hp
   rcases h.att _ _ hp with h5 | ⟨x,hx,hxt,a,ha,hva⟩
   ·exact .inl h5
   ·exact .inr ⟨x,List.mem_append_left _ hx,hxt,a,by rw [bC (h1 x hx)];exact ha,hva⟩

theorem Ord.done {r:Nat × Nat}{T:Tb}(h0:Done r [] T){E:List Ed}(h:Ord r E):Done r E (run T E):=by
 induction h with
 | nil=>exact h0
 | snoc _ h1 h2 h3 h4 ih=>rw [run_snoc];exact ih.step h1 h2 h3 h4

theorem run_bound {hgt:Nat × Nat->Rat}{Q:Rat->Prop}(hQ:∀ x y,Q x->Q y->Q (x+y)){E:List Ed}(hE:∀ e∈E,Q e.c/\0<=e.c/\hgt e.s+e.c<=hgt e.t){T:Tb}
  (h0:∀ p v,T p=some v->Q v/\0<=v/\v<=hgt p):∀ p v,run T E p=some v->Q v/\0<=v/\v<=hgt p:=by
 induction E generalizing T with
 | nil=>exact h0
 | cons e E ih =>
  refine ih (fun x hx=>hE x (List.mem_cons_of_mem _ hx)) (T:=relax T e) (fun p v hp=>?_)
  by_cases ht:p=e.t
  ·subst ht
   unfold relax at hp
   cases hu:T e.s with
   | none=>rw [hu] at hp;exact h0 _ _ hp
   | some u =>
    rw [hu] at hp
    simp only at hp
    obtain ⟨w,hw,hle,_,hor⟩:=improve_same T e.t (u+e.c)
    rw [hw] at hp;cases hp
    obtain ⟨q1,q2,q3⟩:=hE e (List.mem_cons_self ..)
    obtain ⟨p1,p2,p3⟩:=h0 _ _ hu
    rcases hor with rfl | hor
    ·exact ⟨hQ _ _ p1 q1,by grind,by grind⟩
    ·exact h0 _ _ hor
  ·rw [bC ht] at hp;exact h0 _ _ hp
end Dp
end Go.Jog
namespace Go.Jog
namespace Dp

theorem Ord.of {r:Nat × Nat}{E:List Ed}(κ:Ed->Int)(hs:E.Pairwise fun x y=>κ x<=κ y)(h1:∀ x∈E,∀ y∈E,κ x<=κ y->x.s≠y.t)(hr:∀ x∈E,r≠x.t)
  (hp:∀ x∈E,x.s=r∨∃ y∈E,y.t=x.s/\κ y<κ x):Ord r E:=by
 have key:∀ k,Ord r (E.take k):=by
  intro k
  induction k with
  | zero=>rw [List.take_zero];exact .nil
  | succ k ih =>
   by_cases hk:k<E.length
   ·have he:E.take (k+1)=E.take k++[E[k]]:=by rw [List.take_add_one,List.getElem?_eq_getElem hk];rfl
    have hm:E[k]∈E:=List.getElem_mem hk
    rw [he]
    refine .snoc ih (fun x hx=>?_) (h1 _ hm _ hm (Int.le_refl _)) (hr _ hm) ?_
    ·obtain ⟨i,hi,rfl⟩:=List.mem_iff_getElem.1 hx
     rw [List.length_take] at hi
     rw [List.getElem_take]
     refine h1 _ (List.getElem_mem _) _ hm ?_
     exact List.pairwise_iff_getElem.1 hs i k om_ hk om_
    ·rcases hp _ hm with h | ⟨y,hy,hyt,hyk⟩
     ·exact .inl h
     ·refine .inr ⟨y, ?_,hyt⟩
      obtain ⟨i,hi,rfl⟩:=List.mem_iff_getElem.1 hy
      have hik:i<k:=by
       rcases Nat.lt_or_ge i k with h | h
       ·exact h
       ·rcases Nat.eq_or_lt_of_le h with h | h
        ·subst h;omega
        ·have:=List.pairwise_iff_getElem.1 hs k i hk hi h
         omega
      exact List.mem_iff_getElem.2 ⟨i,by rw [List.length_take];omega,by rw [List.getElem_take]⟩
   ·rw [List.take_of_length_le om_]
    rw [List.take_of_length_le om_] at ih
    exact ih
 have:=key E.length
 rwa [List.take_length] at this

structure Al where
 n:Nat
 m:Nat
 rl:Nat->Bool
 rr:Nat->Bool
 co:Nat->Nat->Nat->Rat

def nx (k i j:Nat):Nat × Nat:=if k=1 then (i+1,j+1) else if k=2∨k=4 then (i+1,j) else (i,j+1)
def Al.ok (A:Al)(k i j:Nat):Bool :=
 (k == 1 && decide (i<A.n) && decide (j<A.m)) || (k == 2 && decide (i<A.n)) || (k == 3 && decide (j<A.m)) || (k == 4 && decide (i<A.n) && A.rl i) || (k == 5 && decide (j<A.m) && A.rr j)
def Al.kinds (A:Al)(i j:Nat):List Nat:=[1,2,3,4,5].filter fun k=>A.ok k i j

theorem Al.mem_kinds {A:Al}{k i j:Nat}:k∈A.kinds i j ↔ A.ok k i j=true:=by
 unfold kinds
 rw [List.mem_filter]
 refine ⟨fun h=>h.2,fun h=>⟨?_,h⟩⟩
 unfold ok at h
 simp only [Bool.or_eq_true,Bool.and_eq_true,beq_iff_eq,decide_eq_true_eq] at h
 simp only [List.mem_cons,List.not_mem_nil,or_false]
 omega

theorem Al.ok_nx {A:Al}{k i j:Nat}(hi:i<=A.n)(hj:j<=A.m)(h:A.ok k i j=true):((nx k i j).1<=A.n/\(nx k i j).2<=A.m)/\(((nx k i j).1=i+1/\((nx k i j).2=j∨(nx k i j).2=j+1))∨((nx k i j).1=i/\(nx k i j).2=j+1)):=by
 unfold ok at h
 simp only [Bool.or_eq_true,Bool.and_eq_true,beq_iff_eq,decide_eq_true_eq] at h
 unfold nx
 rcases h with (((⟨⟨rfl,h1⟩,h2⟩ | ⟨rfl,h1⟩) | ⟨rfl,h1⟩) | ⟨⟨rfl,h1⟩,_⟩) | ⟨⟨rfl,h1⟩,_⟩ <;> simp <;> omega

def Al.cellF (A:Al)(i j:Nat):List Ed:=(A.kinds i j).map fun k=>⟨(i,j),nx k i j,A.co k i j⟩
def Al.rowF (A:Al)(i c:Nat):List Ed:=(List.range c).flatMap fun j=>A.cellF i j
def Al.allF (A:Al)(c:Nat):List Ed:=(List.range c).flatMap fun i=>A.rowF i (A.m+1)
def Al.cellB (A:Al)(i j:Nat):List Ed:=(A.kinds i j).map fun k=>⟨nx k i j,(i,j),A.co k i j⟩
def Al.rowB (A:Al)(i c:Nat):List Ed:=(List.range c).flatMap fun b=>A.cellB i (A.m-b)
def Al.allB (A:Al)(c:Nat):List Ed:=(List.range c).flatMap fun a=>A.rowB (A.n-a) (A.m+1)

theorem Al.rowF_succ (A:Al)(i c:Nat):A.rowF i (c+1)=A.rowF i c++A.cellF i c:=by unfold rowF;rw [List.range_succ,List.flatMap_append];simp
theorem Al.allF_succ (A:Al)(c:Nat):A.allF (c+1)=A.allF c++A.rowF c (A.m+1):=by unfold allF;rw [List.range_succ,List.flatMap_append];simp
theorem Al.rowB_succ (A:Al)(i c:Nat):A.rowB i (c+1)=A.rowB i c++A.cellB i (A.m-c):=by unfold rowB;rw [List.range_succ,List.flatMap_append];simp
theorem Al.allB_succ (A:Al)(c:Nat):A.allB (c+1)=A.allB c++A.rowB (A.n-c) (A.m+1):=by unfold allB;rw [List.range_succ,List.flatMap_append];simp

theorem Al.mem_allF {A:Al}{e:Ed}:e∈A.allF (A.n+1) ↔ ∃ i j k,i<=A.n/\j<=A.m/\A.ok k i j=true/\e=⟨(i,j),nx k i j,A.co k i j⟩:=by
 unfold allF rowF cellF
 simp only [List.mem_flatMap,List.mem_range,List.mem_map,Al.mem_kinds]
 constructor
 ·rintro ⟨i,hi,j,hj,k,hk,rfl⟩;exact ⟨i,j,k,by omega,by omega,hk,rfl⟩
 ·rintro ⟨i,j,k,hi,hj,hk,rfl⟩;exact ⟨i,by omega,j,by omega,k,hk,rfl⟩
theorem Al.mem_allB {A:Al}{e:Ed}:e∈A.allB (A.n+1) ↔ ∃ i j k,i<=A.n/\j<=A.m/\A.ok k i j=true/\e=⟨nx k i j,(i,j),A.co k i j⟩:=by
 unfold allB rowB cellB
 simp only [List.mem_flatMap,List.mem_range,List.mem_map,Al.mem_kinds]
 constructor
 ·rintro ⟨a,ha,b,hb,k,hk,rfl⟩;exact ⟨A.n-a,A.m-b,k,by omega,by omega,hk,rfl⟩
 ·rintro ⟨i,j,k,hi,hj,hk,rfl⟩
  exact ⟨A.n-i,by omega,A.m-j,by omega,k,by rwa [Nat.sub_sub_self hi,Nat.sub_sub_self hj],by rw [Nat.sub_sub_self hi,Nat.sub_sub_self hj]⟩

def rho (A:Al)(p:Nat × Nat):Int:=p.1*(A.m+1)+p.2
theorem rho_nx {A:Al}{k i j:Nat}(hi:i<=A.n)(hj:j<=A.m)(h:A.ok k i j=true):rho A (i,j)<rho A (nx k i j):=by
 obtain ⟨_,h2⟩:=Al.ok_nx hi hj h
 unfold rho
 rcases h2 with ⟨h3,h4⟩ | ⟨h3,h4⟩
 ·rw [h3]
  push_cast
  rcases h4 with h4 | h4 <;> rw [h4] <;> push_cast <;> grind
 ·rw [h3,h4];push_cast;omega

theorem Al.ordF (A:Al):Ord (0,0) (A.allF (A.n+1)):=by
 refine Ord.of (fun e=>rho A e.s) ?_ ?_ ?_ ?_
 ·unfold allF rowF cellF
  rw [List.pairwise_flatMap]
  refine ⟨fun i _=>?_, ?_⟩
  ·rw [List.pairwise_flatMap]
   refine ⟨fun j _=>?_, ?_⟩
   ·rw [List.pairwise_map]
    exact (List.pairwise_iff_getElem.2 fun _ _ _ _ _=>Int.le_refl _)
   ·refine List.pairwise_lt_range.imp fun {a b} hab=>?_
    intro x hx y hy
    simp only [List.mem_map] at hx hy
    obtain ⟨_,_,rfl⟩:=hx
    obtain ⟨_,_,rfl⟩:=hy
    unfold rho;push_cast;omega
  ·refine List.pairwise_lt_range.imp fun {a b} hab=>?_
   intro x hx y hy
   simp only [List.mem_flatMap,List.mem_map,List.mem_range] at hx hy
   obtain ⟨j,hj,_,_,rfl⟩:=hx
   obtain ⟨j',hj',_,_,rfl⟩:=hy
   unfold rho
   have:((a:Int)+1)*(A.m+1)<=b*(A.m+1):=Int.mul_le_mul_of_nonneg_right om_ om_
   grind
 ·intro x hx y hy hxy he
  obtain ⟨i,j,k,hi,hj,hk,rfl⟩:=Al.mem_allF.1 hx
  obtain ⟨i',j',k',hi',hj',hk',rfl⟩:=Al.mem_allF.1 hy
  have:=rho_nx hi' hj' hk'
  simp only at hxy he
  rw [he] at hxy
  omega
 ·intro x hx he
  obtain ⟨i,j,k,hi,hj,hk,rfl⟩:=Al.mem_allF.1 hx
  obtain ⟨_,h2⟩:=Al.ok_nx hi hj hk
  simp only at he
  rw [<- he] at h2
  simp at h2
 ·intro x hx
  obtain ⟨i,j,k,hi,hj,hk,rfl⟩:=Al.mem_allF.1 hx
  simp only
  rcases Nat.eq_zero_or_pos i with rfl | h0
  ·rcases Nat.eq_zero_or_pos j with rfl | h1
   ·exact .inl rfl
   ·have hok:A.ok 3 0 (j-1)=true:=by simp [ok];omega
    refine .inr ⟨_,Al.mem_allF.2 ⟨0,j-1,3,by omega,by omega,hok,rfl⟩, ?_, ?_⟩
    ·simp [nx];omega
    ·unfold rho;push_cast;omega
  ·have hok:A.ok 2 (i-1) j=true:=by simp [ok];omega
   have hlt:=rho_nx (A:=A) (k:=2) (i:=i-1) (j:=j) om_ hj hok
   have he:nx 2 (i-1) j=(i,j):=by simp [nx];omega
   rw [he] at hlt
   exact .inr ⟨_,Al.mem_allF.2 ⟨i-1,j,2,by omega,hj,hok,rfl⟩,he,hlt⟩

theorem Al.ordB (A:Al):Ord (A.n,A.m) (A.allB (A.n+1)):=by
 refine Ord.of (fun e=>- rho A e.t) ?_ ?_ ?_ ?_
 ·unfold allB rowB cellB
  rw [List.pairwise_flatMap]
  refine ⟨fun i _=>?_, ?_⟩
  ·rw [List.pairwise_flatMap]
   refine ⟨fun j _=>?_, ?_⟩
   ·rw [List.pairwise_map]
    exact (List.pairwise_iff_getElem.2 fun _ _ _ _ _=>Int.le_refl _)
   ·refine (List.pairwise_lt_range (n:=A.m+1)).imp fun {a b} hab=>?_
    intro x hx y hy
    simp only [List.mem_map] at hx hy
    obtain ⟨_,_,rfl⟩:=hx
    obtain ⟨_,_,rfl⟩:=hy
    unfold rho;push_cast;omega
  ·refine List.Pairwise.imp_of_mem (fun {a b} ha hb hab=>?_) (List.pairwise_lt_range (n:=A.n+1))
   rw [List.mem_range] at ha hb
   intro x hx y hy
   simp only [List.mem_flatMap,List.mem_map,List.mem_range] at hx hy
   obtain ⟨j,hj,_,_,rfl⟩:=hx
   obtain ⟨j',hj',_,_,rfl⟩:=hy
   unfold rho
   have:(((A.n-b:Nat):Int)+1)*(A.m+1)<=((A.n-a:Nat):Int)*(A.m+1):=Int.mul_le_mul_of_nonneg_right om_ om_
   have h1:((A.m-j':Nat):Int)<=A.m:=by omega
   have h2:(0:Int)<=((A.m-j:Nat):Int):=by omega
   simp only
   grind
 ·intro x hx y hy hxy he
  obtain ⟨i,j,k,hi,hj,hk,rfl⟩:=Al.mem_allB.1 hx
  obtain ⟨i',j',k',hi',hj',hk',rfl⟩:=Al.mem_allB.1 hy
  have:=rho_nx hi hj hk
  simp only at hxy he
  rw [<- he] at hxy
  omega
 ·intro x hx he
  obtain ⟨i,j,k,hi,hj,hk,rfl⟩:=Al.mem_allB.1 hx
  obtain ⟨h1,h2⟩:=Al.ok_nx hi hj hk
  simp only [Prod.mk.injEq] at he
  omega
 ·intro x hx
  obtain ⟨i,j,k,hi,hj,hk,rfl⟩:=Al.mem_allB.1 hx
  obtain ⟨⟨h1,h2⟩,_⟩:=Al.ok_nx hi hj hk
  have hlt:=rho_nx hi hj hk
  simp only
  obtain ⟨a,b⟩:∃ p:Nat × Nat,nx k i j=p:=⟨_,rfl⟩
  obtain ⟨a,b⟩:=a
  rw [b] at h1 h2 hlt ⊢
  rename_i bb
  simp only at h1 h2
  by_cases hn:a<A.n
  ·have hok:A.ok 2 a bb=true:=by simp [ok];omega
   exact .inr ⟨_,Al.mem_allB.2 ⟨a,bb,2,by omega,h2,hok,rfl⟩,rfl,by simp only;omega⟩
  ·by_cases hm:bb<A.m
   ·have hok:A.ok 3 a bb=true:=by simp [ok];omega
    exact .inr ⟨_,Al.mem_allB.2 ⟨a,bb,3,h1,by omega,hok,rfl⟩,rfl,by simp only;omega⟩
   ·exact .inl (by rw [show a=A.n by omega,show bb=A.m by omega])
end Dp
end Go.Jog
namespace Go.Jog
namespace Dp

def Al.t0F:Tb:=fun q=>if q=(0,0) then some 0 else none
def Al.t0B (A:Al):Tb:=fun q=>if q=(A.n,A.m) then some 0 else none
def Al.potT (A:Al):Tb:=run Al.t0F (A.allF (A.n+1))
def Al.restT (A:Al):Tb:=run A.t0B (A.allB (A.n+1))
def Al.pv (A:Al)(p:Nat × Nat):Rat:=(A.potT p).getD 0
def Al.rv (A:Al)(p:Nat × Nat):Rat:=(A.restT p).getD 0

theorem Al.doneF (A:Al):Done (0,0) (A.allF (A.n+1)) A.potT :=
 Ord.done (done_start (by simp [t0F]) fun p hp=>by simp [t0F,hp]) A.ordF
theorem Al.doneB (A:Al):Done (A.n,A.m) (A.allB (A.n+1)) A.restT :=
 Ord.done (done_start (by simp [t0B]) fun p hp=>by simp [t0B,hp]) A.ordB

theorem Al.ok2 {A:Al}{i j:Nat}(h:i<A.n):A.ok 2 i j=true:=by simp [ok,h]
theorem Al.ok3 {A:Al}{i j:Nat}(h:j<A.m):A.ok 3 i j=true:=by simp [ok,h]

theorem Al.pot_some {A:Al}{i j:Nat}(hi:i<=A.n)(hj:j<=A.m):A.potT (i,j)=some (A.pv (i,j)):=by
 have key:∃ v,A.potT (i,j)=some v:=by
  rcases Nat.eq_zero_or_pos i with rfl | h0
  ·rcases Nat.eq_zero_or_pos j with rfl | h1
   ·exact ⟨_,A.doneF.root⟩
   ·obtain ⟨_,v,_,hv,_⟩:=A.doneF.src _ (Al.mem_allF.2 ⟨0,j-1,3,by omega,by omega,Al.ok3 om_,rfl⟩)
    refine ⟨v, ?_⟩
    rw [<- hv];simp [nx,show j-1+1=j by omega]
  ·obtain ⟨_,v,_,hv,_⟩:=A.doneF.src _ (Al.mem_allF.2 ⟨i-1,j,2,by omega,by omega,Al.ok2 om_,rfl⟩)
   refine ⟨v, ?_⟩
   rw [<- hv];simp [nx,show i-1+1=i by omega]
 obtain ⟨v,hv⟩:=key
 unfold pv;rw [hv];rfl
theorem Al.rest_some {A:Al}{i j:Nat}(hi:i<=A.n)(hj:j<=A.m):A.restT (i,j)=some (A.rv (i,j)):=by
 have key:∃ v,A.restT (i,j)=some v:=by
  by_cases h0:i<A.n
  ·obtain ⟨_,v,_,hv,_⟩:=A.doneB.src _ (Al.mem_allB.2 ⟨i,j,2,by omega,by omega,Al.ok2 h0,rfl⟩)
   exact ⟨v,hv⟩
  ·by_cases h1:j<A.m
   ·obtain ⟨_,v,_,hv,_⟩:=A.doneB.src _ (Al.mem_allB.2 ⟨i,j,3,by omega,by omega,Al.ok3 h1,rfl⟩)
    exact ⟨v,hv⟩
   ·obtain rfl:i=A.n:=by omega
    obtain rfl:j=A.m:=by omega
    exact ⟨_,A.doneB.root⟩
 obtain ⟨v,hv⟩:=key
 unfold rv;rw [hv];rfl
theorem Al.pot_root (A:Al):A.pv (0,0)=0:=by unfold pv;rw [A.doneF.root];rfl
theorem Al.rest_root (A:Al):A.rv (A.n,A.m)=0:=by unfold rv;rw [A.doneB.root];rfl
theorem Al.pot_le {A:Al}{k i j:Nat}(hi:i<=A.n)(hj:j<=A.m)(h:A.ok k i j=true):A.pv (nx k i j)<=A.pv (i,j)+A.co k i j:=by
 obtain ⟨u,v,hu,hv,hle⟩:=A.doneF.src _ (Al.mem_allF.2 ⟨i,j,k,hi,hj,h,rfl⟩)
 unfold pv;rw [hu,hv];exact hle
theorem Al.rest_le {A:Al}{k i j:Nat}(hi:i<=A.n)(hj:j<=A.m)(h:A.ok k i j=true):A.rv (i,j)<=A.co k i j+A.rv (nx k i j):=by
 obtain ⟨u,v,hu,hv,hle⟩:=A.doneB.src _ (Al.mem_allB.2 ⟨i,j,k,hi,hj,h,rfl⟩)
 unfold rv;rw [hu,hv];rw [Rat.add_comm];exact hle
theorem Al.pot_att {A:Al}{i j:Nat}(hi:i<=A.n)(hj:j<=A.m)(h:(i,j)≠(0,0)):∃ k a b,a<=A.n/\b<=A.m/\A.ok k a b=true/\nx k a b=(i,j)/\A.pv (i,j)=A.pv (a,b)+A.co k a b:=by
 rcases A.doneF.att _ _ (Al.pot_some hi hj) with h1 | ⟨e,he,ht,u,hu,hv⟩
 ·exact absurd h1 h
 ·obtain ⟨a,b,k,ha,hb,hk,rfl⟩:=Al.mem_allF.1 he
  refine ⟨k,a,b,ha,hb,hk,ht, ?_⟩
  rw [hv]
  have:A.pv (a,b)=u:=by unfold pv;rw [hu];rfl
  rw [this]
theorem Al.rest_att {A:Al}{i j:Nat}(hi:i<=A.n)(hj:j<=A.m)(h:i<A.n∨j<A.m):∃ k,A.ok k i j=true/\A.rv (i,j)=A.co k i j+A.rv (nx k i j):=by
 rcases A.doneB.att _ _ (Al.rest_some hi hj) with h1 | ⟨e,he,ht,u,hu,hv⟩
 ·simp only [Prod.mk.injEq] at h1;omega
 ·obtain ⟨a,b,k,ha,hb,hk,rfl⟩:=Al.mem_allB.1 he
  simp only [Prod.mk.injEq] at ht
  obtain ⟨rfl,rfl⟩:=ht
  refine ⟨k,hk, ?_⟩
  rw [hv]
  have:A.rv (nx k a b)=u:=by unfold rv;rw [hu];rfl
  rw [this,Rat.add_comm]

theorem Al.pot_rest (A:Al):A.pv (A.n,A.m)=A.rv (0,0):=by
 have h1:∀ N i j,i<=A.n->j<=A.m->(A.n-i)+(A.m-j)<=N->A.pv (A.n,A.m)<=A.pv (i,j)+A.rv (i,j):=by
  intro N
  induction N with
  | zero =>
   intro i j hi hj hN
   obtain rfl:i=A.n:=by omega
   obtain rfl:j=A.m:=by omega
   rw [A.rest_root];grind
  | succ N ih =>
   intro i j hi hj hN
   by_cases h:i<A.n∨j<A.m
   ·obtain ⟨k,hk,hr⟩:=Al.rest_att hi hj h
    obtain ⟨⟨ha,hb⟩,hc⟩:=Al.ok_nx hi hj hk
    have h2:=Al.pot_le hi hj hk
    have h3:=ih (nx k i j).1 (nx k i j).2 ha hb om_
    grind
   ·obtain rfl:i=A.n:=by omega
    obtain rfl:j=A.m:=by omega
    rw [A.rest_root];grind
 have h2:∀ N i j,i<=A.n->j<=A.m->i+j<=N->A.rv (0,0)<=A.pv (i,j)+A.rv (i,j):=by
  intro N
  induction N with
  | zero =>
   intro i j hi hj hN
   obtain rfl:i=0:=by omega
   obtain rfl:j=0:=by omega
   rw [A.pot_root];grind
  | succ N ih =>
   intro i j hi hj hN
   by_cases h:(i,j)=(0,0)
   ·simp only [Prod.mk.injEq] at h
    obtain ⟨rfl,rfl⟩:=h
    rw [A.pot_root];grind
   ·obtain ⟨k,a,b,ha,hb,hk,hn,hp⟩:=Al.pot_att hi hj h
    obtain ⟨_,hc⟩:=Al.ok_nx ha hb hk
    have h2:=Al.rest_le ha hb hk
    rw [hn] at h2 hc
    have h3:=ih a b ha hb (by simp only at hc;omega)
    grind
 have a1:=h1 _ 0 0 (Nat.zero_le _) (Nat.zero_le _) (Nat.le_refl _)
 have a2:=h2 _ A.n A.m (Nat.le_refl _) (Nat.le_refl _) (Nat.le_refl _)
 rw [A.pot_root] at a1
 rw [A.rest_root] at a2
 grind

/-! ### The best way -/
def Al.good (A:Al)(i j:Nat):List Nat:=(A.kinds i j).filter fun k=>decide (A.co k i j+A.rv (nx k i j)=A.rv (i,j))
def Al.way (A:Al):Nat->Nat->Nat->List (Nat × Nat × Nat)
 | 0,_,_=>[]
 | f+1,i,j=>match A.good i j with
  | []=>[]
  | k::_=>(k,i,j)::A.way f (nx k i j).1 (nx k i j).2
def Al.totF (A:Al)(s:Rat)(i j:Nat):List (Nat × Nat × Nat)->Option Rat
 | []=>if i=A.n/\j=A.m then some s else none
 | (k,a,b)::l=>if a=i/\b=j/\A.ok k i j=true then A.totF (s+A.co k i j) (nx k i j).1 (nx k i j).2 l else none

theorem Al.good_ok {A:Al}{i j k:Nat}(h:k∈A.good i j):A.ok k i j=true/\A.co k i j+A.rv (nx k i j)=A.rv (i,j):=by
 unfold good at h
 rw [List.mem_filter,Al.mem_kinds,decide_eq_true_eq] at h
 exact h
theorem Al.good_ne {A:Al}{i j:Nat}(hi:i<=A.n)(hj:j<=A.m)(h:i<A.n∨j<A.m):A.good i j≠[]:=by
 obtain ⟨k,hk,hr⟩:=Al.rest_att hi hj h
 intro he
 have:k∈A.good i j:=by unfold good;rw [List.mem_filter,Al.mem_kinds,decide_eq_true_eq];exact ⟨hk,hr.symm⟩
 rw [he] at this;cases this
theorem Al.good_end (A:Al):A.good A.n A.m=[]:=by
 cases h:A.good A.n A.m with
 | nil=>rfl
 | cons k l =>
  have:=(Al.good_ok (A:=A) (i:=A.n) (j:=A.m) (k:=k) (by rw [h];exact List.mem_cons_self ..)).1
  obtain ⟨h1,h2⟩:=Al.ok_nx (Nat.le_refl _) (Nat.le_refl _) this
  omega

theorem Al.tot_way {A:Al}:∀ f s i j,i<=A.n->j<=A.m->(A.n-i)+(A.m-j)<=f->A.totF s i j (A.way f i j)=some (s+A.rv (i,j))
 | 0,s,i,j,hi,hj,hf=>by
  obtain rfl:i=A.n:=by omega
  obtain rfl:j=A.m:=by omega
  simp only [way,totF,and_self,if_true]
  rw [A.rest_root];congr 1;grind
 | f+1,s,i,j,hi,hj,hf=>by
  unfold way
  cases h:A.good i j with
  | nil =>
   have h0:¬ (i<A.n∨j<A.m):=fun hh=>Al.good_ne hi hj hh h
   obtain rfl:i=A.n:=by omega
   obtain rfl:j=A.m:=by omega
   simp only [totF,and_self,if_true]
   rw [A.rest_root];congr 1;grind
  | cons k l =>
   obtain ⟨h1,h2⟩:=Al.good_ok (A:=A) (i:=i) (j:=j) (k:=k) (by rw [h];exact List.mem_cons_self ..)
   obtain ⟨⟨ha,hb⟩,hc⟩:=Al.ok_nx hi hj h1
   simp only [totF,true_and]
   rw [if_pos h1,Al.tot_way f _ _ _ ha hb om_]
   congr 1
   grind
theorem Al.way_len {A:Al}:∀ f i j,(A.way f i j).length<=f
 | 0,_,_=>by simp [way]
 | f+1,i,j=>by
  unfold way
  split
  ·simp
  ·simp only [List.length_cons];have:=Al.way_len (A:=A) f;exact Nat.succ_le_succ (this _ _)

/-! ### What verifies -/
def atP (P:List (List (Option Rat)))(p:Nat × Nat):Option Rat:=((P[p.1]?.getD [])[p.2]?).getD none
def valP (P:List (List (Option Rat)))(p:Nat × Nat):Rat:=(atP P p).getD 0
def Al.fallsB (A:Al)(P:List (List (Option Rat))):Bool :=
 (List.range (A.n+1)).all fun i=>(List.range (A.m+1)).all fun j=>(A.kinds i j).all fun k=>decide (valP P (nx k i j)<=valP P (i,j)+A.co k i j)
def Al.verB (A:Al)(st:List (Nat × Nat × Nat))(t:Option Rat)(P:List (List (Option Rat))):Bool :=
 match A.totF 0 0 0 st with
 | none=>false
 | some s=>decide (P.length=A.n+1) && P.all (fun l=>decide (l.length=A.m+1)) && P.all (fun l=>l.all Option.isSome) && decide (atP P (0,0)=some 0) && decide (t=some s) && decide (atP P (A.n,A.m)=t) && A.fallsB P
def Al.tabP (A:Al):List (List (Option Rat)):=(List.range (A.n+1)).map fun i=>(List.range (A.m+1)).map fun j=>A.potT (i,j)

theorem Al.at_tabP {A:Al}{i j:Nat}(hi:i<=A.n)(hj:j<=A.m):atP A.tabP (i,j)=some (A.pv (i,j)):=by
 unfold atP tabP
 simp only [List.getElem?_map,List.getElem?_range (show i<A.n+1 by omega),Option.map_some,Option.getD_some,List.getElem?_range (show j<A.m+1 by omega)]
 exact Al.pot_some hi hj

theorem Al.ver_given (A:Al):A.verB (A.way (A.n+A.m) 0 0) (some (A.rv (0,0))) A.tabP=true:=by
 unfold verB
 rw [Al.tot_way _ _ _ _ (Nat.zero_le _) (Nat.zero_le _) om_]
 have hz:(0:Rat)+A.rv (0,0)=A.rv (0,0):=by grind
 simp only [hz,Bool.and_eq_true,decide_eq_true_eq,List.all_eq_true]
 refine ⟨⟨⟨⟨⟨⟨by simp [tabP], ?_⟩, ?_⟩, ?_⟩,trivial⟩, ?_⟩, ?_⟩
 ·intro l hl
  unfold tabP at hl
  rw [List.mem_map] at hl
  obtain ⟨i,_,rfl⟩:=hl
  simp
 ·intro l hl x hx
  unfold tabP at hl
  rw [List.mem_map] at hl
  obtain ⟨i,hi,rfl⟩:=hl
  rw [List.mem_map] at hx
  obtain ⟨j,hj,rfl⟩:=hx
  rw [List.mem_range] at hi hj
  rw [Al.pot_some om_ om_];rfl
 ·rw [Al.at_tabP (Nat.zero_le _) (Nat.zero_le _),A.pot_root]
 ·rw [Al.at_tabP (Nat.le_refl _) (Nat.le_refl _),A.pot_rest]
 ·unfold fallsB
  simp only [List.all_eq_true,decide_eq_true_eq,List.mem_range]
  intro i hi j hj k hk
  rw [Al.mem_kinds] at hk
  obtain ⟨⟨ha,hb⟩,_⟩:=Al.ok_nx (A:=A) (show i<=A.n by omega) (show j<=A.m by omega) hk
  unfold valP
  rw [Al.at_tabP (show i<=A.n by omega) (show j<=A.m by omega),Al.at_tabP (i:=(nx k i j).1) ha hb]
  exact Al.pot_le om_ om_ hk
end Dp
end Go.Jog
namespace Go.Jog
namespace Dp

def Qu (x:Rat):Prop:=∃ z:Int,x=mkRat z 4
theorem Qu.mk (z:Int):Qu (mkRat z 4):=⟨z,rfl⟩
theorem mk4 (z:Int):mkRat z 4=(z:Rat) / 4:=by rw [Rat.mkRat_eq_div];rfl
theorem Qu.add {x y:Rat}(hx:Qu x)(hy:Qu y):Qu (x+y):=by
 obtain ⟨a,rfl⟩:=hx;obtain ⟨b,rfl⟩:=hy
 refine ⟨a+b, ?_⟩
 rw [mk4,mk4,mk4,Rat.intCast_add];grind
theorem Qu.qb {x:Rat}(h:Qu x)(h0:0<=x)(h1:x<=100000):QB 1 x:=by
 obtain ⟨z,rfl⟩:=h
 rw [mk4] at h0 h1
 have hz0:(0:Rat)<=(z:Rat):=by grind
 have hz1:(z:Rat)<=((400000:Int):Rat):=by
  have:((400000:Int):Rat)=400000:=rfl
  rw [this];grind
 have hz0':(0:Int)<=z:=by
  have:((0:Int):Rat)<=(z:Rat):=hz0
  exact Rat.intCast_le_intCast.1 this
 have hz1':z<=400000:=Rat.intCast_le_intCast.1 hz1
 exact mk_bound (by decide) (by rw [Nat.pow_one];show _<1000000000;omega) (by decide)

structure Al.Small (A:Al):Prop where
 q:∀ {k i j},A.ok k i j=true->Qu (A.co k i j)/\0<=A.co k i j/\A.co k i j<=100
 n:A.n<=8
 m:A.m<=8

theorem dp {a b:Nat}(h:a<=b):(a:Rat)<=(b:Rat):=by
 have:((a:Int):Rat)<=((b:Int):Rat):=Rat.intCast_le_intCast.2 om_
 exact this

def hgtF (p:Nat × Nat):Rat:=100*((p.1+p.2:Nat):Rat)
def Al.hgtB (A:Al)(p:Nat × Nat):Rat:=100*(((A.n-p.1)+(A.m-p.2):Nat):Rat)

theorem Al.boundF {A:Al}(h:A.Small){E:List Ed}(hE:∀ e∈E,e∈A.allF (A.n+1)){p:Nat × Nat}{v:Rat}(hv:run Al.t0F E p=some v):Qu v/\0<=v/\v<=hgtF p:=by
 refine run_bound (hgt:=hgtF) (Q:=Qu) (fun x y=>Qu.add) (fun e he=>?_) (fun p v hp=>?_) p v hv
 ·obtain ⟨i,j,k,hi,hj,hk,rfl⟩:=Al.mem_allF.1 (hE e he)
  obtain ⟨h1,h2,h3⟩:=h.q hk
  refine ⟨h1,h2, ?_⟩
  obtain ⟨_,hc⟩:=Al.ok_nx hi hj hk
  unfold hgtF
  have h4:((i+j+1:Nat):Rat)<=(((nx k i j).1+(nx k i j).2:Nat):Rat):=dp om_
  have h5:((i+j+1:Nat):Rat)=((i+j:Nat):Rat)+1:=by rw [Rat.natCast_add (i+j) 1];rfl
  simp only
  grind
 ·unfold t0F at hp
  split at hp
  ·cases hp;subst p
   refine ⟨⟨0,by decide⟩,by decide,by decide +kernel⟩
  ·cases hp
theorem Al.boundB {A:Al}(h:A.Small){E:List Ed}(hE:∀ e∈E,e∈A.allB (A.n+1)){p:Nat × Nat}{v:Rat}(hv:run A.t0B E p=some v):Qu v/\0<=v/\v<=A.hgtB p:=by
 refine run_bound (hgt:=A.hgtB) (Q:=Qu) (fun x y=>Qu.add) (fun e he=>?_) (fun p v hp=>?_) p v hv
 ·obtain ⟨i,j,k,hi,hj,hk,rfl⟩:=Al.mem_allB.1 (hE e he)
  obtain ⟨h1,h2,h3⟩:=h.q hk
  refine ⟨h1,h2, ?_⟩
  obtain ⟨⟨ha,hb⟩,hc⟩:=Al.ok_nx hi hj hk
  unfold hgtB
  simp only
  have h4:(((A.n-(nx k i j).1)+(A.m-(nx k i j).2)+1:Nat):Rat)<=(((A.n-i)+(A.m-j):Nat):Rat):=dp om_
  have h5:(((A.n-(nx k i j).1)+(A.m-(nx k i j).2)+1:Nat):Rat)=(((A.n-(nx k i j).1)+(A.m-(nx k i j).2):Nat):Rat)+1:=by rw [Rat.natCast_add _ 1];rfl
  grind
 ·unfold t0B at hp
  split at hp
  ·rename_i he
   cases hp;subst he
   refine ⟨⟨0,by decide⟩,by decide, ?_⟩
   unfold hgtB
   simp only [Nat.sub_self]
   decide +kernel
  ·cases hp
theorem Al.qbF {A:Al}(h:A.Small){E:List Ed}(hE:∀ e∈E,e∈A.allF (A.n+1)){p:Nat × Nat}{v:Rat}(hi:p.1<=A.n)(hj:p.2<=A.m)(hv:run Al.t0F E p=some v):Qu v/\0<=v/\v<=1600:=by
 obtain ⟨h1,h2,h3⟩:=Al.boundF h hE hv
 refine ⟨h1,h2,Rat.le_trans h3 ?_⟩
 unfold hgtF
 have:((p.1+p.2:Nat):Rat)<=((16:Nat):Rat):=dp (by have:=h.n;have:=h.m;omega)
 have e:((16:Nat):Rat)=16:=rfl
 rw [e] at this
 grind
theorem Al.qbB {A:Al}(h:A.Small){E:List Ed}(hE:∀ e∈E,e∈A.allB (A.n+1)){p:Nat × Nat}{v:Rat}(hv:run A.t0B E p=some v):Qu v/\0<=v/\v<=1600:=by
 obtain ⟨h1,h2,h3⟩:=Al.boundB h hE hv
 refine ⟨h1,h2,Rat.le_trans h3 ?_⟩
 unfold hgtB
 have:(((A.n-p.1)+(A.m-p.2):Nat):Rat)<=((16:Nat):Rat):=dp (by have:=h.n;have:=h.m;omega)
 have e:((16:Nat):Rat)=16:=rfl
 rw [e] at this
 grind
theorem Al.qb_pv {A:Al}(h:A.Small){i j:Nat}(hi:i<=A.n)(hj:j<=A.m):Qu (A.pv (i,j))/\0<=A.pv (i,j)/\A.pv (i,j)<=1600:=Al.qbF h (fun _ he=>he) hi hj (Al.pot_some hi hj)
theorem Al.qb_rv {A:Al}(h:A.Small){i j:Nat}(hi:i<=A.n)(hj:j<=A.m):Qu (A.rv (i,j))/\0<=A.rv (i,j)/\A.rv (i,j)<=1600:=Al.qbB h (fun _ he=>he) (Al.rest_some hi hj)
end Dp
end Go.Jog
namespace Go.Jog
namespace Dp

structure Iv where
 u:List UInt8
 a:Rat
 b:Rat
def Iv.thick (x:Iv):Rat:=x.b-x.a
def absQ (x:Rat):Rat:=if 0<=x then x else -x
structure Qn where
 l:List Iv
 r:List Iv
 c0:Rat
 c1:Rat
 c2:Rat
 c3:Rat
def ivAt (l:List Iv)(i:Nat):Iv:=l.getD i ⟨[],0,0⟩
theorem db {l:List Iv}{i:Nat}{x:Iv}(h:l[i]?=some x):ivAt l i=x:=by unfold ivAt;rw [List.getD_eq_getElem?_getD,h];rfl
def repB (l:List Iv)(i:Nat):Bool:=decide (0<i) && decide ((ivAt l (i-1)).u=(ivAt l i).u)
def Qn.cost (q:Qn)(k i j:Nat):Rat :=
 if k=1 then q.c0*absQ ((ivAt q.l i).thick-(ivAt q.r j).thick)+(if (ivAt q.l i).u=(ivAt q.r j).u then 0 else q.c1*((ivAt q.l i).thick+(ivAt q.r j).thick))
 else if k=2 then q.c2*(ivAt q.l i).thick else if k=3 then q.c2*(ivAt q.r j).thick else if k=4 then q.c3*(ivAt q.l i).thick else q.c3*(ivAt q.r j).thick
def Qn.al (q:Qn):Al:=⟨q.l.length,q.r.length,repB q.l,repB q.r,q.cost⟩

def Hf (x:Rat):Prop:=∃ z:Int,x=mkRat z 2
theorem mk2 (z:Int):mkRat z 2=(z:Rat) / 2:=by rw [Rat.mkRat_eq_div];rfl
theorem Hf.add {x y:Rat}(hx:Hf x)(hy:Hf y):Hf (x+y):=by
 obtain ⟨a,rfl⟩:=hx;obtain ⟨b,rfl⟩:=hy
 exact ⟨a+b,by rw [mk2,mk2,mk2,Rat.intCast_add];grind⟩
theorem Hf.sub {x y:Rat}(hx:Hf x)(hy:Hf y):Hf (x-y):=by
 obtain ⟨a,rfl⟩:=hx;obtain ⟨b,rfl⟩:=hy
 exact ⟨a-b,by rw [mk2,mk2,mk2,Rat.intCast_sub];grind⟩
theorem Hf.neg {x:Rat}(hx:Hf x):Hf (-x):=by
 obtain ⟨a,rfl⟩:=hx
 exact ⟨-a,by rw [mk2,mk2,Rat.intCast_neg];grind⟩
theorem Hf.mul {x y:Rat}(hx:Hf x)(hy:Hf y):Qu (x*y):=by
 obtain ⟨a,rfl⟩:=hx;obtain ⟨b,rfl⟩:=hy
 exact ⟨a*b,by rw [mk2,mk2,mk4,Rat.intCast_mul];grind⟩
theorem Hf.qu {x:Rat}(hx:Hf x):Qu x:=by
 obtain ⟨a,rfl⟩:=hx
 exact ⟨2*a,by rw [mk2,mk4,Rat.intCast_mul];have:((2:Int):Rat)=2:=rfl;rw [this];grind⟩
theorem Qu.neg {x:Rat}(hx:Qu x):Qu (-x):=by
 obtain ⟨a,rfl⟩:=hx
 exact ⟨-a,by rw [mk4,mk4,Rat.intCast_neg];grind⟩
theorem QB_neg1 {x:Rat}(h:QB 1 (-x)):QB 1 x:=by
 refine ⟨?_, ?_⟩
 ·have h1:(-x.num).natAbs<B9 ^ 1:=h.1
  rwa [Int.natAbs_neg] at h1
 ·exact h.2
theorem Qu.qb2 {x:Rat}(h:Qu x)(h0:-100000<=x)(h1:x<=100000):QB 1 x:=by
 by_cases hx:0<=x
 ·exact h.qb hx h1
 ·exact QB_neg1 (h.neg.qb (by grind) (by grind))
theorem abs_cases (x:Rat):(0<=x/\absQ x=x)∨(x<0/\absQ x=-x):=by
 unfold absQ
 by_cases h:0<=x
 ·exact .inl ⟨h,if_pos h⟩
 ·have h2:x<0:=by grind
  exact .inr ⟨h2,if_neg h⟩

structure Iv.Ok (x:Iv):Prop where
 ha:Hf x.a
 hb:Hf x.b
 a0:0<=x.a
 ab:x.a<x.b
 t:x.b<=x.a+3
 a1:x.a<=1000
structure Cost (c:Rat):Prop where
 h:Hf c
 p:0<=c
 m:c<=3
structure Qn.Ok (q:Qn):Prop where
 l:∀ x∈q.l,x.Ok
 r:∀ x∈q.r,x.Ok
 ln:q.l.length<=8
 rn:q.r.length<=8
 c0:Cost q.c0
 c1:Cost q.c1
 c2:Cost q.c2
 c3:Cost q.c3
theorem Iv.Ok.th {x:Iv}(h:x.Ok):Hf x.thick/\0<x.thick/\x.thick<=3:=⟨h.hb.sub h.ha,by have:=h.ab;unfold thick;grind,by have:=h.t;unfold thick;grind⟩
theorem Iv.Ok.qa {x:Iv}(h:x.Ok):QB 1 x.a:=h.ha.qu.qb2 (by have:=h.a0;grind) (by have:=h.a1;grind)
theorem Iv.Ok.qb {x:Iv}(h:x.Ok):QB 1 x.b:=h.hb.qu.qb2 (by have:=h.a0;have:=h.ab;grind) (by have:=h.a1;have:=h.t;grind)
theorem Cost.qb {c:Rat}(h:Cost c):QB 1 c:=h.h.qu.qb2 (by have:=h.p;grind) (by have:=h.m;grind)
theorem Iv.Ok.qt {x:Iv}(h:x.Ok):QB 1 x.thick:=h.th.1.qu.qb2 (by have:=h.th.2.1;grind) (by have:=h.th.2.2;grind)

theorem eu {c t:Rat}(hc:Cost c)(ht:Hf t)(h0:0<=t)(h1:t<=6):Qu (c*t)/\0<=c*t/\c*t<=18:=by
 refine ⟨hc.h.mul ht,Rat.mul_nonneg hc.p h0, ?_⟩
 have a1:c*t<=3*t:=Rat.mul_le_mul_of_nonneg_right hc.m h0
 grind
theorem abs_hf {x:Rat}(h:Hf x):Hf (absQ x):=by
 rcases abs_cases x with ⟨_,e⟩ | ⟨_,e⟩ <;> rw [e]
 ·exact h
 ·exact h.neg
theorem abs_le3 {s t:Rat}(h1:0<s/\s<=3)(h2:0<t/\t<=3):0<=absQ (s-t)/\absQ (s-t)<=3:=by
 rcases abs_cases (s-t) with ⟨_,e⟩ | ⟨_,e⟩ <;> rw [e] <;> exact ⟨by grind,by grind⟩

theorem Qn.Ok.small {q:Qn}(h:q.Ok):q.al.Small:=by
 refine ⟨fun {k i j} hk=>?_,h.ln,h.rn⟩
 have hl:i<q.l.length->(ivAt q.l i).Ok:=fun hi=>by
  rw [db (List.getElem?_eq_getElem hi)];exact h.l _ (List.getElem_mem hi)
 have hr:j<q.r.length->(ivAt q.r j).Ok:=fun hj=>by
  rw [db (List.getElem?_eq_getElem hj)];exact h.r _ (List.getElem_mem hj)
 have fin:∀ {x:Rat},Qu x/\0<=x/\x<=18->Qu x/\0<=x/\x<=100:=fun hx=>⟨hx.1,hx.2.1,by have:=hx.2.2;grind⟩
 have one:∀ {c:Rat}{x:Iv},Cost c->x.Ok->Qu (c*x.thick)/\0<=c*x.thick/\c*x.thick<=100:=fun hc hx =>
  fin (eu hc hx.th.1 (Rat.le_of_lt hx.th.2.1) (by have:=hx.th.2.2;grind))
 unfold Al.ok Qn.al at hk
 simp only [Bool.or_eq_true,Bool.and_eq_true,beq_iff_eq,decide_eq_true_eq] at hk
 show Qu (q.cost k i j)/\0<=q.cost k i j/\q.cost k i j<=100
 unfold Qn.cost
 rcases hk with (((⟨⟨rfl,h1⟩,h2⟩ | ⟨rfl,h1⟩) | ⟨rfl,h1⟩) | ⟨⟨rfl,h1⟩,_⟩) | ⟨⟨rfl,h1⟩,_⟩
 ·rw [if_pos rfl]
  have a:=(hl h1).th
  have b:=(hr h2).th
  have d:=abs_le3 a.2 b.2
  have m1:=eu h.c0 (abs_hf (a.1.sub b.1)) d.1 (by have:=d.2;grind)
  have m2:=eu h.c1 (a.1.add b.1) (by have:=a.2.1;have:=b.2.1;grind) (by have:=a.2.2;have:=b.2.2;grind)
  split
  ·rw [Rat.add_zero];exact fin m1
  ·exact ⟨m1.1.add m2.1,by have:=m1.2.1;have:=m2.2.1;grind,by have:=m1.2.2;have:=m2.2.2;grind⟩
 ·rw [if_neg (by decide),if_pos rfl];exact one h.c2 (hl h1)
 ·rw [if_neg (by decide),if_neg (by decide),if_pos rfl];exact one h.c2 (hr h1)
 ·rw [if_neg (by decide),if_neg (by decide),if_neg (by decide),if_pos rfl];exact one h.c3 (hl h1)
 ·rw [if_neg (by decide),if_neg (by decide),if_neg (by decide),if_neg (by decide)];exact one h.c3 (hr h1)
end Dp
end Go.Jog
namespace Go.Jog
open Go

theorem St.arrObj {w0:World}{C0:Mem}{L0:List Ent}{C:Mem}{L:List Ent}{w:World}{b e s m cap:Nat}{xs:List Value}(h:St w0 C0 L0 C (.arr (.slice (some ⟨b,0,none⟩) m cap) e s m xs::L) w) :
  ∃ cs:List Value,cs.length=cap*s/\cs.take (m*s)=xs/\m<=cap/\cap<=maxLen/\St w0 C0 L0 C (.obj b (.cells ⟨cs⟩ e (0,0))::L) w:=by
 have hown:w.ownsRow 0 e s (.slice (some ⟨b,0,none⟩) m cap) m xs:=h.sep.e _ (List.mem_cons_self ..)
 obtain ⟨_,hlm,hcm,cur,hb,hcs,htake⟩:=bM hown
 have hd:=List.pairwise_cons.1 h.sep.d
 have ho:∀ k,(Ent.obj b (.cells ⟨cur.toList⟩ e (0,0))).own k->(Ent.arr (.slice (some ⟨b,0,none⟩) m cap) e s m xs).own k:=fun k hk=>by
  simp only [Ent.own] at hk;subst hk;rfl
 refine ⟨cur.toList,by simpa using hcs,htake,hlm,hcm,⟨⟨h.sep.c,fun x hx'=>?_,List.pairwise_cons.2 ⟨fun y hy k hk=>hd.1 y hy k (ho k hk),hd.2⟩,fun k ⟨x,hx',hk⟩=>?_⟩,h.ev,h.c0,h.cn,fun k ⟨x,hx',hk⟩=>?_⟩⟩
 ·rcases List.mem_cons.1 hx' with rfl | hx'
  ·exact hb
  ·exact h.sep.e x (by simp [hx'])
 ·rcases List.mem_cons.1 hx' with rfl | hx'
  ·exact h.sep.n k ⟨_,List.mem_cons_self ..,ho k hk⟩
  ·exact h.sep.n k ⟨x,by simp [hx'],hk⟩
 ·rcases List.mem_cons.1 hx' with rfl | hx'
  ·exact h.ln k ⟨_,List.mem_cons_self ..,ho k hk⟩
  ·exact h.ln k ⟨x,by simp [hx'],hk⟩
end Go.Jog
namespace Go.Jog
open Go Go.MapKept

section
variable {cx:Cx} {n:Nat} {ds:List (Option Nat)} {R:Rg n ds} {its:List It} {fr:Fr} {C:Mem} {L:List Ent} {i k d:Nat} {o:Oper} {g:GL} {v:Value}
variable {kd:TypeDesc} {κ:Type} [DecidableEq κ] (K:KeyT kd κ)

end
end Go.Jog
namespace Go.Jog
open Go Go.MapKept

structure KeyP (P:Program)(kt:TypeId)(κ:Type)[DecidableEq κ] where
 enc:κ->Value
 check:∀ a em w,(Instr.checkKey em 10000 kt (enc a)).run P w=.ok () w
 ask:∀ x es w,(Instr.findKey kt x es).run P w=(Instr.findAsking kt x es).run P w
 same:∀ a b w,(Op.equal kt (enc a) (enc b)).run P w=.ok (decide (a=b)) w
 stays:∀ a w,(Instr.keyThatStays (enc a) (enc a)).run P w=.ok (enc a) w
section
variable {κ:Type} [DecidableEq κ] {enc:κ->Value}
end
section
variable {P:Program} {kt:TypeId} {κ:Type} [DecidableEq κ] (K:KeyP P kt κ)
end
section
variable {cx:Cx} {n:Nat} {ds:List (Option Nat)} {R:Rg n ds} {its:List It} {fr:Fr} {C:Mem} {L:List Ent} {i k d:Nat} {o:Oper} {g:GL} {v:Value}
variable {κ:Type} [DecidableEq κ]
end
end Go.Jog
namespace Go.Jog
open Go Go.MapKept

section
variable {cx:Cx} {n:Nat} {ds:List (Option Nat)} {R:Rg n ds} {its:List It} {fr:Fr} {C:Mem} {L:List Ent} {i k d:Nat} {o:Oper} {g:GL} {v:Value}
variable {κ:Type} (enc:κ->Value)

end
end Go.Jog
namespace Go.Jog
open Go Go.MapKept

section
variable {cx:Cx} {n:Nat} {ds:List (Option Nat)} {R:Rg n ds} {its:List It} {fr:Fr} {C:Mem} {L:List Ent} {i k d:Nat} {o:Oper} {g:GL} {v:Value}
variable {κ:Type} (enc:κ->Value)

end
end Go.Jog
namespace Go.Jog
open Go Go.MapKept

section
variable {cx:Cx} {n:Nat} {ds:List (Option Nat)} {R:Rg n ds} {its:List It} {fr:Fr} {C:Mem} {L:List Ent} {i k d:Nat} {o:Oper} {g:GL} {v:Value} {κ:Type} [DecidableEq κ]
end
end Go.Jog
namespace Go.Jog
open Go Go.MapKept

section
variable {κ β:Type} [DecidableEq κ]
end
theorem PtrTo.blockT {C:Mem}{b:Nat}{cs:List Value}{t:TypeId}{fz:Nat × Nat}(h:C b=some (.cells ⟨cs⟩ t fz))(off n:Nat):PtrTo C (.pointer (some ⟨b,off,none⟩)) ((cs.drop off).take n) :=
 let ⟨a,h1,h2,h3⟩:=PtrTo.block h off
 ⟨a,h1,h2,fun j v hj=>h3 j v (by
  rw [List.getElem?_take] at hj
  split at hj
  ·exact hj
  ·cases hj)⟩
theorem bkT {C D:Mem}{b:Nat}{cs:List Value}{t:TypeId}{fz:Nat × Nat}(h:C b=some (.cells ⟨cs⟩ t fz))(n:Nat){off:Nat}(hl:C.le D:=by (repeat (first | exact Mem.le.refl _ | assumption | (apply Mem.le.trans;rotate_left;assumption)))):PtrTo D (.pointer (some ⟨b,off,none⟩)) ((cs.drop off).take n):=PtrTo.blockT (Mem.get h hl) off n
section
variable {F:Fx} {k:List KI} {fr:Fr} {C:Mem} {L:List Ent}
end
end Go.Jog
namespace Go.Proofs.YtjhmlnebikbdbaaGreatDoor
open Go Go.Jog Go.Jog.Dp
set_option maxRecDepth 100000

def ivC (x:Iv):List Value:=[strV x.u,strV (qtx x.a),strV (qtx x.b)]
def stepC (k i j:Nat):List Value:=[.int .i64 k,.int .i64 i,.int .i64 j]
def stepV (k i j:Nat):Value:=.agg ⟨stepC k i j⟩
theorem dD (C:Mem)(hT:Tabs C)(x:Iv)(h:x.Ok):Gives cx.P 124 [.agg ⟨ivC x⟩] C (strV (qtx x.thick)):=by
 refine Fn.it kr_ Tryz.func124 8 fun w0=>?_
 refine G.rg fun R hR=>?_
 refine D.aM (fun b1=>?_)
 refine D.q1 1 1 hR ?_
 refine G.freeze 0 rfl (fun C1 hle1 hb1=>?_)
 refine G.rp 1 fun R hR=>?_
 refine D.aa (bkT hb1 1) ?_
 refine D.ae ?_
 refine D.aa (bkT hb1 1) ?_
 refine D.au (rsub_fn _ (hT.mono mup) x.b x.a 1 (by decide) (by decide) h.qb h.qa) rfl rfl rfl rfl rfl rfl rfl fl_ ?_
 refine D.q1 1 2 hR ?_
 refine G.rf ?_
 exact ⟨rfl,rfl⟩
theorem next_fn (C:Mem)(k i j:Nat)(hi:i<=1000)(hj:j<=1000):Gives cx.P 26 [stepV k i j] C (.tuple #[.int .i64 ((nx k i j).1:Nat),.int .i64 ((nx k i j).2:Nat)]):=by
 refine Fn.it kr_ Tryz.func26 27 fun w0=>?_
 refine G.rg fun R hR=>?_
 refine D.aM (fun b1=>?_)
 refine D.q1 2 1 hR ?_
 refine G.freeze 0 rfl (fun C1 hle1 hb1=>?_)
 refine G.rp 1 fun R hR=>?_
 refine D.aa (bkT hb1 1) ?_
 refine D.e2 1 5 hR ?_
 refine G.z3 2 1 5 6 ?_
 refine G.cd (fun h6=>?_) fun h6=>?_
 ·obtain rfl:k=1:=by have:=of_decide_eq_true h6;omega
  refine G.aI [0,1,2,3,4,5,6,7] [] rfl kr_ (fun R hB hR=>?_)
  refine D.ae ?_
  refine D.aa (bkT hb1 1) ?_
  refine D.ax _ ?_
  refine D.ae ?_
  refine D.aa (bkT hb1 1) ?_
  refine D.ax _ ?_
  refine D.q2 2 2 3 hR ?_
  refine G.aA (G.dropAll (G.bg rfl rfl rfl ?_))
  exact ⟨rfl,rfl⟩
 ·have hk1:k≠1:=by have:=of_decide_eq_false h6;omega
  refine G.z3 2 1 5 14 ?_
  refine G.cd (fun h14=>?_) fun h14=>?_
  ·refine G.cd (fun h14b=>?_) fun h14b=>?_
   ·refine G.aI [0,1,2,3,4,5,6] [] rfl kr_ (fun R hB hR=>?_)
    refine D.ae ?_
    refine D.aa (bkT hb1 1) ?_
    refine D.ax _ ?_
    refine D.ae ?_
    refine D.aa (bkT hb1 1) ?_
    refine D.q2 2 2 3 hR ?_
    refine G.aA (G.dropAll (G.bg rfl rfl rfl ?_))
    refine ⟨?_,rfl⟩
    simp only [beq_iff_eq,beq_eq_false_iff_ne] at *
    first
    | (exfalso;omega)
    | (unfold nx;rw [if_neg hk1,if_pos om_];rfl)
    | (unfold nx;rw [if_neg hk1,if_neg om_];rfl)
   ·refine G.aI [0,1,2,3,4,5,6] [] rfl kr_ (fun R hB hR=>?_)
    refine D.ae ?_
    refine D.aa (bkT hb1 1) ?_
    refine D.ae ?_
    refine D.aa (bkT hb1 1) ?_
    refine D.ax _ ?_
    refine D.q2 2 2 3 hR ?_
    refine G.aA (G.dropAll (G.bg rfl rfl rfl ?_))
    refine ⟨?_,rfl⟩
    simp only [beq_iff_eq,beq_eq_false_iff_ne] at *
    first
    | (exfalso;omega)
    | (unfold nx;rw [if_neg hk1,if_pos om_];rfl)
    | (unfold nx;rw [if_neg hk1,if_neg om_];rfl)
  ·refine G.z2 2 1 14 ?_
   refine G.cd (fun h14c=>?_) fun h14c=>?_
   ·refine G.aI [0,1,2,3,4,5,6] [] rfl kr_ (fun R hB hR=>?_)
    refine D.ae ?_
    refine D.aa (bkT hb1 1) ?_
    refine D.ax _ ?_
    refine D.ae ?_
    refine D.aa (bkT hb1 1) ?_
    refine D.q2 2 2 3 hR ?_
    refine G.aA (G.dropAll (G.bg rfl rfl rfl ?_))
    refine ⟨?_,rfl⟩
    simp only [beq_iff_eq,beq_eq_false_iff_ne] at *
    first
    | (exfalso;omega)
    | (unfold nx;rw [if_neg hk1,if_pos om_];rfl)
    | (unfold nx;rw [if_neg hk1,if_neg om_];rfl)
   ·refine G.aI [0,1,2,3,4,5,6] [] rfl kr_ (fun R hB hR=>?_)
    refine D.ae ?_
    refine D.aa (bkT hb1 1) ?_
    refine D.ae ?_
    refine D.aa (bkT hb1 1) ?_
    refine D.ax _ ?_
    refine D.q2 2 2 3 hR ?_
    refine G.aA (G.dropAll (G.bg rfl rfl rfl ?_))
    refine ⟨?_,rfl⟩
    simp only [beq_eq_false_iff_ne] at *
    first
    | (exfalso;omega)
    | (unfold nx;rw [if_neg hk1,if_pos om_];rfl)
    | (unfold nx;rw [if_neg hk1,if_neg om_];rfl)
theorem repeats_fn (C:Mem)(s:Value)(l:List Iv)(i:Nat)(hs:Sl C 3 s (l.map ivC))(hl:l.length<=1000)(hi:i<l.length):Gives cx.P 120 [s,.int .i64 i] C (.bool (repB l i)):=by
 have hx1:(l.map ivC)[i]?=some (ivC (ivAt l i)):=by rw [List.getElem?_map,List.getElem?_eq_getElem hi,db (List.getElem?_eq_getElem hi)];rfl
 refine Fn.it kr_ Tryz.func120 21 fun w0=>?_
 refine G.z2 1 0 1 ?_
 refine G.aI [0,1,2,3,4,5,6,7,8,9,10,11,12,13,14,15,16] [] rfl kr_ (fun R hB hR=>?_)
 refine D.ps 5 ?_
 refine D.ax _ ?_
 have hx0:0<i->(l.map ivC)[i-1]?=some (ivC (ivAt l (i-1))):=fun h=>by rw [List.getElem?_map,List.getElem?_eq_getElem (show i-1<l.length by omega),db (List.getElem?_eq_getElem (show i-1<l.length by omega))];rfl
 refine D.index rfl rfl rfl rfl rfl rfl rfl rfl rfl rfl (fun hg=>⟨(hs.mono mup),(by have h:decide ((0:Int)<(i:Int))=true:=hg.1;have h2:=of_decide_eq_true h;omega),(by have h:decide ((0:Int)<(i:Int))=true:=hg.1;have h2:=of_decide_eq_true h;rw [show ((i:Int)-1).toNat=i-1 by omega];exact hx0 om_)⟩) fl_ rfl (fun p11 hp11=>?_)
 refine D.eL rfl rfl rfl rfl rfl rfl rfl rfl rfl rfl hp11 fl_ rfl (fun p12 hp12=>?_)
 refine D.aD rfl rfl rfl rfl rfl rfl hp12 rfl rfl rfl ?_
 refine D.ps 2 ?_
 refine D.index rfl rfl rfl rfl rfl rfl rfl rfl rfl rfl (fun hg=>⟨(hs.mono mup),by omega,by rw [Int.toNat_natCast];exact hx1⟩) fl_ rfl (fun p16 hp16=>?_)
 refine D.eL rfl rfl rfl rfl rfl rfl rfl rfl rfl rfl hp16 fl_ rfl (fun p17 hp17=>?_)
 refine D.aD rfl rfl rfl rfl rfl rfl hp17 rfl rfl rfl ?_
 refine D.ae ?_
 refine D.aC rfl rfl rfl rfl rfl rfl rfl rfl ?_
 refine D.q1 1 4 hR ?_
 refine G.rf ?_
 refine ⟨?_,rfl⟩
 unfold repB
 congr 2
 ·exact decide_eq_decide.2 om_
 ·simp only [Bool.beq_eq_decide_eq]
theorem rabs_fn (C:Mem)(x:Rat)(hl:(qtx x).length<=1000000):Gives cx.P 122 [strV (qtx x)] C (strV (qtx (absQ x))):=by
 obtain ⟨c,r,hcr,hcd⟩:=qtx_head x
 have hpos:=qtx_ne x
 refine Fn.it kr_ Tryz.func122 9 fun w0=>?_
 refine G.z1 1 0 ?_
 refine G.rp 1 fun R hR=>?_
 refine D.aZ rfl rfl rfl rfl rfl rfl rfl rfl (fun _=>⟨by omega,by rw [hcr];rfl⟩) rfl rfl ?_
 refine D.q2 1 0 5 hR ?_
 refine G.cd (fun h5=>?_) fun h5=>?_
 ·have hn:x.num<0:=by rw [hcd] at h5;exact of_decide_eq_true h5
  refine G.rp 1 fun R hR=>?_
  refine D.bA 1 (qtx x).length rfl rfl rfl rfl rfl rfl rfl rfl rfl (fun _=>⟨.inr ⟨_,rfl⟩,.inl ⟨rfl,rfl⟩,.inl ⟨rfl,rfl⟩,by omega,Nat.le_refl _,Nat.le_refl _⟩) rfl rfl ?_
  refine D.q1 1 2 hR ?_
  refine G.rf ?_
  refine ⟨?_,rfl⟩
  have h0:¬ 0<=x:=fun h=>by have:=Rat.num_nonneg.2 h;omega
  unfold absQ
  rw [if_neg h0,List.take_length,qtx_neg_of_neg hn]
  rfl
 ·have hn:¬ x.num<0:=by rw [hcd] at h5;exact of_decide_eq_false h5
  refine G.z1 2 2 ?_
  refine G.rf ?_
  refine ⟨?_,rfl⟩
  have h0:0<=x:=Rat.num_nonneg.1 om_
  unfold absQ
  rw [if_pos h0]
open Go Go.Jog Go.Jog.Dp
set_option maxRecDepth 100000

def qC (vL vR:Value)(q:Qn):List Value:=[vL,vR,strV (qtx q.c0),strV (qtx q.c1),strV (qtx q.c2),strV (qtx q.c3)]
structure QIn (C:Mem)(vL vR:Value)(q:Qn):Prop where
 l:Sl C 3 vL (q.l.map ivC)
 r:Sl C 3 vR (q.r.map ivC)
theorem QIn.mono {C D:Mem}{vL vR:Value}{q:Qn}(h:QIn C vL vR q)(hle:C.le D):QIn D vL vR q:=⟨h.l.mono hle,h.r.mono hle⟩
def errS (q:Qn)(k i j:Nat):Int :=
 if k<1∨5<k then 12 else if q.l.length<i∨q.r.length<j then 3 else if q.l.length<(nx k i j).1∨q.r.length<(nx k i j).2 then 11
 else if (k=4/\repB q.l i=false)∨(k=5/\repB q.r j=false) then 7 else 0
theorem errS_zero {q:Qn}{k i j:Nat}:errS q k i j=0 ↔ i<=q.l.length/\j<=q.r.length/\q.al.ok k i j=true:=by
 unfold errS
 constructor
 ·intro h
  split at h
  ·cases h
  ·split at h
   ·cases h
   ·split at h
    ·cases h
    ·split at h
     ·cases h
     ·rename_i h1 h2 h3 h4
      refine ⟨by omega,by omega, ?_⟩
      have hk:k=1∨k=2∨k=3∨k=4∨k=5:=by omega
      unfold Al.ok Qn.al
      rcases hk with rfl | rfl | rfl | rfl | rfl <;> simp [nx] at h3 h4 ⊢ <;> first | omega | exact ⟨by omega,h4⟩
 ·rintro ⟨h1,h2,h3⟩
  have h4:=Al.ok_nx (A:=q.al) h1 h2 h3
  have hn:(nx k i j).1<=q.l.length/\(nx k i j).2<=q.r.length:=h4.1
  unfold Al.ok Qn.al at h3
  simp only [Bool.or_eq_true,Bool.and_eq_true,beq_iff_eq,decide_eq_true_eq] at h3
  rw [if_neg om_,if_neg om_,if_neg om_,if_neg]
  rintro (⟨rfl,h⟩ | ⟨rfl,h⟩)
  ·simp [h] at h3
  ·simp [h] at h3
theorem checkStep_fn (C:Mem)(vL vR:Value)(q:Qn)(k i j:Nat)(hq:QIn C vL vR q)(hl:q.l.length<=8)(hr:q.r.length<=8)(hi:i<=1000)(hj:j<=1000)(hk:k<=1000) :
  Gives cx.P 76 [.agg ⟨qC vL vR q⟩,stepV k i j] C (.int .i64 (errS q k i j)):=by
 obtain ⟨AL,cL,rfl,_,_,_⟩:=id hq.l
 obtain ⟨AR,cR,rfl,_,_,_⟩:=id hq.r
 simp only [List.length_map] at hq ⊢
 refine Fn.it kr_ Tryz.func76 84 fun w0=>?_
 refine G.rg fun R hR=>?_
 refine D.aM (fun b2=>?_)
 refine D.aM (fun b3=>?_)
 refine D.q2 1 2 3 hR ?_
 refine G.freeze 1 rfl (fun C2 hle2 hb2=>?_)
 refine G.freeze 0 rfl (fun C3 hle3 hb3=>?_)
 refine G.rp 1 fun R hR=>?_
 refine D.aa (bkT hb3 1) ?_
 refine D.ps 3 ?_
 refine D.aD rfl rfl rfl rfl rfl rfl (fun _=>PtrTo.blockT (Mem.get hb3 mup) _ 1) rfl rfl rfl ?_
 refine D.ae ?_
 refine D.ar ?_
 refine D.q3 1 2 3 7 hR ?_
 refine G.cd (fun h7=>?_) fun h7=>?_
 ·have h7':k<1∨5<k:=by simp only [Bool.or_eq_true,decide_eq_true_eq] at h7;omega
  refine G.z1 1 4 ?_
  refine G.rf ?_
  refine ⟨?_,rfl⟩
  unfold errS
  rw [if_pos h7']
 ·have h7':¬ (k<1∨5<k):=by simp only [Bool.or_eq_false_iff,decide_eq_false_iff_not] at h7;omega
  refine G.rp 1 fun R hR=>?_
  refine D.aa (bkT hb3 1) ?_
  refine D.ps 3 ?_
  refine D.aD rfl rfl rfl rfl rfl rfl (fun _=>PtrTo.blockT (Mem.get hb3 mup) _ 1) rfl rfl rfl ?_
  refine D.ae ?_
  refine D.aD rfl rfl rfl rfl rfl rfl (fun _=>PtrTo.blockT (Mem.get hb2 mup) _ 1) rfl rfl rfl ?_
  refine D.ps 2 ?_
  refine D.ar ?_
  refine D.ps 2 ?_
  refine D.aD rfl rfl rfl rfl rfl rfl (fun _=>PtrTo.blockT (Mem.get hb3 mup) _ 1) rfl rfl rfl ?_
  refine D.ae ?_
  refine D.ar ?_
  refine D.ps 2 ?_
  refine D.aD rfl rfl rfl rfl rfl rfl (fun _=>PtrTo.blockT (Mem.get hb3 mup) _ 1) rfl rfl rfl ?_
  refine D.ae ?_
  refine D.aD rfl rfl rfl rfl rfl rfl (fun _=>PtrTo.blockT (Mem.get hb2 mup) _ 1) rfl rfl rfl ?_
  refine D.ps 2 ?_
  refine D.ar ?_
  refine D.q3 1 2 3 16 hR ?_
  refine G.cd (fun h16=>?_) fun h16=>?_
  ·have h16':q.l.length<i∨q.r.length<j:=by simp only [Bool.or_eq_true,decide_eq_true_eq] at h16;omega
   refine G.z1 1 4 ?_
   refine G.rf ?_
   refine ⟨?_,rfl⟩
   unfold errS
   rw [if_neg h7',if_pos h16']
  ·have h16':¬ (q.l.length<i∨q.r.length<j):=by simp only [Bool.or_eq_false_iff,decide_eq_false_iff_not] at h16;omega
   refine G.rg fun R hR=>?_
   refine D.aa (bkT hb3 3) ?_
   refine D.am (next_fn _ k i j hi hj) ?_
   refine D.q4 5 2 3 5 6 hR ?_
   refine G.rp 2 fun R hR=>?_
   refine D.aa (bkT hb2 1) ?_
   refine D.ps 5 ?_
   refine D.aD rfl rfl rfl rfl rfl rfl (fun _=>PtrTo.blockT (Mem.get hb2 mup) _ 1) rfl rfl rfl ?_
   refine D.ps 2 ?_
   refine D.ar ?_
   refine D.q3 1 2 3 46 hR ?_
   refine G.cd (fun h46=>?_) fun h46=>?_
   ·have h46':q.l.length<(nx k i j).1∨q.r.length<(nx k i j).2:=by simp only [Bool.or_eq_true,decide_eq_true_eq] at h46;omega
    refine G.z1 1 4 ?_
    refine G.rf ?_
    refine ⟨?_,rfl⟩
    unfold errS
    rw [if_neg h7',if_neg h16',if_pos h46']
   ·have h46':¬ (q.l.length<(nx k i j).1∨q.r.length<(nx k i j).2):=by simp only [Bool.or_eq_false_iff,decide_eq_false_iff_not] at h46;omega
    have h4:((k:Int) == 4)=true->i<q.l.length:=fun h=>by
     have hk4:k=4:=by simp only [beq_iff_eq] at h;omega
     subst hk4
     simp [nx] at h46';omega
    have h5:((k:Int) == 5)=true->j<q.r.length:=fun h=>by
     have hk5:k=5:=by simp only [beq_iff_eq] at h;omega
     subst hk5
     simp [nx] at h46';omega
    refine G.rp 1 fun R hR=>?_
    refine D.aa (bkT hb3 1) ?_
    refine D.ps 3 ?_
    refine D.aD rfl rfl rfl rfl rfl rfl (fun _=>PtrTo.blockT (Mem.get hb2 mup) _ 1) rfl rfl rfl ?_
    refine D.ae ?_
    refine D.aD rfl rfl rfl rfl rfl rfl (fun _=>PtrTo.blockT (Mem.get hb3 mup) _ 1) rfl rfl rfl ?_
    refine D.aU (fun hg=>(repeats_fn _ _ q.l i (hq.l.mono mup) om_ (by exact h4 (show ((k:Int) == 4)=true from hg.1)))) rfl rfl rfl rfl rfl rfl rfl rfl rfl ?_
    refine D.ae ?_
    refine D.aC rfl rfl rfl rfl rfl rfl rfl rfl ?_
    refine D.ps 2 ?_
    refine D.aD rfl rfl rfl rfl rfl rfl (fun _=>PtrTo.blockT (Mem.get hb3 mup) _ 1) rfl rfl rfl ?_
    refine D.ps 3 ?_
    refine D.aD rfl rfl rfl rfl rfl rfl (fun _=>PtrTo.blockT (Mem.get hb2 mup) _ 1) rfl rfl rfl ?_
    refine D.ae ?_
    refine D.aD rfl rfl rfl rfl rfl rfl (fun _=>PtrTo.blockT (Mem.get hb3 mup) _ 1) rfl rfl rfl ?_
    refine D.aU (fun hg=>(repeats_fn _ _ q.r j (hq.r.mono mup) om_ (by exact h5 (show ((k:Int) == 5)=true from hg.1)))) rfl rfl rfl rfl rfl rfl rfl rfl rfl ?_
    refine D.ae ?_
    refine D.aC rfl rfl rfl rfl rfl rfl rfl rfl ?_
    refine D.ar ?_
    refine D.q1 1 59 hR ?_
    refine G.cd (fun h59=>?_) fun h59=>?_
    ·refine G.z1 1 4 ?_
     refine G.rf ?_
     refine ⟨?_,rfl⟩
     have h59':(k=4/\repB q.l i=false)∨(k=5/\repB q.r j=false):=by
      have h:=h59
      simp at h
      rcases h with ⟨h,h'⟩ | ⟨h,h'⟩
      ·exact .inl ⟨by omega,h'⟩
      ·exact .inr ⟨by omega,h'⟩
     unfold errS
     rw [if_neg h7',if_neg h16',if_neg h46',if_pos h59']
    ·refine G.z1 1 4 ?_
     refine G.rf ?_
     refine ⟨?_,rfl⟩
     have h59':¬ ((k=4/\repB q.l i=false)∨(k=5/\repB q.r j=false)):=fun h=>by have:=h59;rcases h with ⟨rfl,h⟩ | ⟨rfl,h⟩ <;> simp [h] at this
     unfold errS
     rw [if_neg h7',if_neg h16',if_neg h46',if_neg h59']
end Go.Proofs.YtjhmlnebikbdbaaGreatDoor
