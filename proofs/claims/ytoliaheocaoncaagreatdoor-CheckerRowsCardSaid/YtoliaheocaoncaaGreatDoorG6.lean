/- Laws that the proofs of this seat share, part 6. -/
import Derived.Test.YtoliaheocaoncaaGreatDoorG5
import Derived.Test.YtoliaheocaoncaaGreatDoorShelf
import Derived.Laws.IdiomRangeMap
import Derived.WideKeyRuns
set_option maxHeartbeats 4000000
namespace Go.Proofs.YtoliaheocaoncaaGreatDoor
open Go Go.Jog
set_option maxRecDepth 100000

theorem quotT_dvd {n:Int}{g:Nat}(hg:g ∣ n.natAbs):n.tdiv (g:Int)=n / (g:Int):=Int.tdiv_eq_ediv_of_dvd (Int.dvd_natAbs.1 (Int.natCast_dvd_natCast.2 hg))
theorem qtx_mk {n:Int}{d:Nat}(hd:d≠0):qtx (mkRat n d)=txt (n / ((Nat.gcd n.natAbs d:Nat):Int))++bV (denS (d / Nat.gcd n.natAbs d)):=by
 rw [qtx_txt,(mk_parts n hd).1,(mk_parts n hd).2]
theorem rsmall_fn (C:Mem)(hT:Tabs C)(n:Int)(d:Nat)(hd:0<d)(hn:n.natAbs<9000000000000000000)(hdl:d<9000000000000000000):Gives cx.P 75 [.int .i64 n,.int .i64 d] C (strV (qtx (mkRat n d))):=by
 obtain ⟨g,hg⟩:∃ g,Nat.gcd n.natAbs d=g:=⟨_,rfl⟩
 have hg0:0<g:=by rw [<- hg];exact Nat.gcd_pos_of_pos_right _ hd
 have hgn:g ∣ n.natAbs:=by rw [<- hg];exact Nat.gcd_dvd_left _ _
 have hgd:g ∣ d:=by rw [<- hg];exact Nat.gcd_dvd_right _ _
 have hgl:g<=d:=Nat.le_of_dvd hd hgd
 rw [qtx_mk (by omega),hg]
 refine Fn.it (by kernel_rfl) Tryz.func75 35 fun w0=>?_
 refine G.z2 1 0 1 ?_
 refine G.z4 4 0 1 5 6 ?_
 refine G.loop (fun fr C' L' μ=>∃ (x y:Int),(x.natAbs<9000000000000000000/\y.natAbs<9000000000000000000/\Nat.gcd x.natAbs y.natAbs=g)/\fr=[(0,[],.int .i64 n),(1,[],.int .i64 d),(5,[],.int .i64 x),(6,[],.int .i64 y)]/\L'=[]/\μ=y.natAbs+1) (h_4 0 1 5 6) ⟨n,d,⟨hn,by omega,by rw [Int.natAbs_natCast];exact hg⟩,rfl,rfl,rfl⟩ (fun fr C0' L0' m hle0 hI=>?_)
 obtain ⟨x,y,⟨hxa,hya,hgi⟩,rfl,rfl,rfl⟩:=hI
 refine G.z5 2 0 1 5 6 10 ?_
 refine G.cd (fun h10=>?_) fun h10=>?_
 ·have hy0:y≠0:=by simpa using h10
  have hta:(x.tmod y).natAbs=x.natAbs % y.natAbs:=Int.natAbs_tmod x y
  have htl:=Nat.mod_lt x.natAbs (show 0<y.natAbs by omega)
  refine G.aR [0,1,2,3,4,5] [] rfl (by kernel_rfl) (fun R hB hR=>?_)
  refine D.ps 3 ?_
  refine D.remZ (x.tmod y) rfl rfl rfl rfl rfl rfl hy0 rfl rfl rfl ?_
  refine D.q4 2 0 1 5 6 hR ?_
  refine G.au (m':=(x.tmod y).natAbs+1) (by omega) hle0 (h_4 0 1 5 6) ⟨y,x.tmod y,⟨hya,by omega,by rw [hta,<- hgi,Nat.gcd_comm x.natAbs,Nat.gcd_rec y.natAbs x.natAbs,Nat.gcd_comm]⟩,rfl,rfl,rfl⟩
 ·have hy0:y=0:=by simpa using h10
  subst hy0
  rw [show (0:Int).natAbs=0 from rfl,Nat.gcd_zero_right] at hgi
  refine G.z4 2 0 1 5 16 ?_
  refine G.bN (fun fr C' L' μ=>(True)/\fr=[(0,[],.int .i64 n),(1,[],.int .i64 d),(5,[],.int .i64 g)]/\L'=[]) ?_ (fun fr C16 L16 μ hle16 hI=>?_)
  ·refine G.cd (fun h16=>?_) fun h16=>?_
   ·have hx0:x<0:=by simpa using h16
    refine G.z3 3 0 1 5 ?_
    rw [show IntKind.i64.wrap (0-x)=(g:Int) by rw [wrap_i64 (by omega) (by omega)];omega]
    refine G.ar 0 (Mem.le.refl _) (h_3 0 1 5) ⟨trivial,rfl,rfl⟩
   ·have hx0:¬ x<0:=by simpa using h16
    rw [show x=(g:Int) by omega]
    refine G.ar 0 (Mem.le.refl _) (h_3 0 1 5) ⟨trivial,rfl,rfl⟩
  ·obtain ⟨_,rfl,rfl⟩:=hI
   have hnq:(n / (g:Int)).natAbs<=n.natAbs:=by
    rw [Int.natAbs_ediv_of_dvd (Int.dvd_natAbs.1 (Int.natCast_dvd_natCast.2 hgn)),Int.natAbs_natCast]
    exact Nat.div_le_self _ _
   have hdq:=Nat.div_le_self d g
   refine G.aR [0,1,2,3,4,5,6,7] [] rfl (by kernel_rfl) (fun R hB hR=>?_)
   refine D.ps 2 ?_
   refine D.quoT (n / (g:Int)) rfl rfl rfl rfl rfl rfl (by omega) (quotT_dvd hgn) (wrap_i64 (by omega) (by omega)) rfl rfl ?_
   refine D.ps 2 ?_
   refine D.quoN (d) (g) rfl rfl rfl rfl rfl rfl hg0 (.inl ⟨rfl,by omega⟩) rfl rfl ?_
   refine D.q2 2 0 1 hR ?_
   refine G.z3 2 0 1 26 ?_
   refine G.cd (fun h26=>?_) fun h26=>?_
   ·have h1:d / g=1:=by
     have h2:(((d / g:Nat):Int))=1:=by simpa using h26
     omega
    refine G.rp 1 fun R hR=>?_
    refine D.aq (itoaZ_g _ (hT.mono mup) _ (by omega) (by omega)) rfl rfl rfl rfl rfl rfl rfl (fun _=>rfl) ?_
    refine D.q1 1 4 hR ?_
    refine G.rf ?_
    refine ⟨?_,rfl⟩
    rw [h1,dens_one rfl]
    simp [bV]
   ·have h1:d / g≠1:=by
     intro h2
     rw [h2] at h26
     exact absurd h26 (by decide)
    have hT1:=txt_len (n / (g:Int))
    have hT2:=txt_len ((d / g:Nat):Int)
    have hT3:(decS (n / (g:Int)).natAbs).length<=20:=decS_len (Nat.lt_of_le_of_lt hnq (Nat.lt_trans hn (by decide))) (by decide)
    have hT4:(decS ((d / g:Nat):Int).natAbs).length<=20:=decS_len (by rw [Int.natAbs_natCast];exact Nat.lt_of_le_of_lt hdq (Nat.lt_trans hdl (by decide))) (by decide)
    refine G.rp 1 fun R hR=>?_
    refine D.aq (itoaZ_g _ (hT.mono mup) _ (by omega) (by omega)) rfl rfl rfl rfl rfl rfl rfl (fun _=>rfl) ?_
    refine D.dj rfl rfl rfl rfl rfl rfl (fun _=>(by simp only [List.length_cons,List.length_nil];omega)) rfl rfl ?_
    refine D.ac ?_
    refine D.aq (itoaZ_g _ (hT.mono mup) ((d / g:Nat):Int) (Int.le_trans (by decide) (Int.natCast_nonneg _)) (Int.le_trans (Int.ofNat_le.2 hdq) (by omega))) rfl rfl rfl rfl rfl rfl rfl (fun _=>rfl) ?_
    refine D.dj rfl rfl rfl rfl rfl rfl (fun _=>(by simp only [List.length_append,List.length_cons,List.length_nil];omega)) rfl rfl ?_
    refine D.q1 1 4 hR ?_
    refine G.rf ?_
    refine ⟨?_,rfl⟩
    rw [dens_more h1,txt_nat,List.append_assoc]
    rfl
theorem join_fn (C:Mem)(z:Int)(d:Nat)(k:Nat)(hk0:0<k)(hk:k<=40000)(hz:z.natAbs<B9 ^ k)(hd:d<B9 ^ k):Gives cx.P 102 [strV (txt z),strV (decS d)] C (strV (txt z++bV (denS d))):=by
 have hzl:(txt z).length<=9*k+1:=by
  have:=a7 hz hk0
  unfold txt
  split
  ·simp;omega
  ·omega
 have hdl:=a7 hd hk0
 refine Fn.it (by kernel_rfl) Tryz.func102 12 fun w0=>?_
 refine G.z2 1 0 1 ?_
 refine G.z3 2 0 1 6 ?_
 refine G.cd (fun h6=>?_) fun h6=>?_
 ·have h1:d=1:=by rw [decEq1] at h6;exact of_decide_eq_true h6
  refine G.z1 2 4 ?_
  refine G.rf ?_
  refine ⟨?_,rfl⟩
  rw [dens_one h1]
  simp [bV]
 ·have h1:d≠1:=by rw [decEq1] at h6;exact of_decide_eq_false h6
  refine G.rp 1 fun R hR=>?_
  refine D.dj rfl rfl rfl rfl rfl rfl (fun _=>(by simp only [List.length_cons,List.length_nil];omega)) rfl rfl ?_
  refine D.ac ?_
  refine D.dj rfl rfl rfl rfl rfl rfl (fun _=>(by simp only [List.length_append,List.length_cons,List.length_nil];omega)) rfl rfl ?_
  refine D.q1 1 4 hR ?_
  refine G.rf ?_
  refine ⟨?_,rfl⟩
  rw [dens_more h1,List.append_assoc]
  rfl
theorem rparts_fn (C:Mem)(s:Str)(hl:s.length<1000000):Gives cx.P 76 [strV s] C (.tuple #[strV (cut1 47 s).1,strV ((cut1 47 s).2.getD [49])]):=by
 refine Fn.it (by kernel_rfl) Tryz.func76 18 fun w0=>?_
 refine G.z1 2 0 ?_
 refine G.rp 1 fun R hR=>?_
 refine D.ai (cut_fn _ s 47 hl) ?_
 refine D.q3 7 4 5 6 hR ?_
 refine G.z3 2 4 5 14 ?_
 refine G.cd (fun h14=>?_) fun h14=>?_
 ·have h1:(cut1 47 s).2=none:=by
   cases h:(cut1 47 s).2 with
   | none=>rfl
   | some b=>rw [h] at h14;simp at h14
  refine G.z2 3 2 3 ?_
  refine G.aB (G.dropAll (G.bO rfl rfl rfl ?_))
  refine ⟨?_,rfl⟩
  rw [h1]
  rfl
 ·obtain ⟨b,h1⟩:∃ b,(cut1 47 s).2=some b:=by
   cases h:(cut1 47 s).2 with
   | some b=>exact ⟨b,rfl⟩
   | none=>rw [h] at h14;simp at h14
  refine G.z2 4 2 3 ?_
  refine G.aB (G.dropAll (G.bO rfl rfl rfl ?_))
  refine ⟨?_,rfl⟩
  rw [h1]
  rfl
theorem cut1_app {c:UInt8}:∀ {a:Str}(b:Str),c ∉ a->cut1 c (a++c::b)=(a,some b)
 | [],b,_=>by simp [cut1]
 | x::a,b,h=>by
  have hx:x≠c:=fun e=>h (e ▸ List.mem_cons_self)
  have hr:=cut1_app (c:=c) (a:=a) b (fun h2=>h (List.mem_cons_of_mem _ h2))
  simp only [List.cons_append,cut1,if_neg hx,hr]
theorem cut1_none {c:UInt8}:∀ {a:Str},c ∉ a->cut1 c a=(a,none)
 | [],_=>rfl
 | x::a,h=>by
  have hx:x≠c:=fun e=>h (e ▸ List.mem_cons_self)
  have hr:=cut1_none (c:=c) (a:=a) (fun h2=>h (List.mem_cons_of_mem _ h2))
  simp only [cut1,if_neg hx,hr]
theorem slash_dig {s:Str}(h:∀ c∈s,digB c=true):(47:UInt8) ∉ s:=fun h2=>absurd (h 47 h2) (by decide)
theorem slash_txt (z:Int):(47:UInt8) ∉ txt z:=by
 unfold txt
 split
 ·intro h
  rcases List.mem_cons.1 h with h | h
  ·cases h
  ·exact slash_dig (decS_dig _) h
 ·exact slash_dig (decS_dig _)
theorem cut1_qtx (q:Rat):cut1 47 (qtx q)=(txt q.num,denS q.den):=by
 rw [qtx_txt]
 unfold denS
 split
 ·rw [show bV none=[] from rfl,List.append_nil];exact cut1_none (slash_txt _)
 ·exact cut1_app _ (slash_txt _)
theorem one_dec:decS 1=[49]:=by rw [decS];rfl
theorem den_get (d:Nat):(denS d).getD [49]=decS d:=by
 unfold denS
 split
 ·rename_i h;subst h;exact one_dec.symm
 ·rfl
theorem parts_q (C:Mem)(q:Rat)(hl:(qtx q).length<1000000):Gives cx.P 76 [strV (qtx q)] C (.tuple #[strV (txt q.num),strV (decS q.den)]):=by
 have h:=rparts_fn C (qtx q) hl
 rwa [cut1_qtx,den_get] at h


def divS (z w:Int):Rat:=mkRat (if w<0 then -z else z) w.natAbs
theorem lowest_fn (C:Mem)(hT:Tabs C)(z w:Int)(k:Nat)(hk0:0<k)(hk:k<=40000)(hz:z.natAbs<B9 ^ k)(hw:w.natAbs<B9 ^ k)(hw0:w≠0):Gives cx.P 77 [strV (txt z),strV (txt w)] C (strV (qtx (divS z w))):=by
 have hzl:=a7 hz hk0
 have hwl:=a7 hw hk0
 obtain ⟨y,hy⟩:∃ y,(if w<0 then -z else z)=y:=⟨_,rfl⟩
 obtain ⟨d,hd⟩:∃ d,w.natAbs=d:=⟨_,rfl⟩
 have hd0:d≠0:=by omega
 have hya:y.natAbs=z.natAbs:=by rw [<- hy];split <;> omega
 obtain ⟨g,hg⟩:∃ g,Nat.gcd y.natAbs d=g:=⟨_,rfl⟩
 have hg0:0<g:=by rw [<- hg];exact Nat.gcd_pos_of_pos_right _ (by omega)
 have hgd:g ∣ d:=by rw [<- hg];exact Nat.gcd_dvd_right _ _
 have hgl:g<=d:=Nat.le_of_dvd (by omega) hgd
 unfold divS
 rw [hy,hd,qtx_mk hd0,hg]
 refine Fn.it (by kernel_rfl) Tryz.func77 35 fun w0=>?_
 refine G.z2 1 0 1 ?_
 refine G.rp 1 fun R hR=>?_
 refine D.ai (isign_fn _ w) ?_
 refine D.q3 1 0 1 8 hR ?_
 refine G.bN (fun fr C' L' μ=>(True)/\fr=[(0,[],strV (txt y)),(1,[],strV (txt (d:Nat)))]/\L'=[]) ?_ (fun fr C8 L8 μ hle8 hI=>?_)
 ·refine G.cd (fun h8=>?_) fun h8=>?_
  ·have hw1:w<0:=by
    have h:sgnZ w<0:=by simpa using h8
    unfold sgnZ at h
    split at h <;> omega
   rw [if_pos hw1] at hy
   refine G.rp 1 fun R hR=>?_
   refine D.aq (ineg_fn _ z (by omega)) rfl rfl rfl rfl rfl rfl rfl (fun _=>rfl) ?_
   refine D.ac ?_
   refine D.aq (ineg_fn _ w (by omega)) rfl rfl rfl rfl rfl rfl rfl (fun _=>rfl) ?_
   refine D.q2 2 0 1 hR ?_
   refine G.ar 0 (Mem.le.refl _) (h_2 0 1) ⟨trivial,by rw [hy,show -w=((d:Nat):Int) by omega],rfl⟩
  ·have hw1:¬ w<0:=by
    intro h2
    have h:¬ sgnZ w<0:=by simpa using h8
    unfold sgnZ at h
    split at h <;> omega
   rw [if_neg hw1] at hy
   refine G.ar 0 (Mem.le.refl _) (h_2 0 1) ⟨trivial,by rw [hy,show w=((d:Nat):Int) by omega],rfl⟩
 ·obtain ⟨_,rfl,rfl⟩:=hI
  refine G.rp 2 fun R hR=>?_
  refine D.aq (igcd_fn _ (hT.mono mup) y (d:Nat) k hk0 hk (by omega) (by omega)) rfl rfl rfl rfl rfl rfl rfl (fun _=>rfl) ?_
  refine D.q3 1 0 1 5 hR ?_
  rw [Int.natAbs_natCast,hg]
  refine G.z4 2 0 1 5 17 ?_
  refine G.bN (fun fr C' L' μ=>(True)/\fr=[(0,[],strV (txt (y / (g:Nat)))),(1,[],strV (txt ((d / g:Nat):Int)))]/\L'=[]) ?_ (fun fr C17 L17 μ hle17 hI=>?_)
  ·refine G.cd (fun h17=>?_) fun h17=>?_
   ·refine G.rp 2 fun R hR=>?_
    refine D.aq (idivmod_fn _ (hT.mono mup) y (g:Nat) k hk0 hk (by omega) (by omega) (by omega)) rfl rfl rfl rfl rfl rfl rfl (fun _=>rfl) ?_
    refine D.q3 5 0 1 5 hR ?_
    refine G.rp 2 fun R hR=>?_
    refine D.aq (idivmod_fn _ (hT.mono mup) (d:Nat) (g:Nat) k hk0 hk (by omega) (by omega) (by omega)) rfl rfl rfl rfl rfl rfl rfl (fun _=>rfl) ?_
    refine D.q2 5 0 1 hR ?_
    refine G.ar 0 (Mem.le.refl _) (h_2 0 1) ⟨trivial,by rw [Int.natCast_ediv],rfl⟩
   ·have hg1:g=1:=by
     rw [txt_nat,decEq1] at h17
     simpa using h17
    refine G.ar 0 (Mem.le.refl _) (h_2 0 1) ⟨trivial,by rw [hg1,Nat.div_one,Int.natCast_one,Int.ediv_one],rfl⟩
  ·obtain ⟨_,rfl,rfl⟩:=hI
   rw [txt_nat]
   refine G.rp 2 fun R hR=>?_
   refine D.aq (join_fn _ (y / (g:Nat)) (d / g) k hk0 hk (by rw [Int.natAbs_ediv_of_dvd (Int.dvd_natAbs.1 (Int.natCast_dvd_natCast.2 (by rw [<- hg];exact Nat.gcd_dvd_left _ _))),Int.natAbs_natCast];exact Nat.lt_of_le_of_lt (Nat.div_le_self _ _) (by omega)) (Nat.lt_of_le_of_lt (Nat.div_le_self _ _) (by omega))) rfl rfl rfl rfl rfl rfl rfl (fun _=>rfl) ?_
   refine D.q1 1 4 hR ?_
   refine G.rf ?_
   exact ⟨rfl,rfl⟩

theorem decS_eq {a b:Nat}(h:decS a=decS b):a=b:=by rw [<- (aM a).2,h,(aM b).2]
theorem txt_eq {z w:Int}(h:txt z=txt w):z=w:=by
 have h1:=bH z
 rw [h,bH w] at h1
 have h2:=decS_eq (Prod.mk.inj h1).1
 have h3:decide (w<0)=decide (z<0):=(Prod.mk.inj h1).2
 by_cases hw:w<0
 ·rw [decide_eq_true hw] at h3
  have:=of_decide_eq_true h3.symm
  omega
 ·rw [decide_eq_false hw] at h3
  have:=of_decide_eq_false h3.symm
  omega
theorem qtx_eq {a b:Rat}(h:qtx a=qtx b):a=b:=by
 have h1:=cut1_qtx a
 rw [h,cut1_qtx b] at h1
 have h2:=txt_eq (Prod.mk.inj h1).1
 have h3:=congrArg denV (Prod.mk.inj h1).2
 rw [denV_denS,denV_denS] at h3
 exact Rat.ext h2.symm h3.symm
theorem qtxEq (a b:Rat):((⟨(qtx a).toArray⟩:ByteArray).data.toList == (⟨(qtx b).toArray⟩:ByteArray).data.toList)=decide (a=b):=by
 show (qtx a == qtx b)=_
 rw [Bool.eq_iff_iff,beq_iff_eq,decide_eq_true_eq]
 exact ⟨qtx_eq,fun h=>by rw [h]⟩
theorem qtx_zero:qtx 0=[48]:=by
 rw [show (0:Rat)=((0:Int):Rat) from rfl,qtx_int]
 unfold txt
 rw [if_neg (by omega),show decS (0:Int).natAbs=decS 0 from rfl,decS];rfl
theorem qtx_one:qtx 1=[49]:=by
 rw [show (1:Rat)=((1:Int):Rat) from rfl,qtx_int]
 exact one_val.symm
theorem qtxEq0 (a:Rat):((⟨(qtx a).toArray⟩:ByteArray).data.toList == (⟨#[48]⟩:ByteArray).data.toList)=decide (a=0):=by
 have h:=qtxEq a 0
 rwa [qtx_zero] at h
theorem qtxEq1 (a:Rat):((⟨(qtx a).toArray⟩:ByteArray).data.toList == (⟨#[49]⟩:ByteArray).data.toList)=decide (a=1):=by
 have h:=qtxEq a 1
 rwa [qtx_one] at h
theorem qtx_ne (a:Rat):0<(qtx a).length:=by
 unfold qtx
 rw [List.length_append,List.length_append]
 have:=List.length_pos_iff.2 (decS_ne a.num.natAbs)
 omega
theorem qtx_len {q:Rat}{k:Nat}(h:QB k q)(hk:0<k):(qtx q).length<=18*k+2:=by
 unfold qtx
 rw [List.length_append,List.length_append]
 have h1:=a7 h.1 hk
 have h2:=a7 h.2 hk
 have h3:(preS (decide (q.num<0))).length<=1:=by cases decide (q.num<0) <;> simp [preS]
 have h4:(bV (denS q.den)).length<=9*k+1:=by
  unfold denS
  split
  ·simp [bV]
  ·simp [bV];exact h2
 omega
theorem qtx_head (q:Rat):∃ c r,qtx q=c::r/\((((c.toNat:Nat):Int) == 45)=decide (q.num<0)):=by
 by_cases h:q.num<0
 ·refine ⟨45,decS q.num.natAbs++bV (denS q.den), ?_,by rw [decide_eq_true h];decide⟩
  unfold qtx
  rw [decide_eq_true h]
  rfl
 ·obtain ⟨c,r,hc⟩:∃ c r,decS q.num.natAbs=c::r:=List.exists_cons_of_ne_nil (decS_ne _)
  refine ⟨c,r++bV (denS q.den), ?_, ?_⟩
  ·unfold qtx
   rw [decide_eq_false h,hc]
   rfl
  ·have h2:=decS_dig q.num.natAbs c (by rw [hc];exact List.mem_cons_self)
   rw [decide_eq_false h]
   unfold digB at h2
   have h3:=of_decide_eq_true h2
   exact decide_eq_false (by omega)
def fitQ (q:Rat):Bool:=fit9 (decS q.num.natAbs) (denS q.den)
theorem fit_lt {n:Nat}(h:(decS n).length<=9):n<1000000000:=by
 have h1:=bI (decS_dig n)
 rw [(aM n).2] at h1
 exact Nat.lt_of_lt_of_le h1 (Nat.le_trans (Nat.pow_le_pow_right (by decide) h) (by decide))
theorem fitQ_lt {q:Rat}(h:fitQ q=true):q.num.natAbs<1000000000/\q.den<1000000000:=by
 unfold fitQ fit9 at h
 rw [Bool.and_eq_true,decide_eq_true_eq,decide_eq_true_eq] at h
 refine ⟨fit_lt h.1, ?_⟩
 by_cases h1:q.den=1
 ·omega
 ·rw [dens_more h1] at h
  exact fit_lt h.2
theorem rquick_fn (C:Mem)(q:Rat)(hl:(qtx q).length<=1000000):Gives cx.P 74 [strV (qtx q)] C (if fitQ q then .tuple #[.int .i64 q.num,.int .i64 (q.den:Nat),.bool true] else .tuple #[.int .i64 0,.int .i64 0,.bool false]):=by
 have h:=rquick_raw C (decide (q.num<0)) (decS q.num.natAbs) (denS q.den) (decS_dig _) (decS_ne _) (denS_dig _) hl
 unfold quickV at h
 rw [(aM _).2,denV_denS] at h
 have e:sgZ (decide (q.num<0)) q.num.natAbs=q.num:=by
  unfold sgZ
  by_cases h:q.num<0
  ·rw [decide_eq_true h,if_pos rfl];omega
  ·rw [decide_eq_false h,if_neg (by decide)];omega
 rw [e] at h
 exact h
theorem rsign_fn (C:Mem)(q:Rat)(hl:(qtx q).length<=1000000):Gives cx.P 19 [strV (qtx q)] C (.int .i64 (sgnZ q.num)):=by
 obtain ⟨c,r,hcr,hcd⟩:=qtx_head q
 have hpos:=qtx_ne q
 refine Fn.it (by kernel_rfl) Tryz.func19 15 fun w0=>?_
 refine G.z1 1 0 ?_
 refine G.z2 3 0 3 ?_
 refine G.cd (fun h3=>?_) fun h3=>?_
 ·have h0:q=0:=by rw [qtxEq0] at h3;exact of_decide_eq_true h3
  refine G.z1 1 2 ?_
  refine G.rf ?_
  refine ⟨?_,rfl⟩
  rw [h0]
  rfl
 ·have h0:q≠0:=by rw [qtxEq0] at h3;exact of_decide_eq_false h3
  have hn0:q.num≠0:=fun e=>h0 (Rat.num_eq_zero.1 e)
  refine G.rp 5 fun R hR=>?_
  refine D.aW rfl rfl rfl rfl rfl rfl rfl rfl (fun _=>⟨by omega,by rw [hcr];rfl⟩) rfl rfl ?_
  refine D.ac ?_
  refine D.aE rfl rfl rfl rfl rfl rfl rfl rfl ?_
  refine D.q1 1 6 hR ?_
  refine G.cd (fun h6=>?_) fun h6=>?_
  ·rw [hcd] at h6
   have hn:q.num<0:=by
    have h:=(Bool.and_eq_true _ _ ▸ h6:_/\_).2
    exact of_decide_eq_true h
   skip
   refine G.z1 1 2 ?_
   refine G.rf ?_
   refine ⟨?_,rfl⟩
   unfold sgnZ
   rw [if_pos hn]
  ·rw [hcd,decide_eq_true (show (0:Int)<((⟨(qtx q).toArray⟩:ByteArray).data.toList.length:Int) by show (0:Int)<(((qtx q).length:Nat):Int);omega),Bool.true_and] at h6
   have hn:¬ q.num<0:=of_decide_eq_false h6
   refine G.z1 1 2 ?_
   refine G.rf ?_
   refine ⟨?_,rfl⟩
   unfold sgnZ
   rw [if_neg hn,if_neg hn0]

theorem rquick_q (C:Mem)(q:Rat)(hl:(qtx q).length<=1000000):Gives cx.P 74 [strV (qtx q)] C (.tuple #[.int .i64 (if fitQ q then q.num else 0),.int .i64 (if fitQ q then ((q.den:Nat):Int) else 0),.bool (fitQ q)]):=by
 have h:=rquick_fn C q hl
 cases hf:fitQ q with
 | true=>rw [hf] at h;exact h
 | false=>rw [hf] at h;exact h
theorem pos_den (a:Rat):0<a.den:=Nat.pos_of_ne_zero a.den_nz
theorem nine_mul {a:Int}{d:Nat}(ha:a.natAbs<1000000000)(hd:d<1000000000):-1000000000000000000<a*(d:Int)/\a*(d:Int)<1000000000000000000:=prod18 ha (by rw [Int.natAbs_natCast];exact hd)
theorem nine_mulN {a d:Nat}(ha:a<1000000000)(hd:d<1000000000):a*d<1000000000000000000:=Nat.mul_lt_mul'' ha hd
theorem parts_z (C:Mem)(q:Rat)(hl:(qtx q).length<1000000):Gives cx.P 76 [strV (qtx q)] C (.tuple #[strV (txt q.num),strV (txt ((q.den:Nat):Int))]):=by
 have h:=parts_q C q hl
 rwa [<- txt_nat] at h
theorem cS {z w:Int}{k:Nat}(hz:z.natAbs<B9 ^ k)(hw:w.natAbs<B9 ^ k):(z*w).natAbs<B9 ^ (k+k):=by
 rw [Int.natAbs_mul]
 exact prod_lt9 hz hw
theorem divS_pos {z:Int}{d:Nat}(hd:0<d):divS z ((d:Nat):Int)=mkRat z d:=by
 unfold divS
 rw [if_neg (by omega),Int.natAbs_natCast]
theorem denI {k:Nat}{q:Rat}(h:QB k q):((q.den:Nat):Int).natAbs<B9 ^ k:=by rw [Int.natAbs_natCast];exact h.2
theorem radd_fn (C:Mem)(hT:Tabs C)(a b:Rat)(k:Nat)(hk0:0<k)(hk:k<=10000)(ha:QB k a)(hb:QB k b):Gives cx.P 41 [strV (qtx a),strV (qtx b)] C (strV (qtx (a+b))):=by
 have hal:=qtx_len ha hk0
 have hbl:=qtx_len hb hk0
 have hda:=pos_den a
 have hdb:=pos_den b
 have hdd:0<a.den*b.den:=Nat.mul_pos hda hdb
 refine Fn.it (by kernel_rfl) Tryz.func41 67 fun w0=>?_
 refine G.z2 1 0 1 ?_
 refine G.z3 2 0 1 16 ?_
 refine G.cd (fun h16=>?_) fun h16=>?_
 ·have h0:a=0:=by rw [qtxEq0] at h16;exact of_decide_eq_true h16
  refine G.z1 2 4 ?_
  refine G.rf ?_
  refine ⟨?_,rfl⟩
  rw [h0,Rat.zero_add]
 ·refine G.z3 2 0 1 19 ?_
  refine G.cd (fun h19=>?_) fun h19=>?_
  ·have h0:b=0:=by rw [qtxEq0] at h19;exact of_decide_eq_true h19
   refine G.z1 2 4 ?_
   refine G.rf ?_
   refine ⟨?_,rfl⟩
   rw [h0,Rat.add_zero]
  ·refine G.rp 1 fun R hR=>?_
   refine D.aq (rquick_q _ a (by omega)) rfl rfl rfl rfl rfl rfl rfl (fun _=>rfl) ?_
   refine D.q5 7 0 1 5 6 7 hR ?_
   refine G.z5 1 0 1 5 6 27 ?_
   refine G.bN (fun fr C' L' μ=>(True)/\fr=[(0,[],strV (qtx a)),(1,[],strV (qtx b))]/\L'=[]) ?_ (fun fr C27 L27 μ hle27 hI=>?_)
   ·refine G.cd (fun h27=>?_) fun h27=>?_
    ·have hfa:fitQ a=true:=h27
     rw [if_pos hfa,if_pos hfa]
     have ha9:=fitQ_lt hfa
     refine G.rp 1 fun R hR=>?_
     refine D.aq (rquick_q _ b (by omega)) rfl rfl rfl rfl rfl rfl rfl (fun _=>rfl) ?_
     refine D.q7 7 0 1 5 6 8 9 10 hR ?_
     refine G.z7 1 0 1 5 6 8 9 34 ?_
     refine G.cd (fun h34=>?_) fun h34=>?_
     ·have hfb:fitQ b=true:=h34
      rw [if_pos hfb,if_pos hfb]
      have hb9:=fitQ_lt hfb
      have hm1:=nine_mul ha9.1 hb9.2
      have hm2:=nine_mul hb9.1 ha9.2
      have hm3:=nine_mulN ha9.2 hb9.2
      refine G.rp 2 fun R hR=>?_
      refine D.aw _ rfl ?_
      refine D.ps 2 ?_
      refine D.aw _ rfl ?_
      refine D.aw _ rfl ?_
      refine D.ps 2 ?_
      refine D.aw (((a.den*b.den:Nat):Int)) (Int.natCast_mul _ _).symm ?_
      refine D.aq (rsmall_fn _ (hT.mono mup) _ _ hdd (by omega) (by omega)) rfl rfl rfl rfl rfl rfl rfl (fun _=>rfl) ?_
      refine D.q1 1 4 hR ?_
      refine G.rf ?_
      exact ⟨by rw [rat_add_mk],rfl⟩
     ·refine G.ar 0 (Mem.le.refl _) (h_2 0 1) ⟨trivial,rfl,rfl⟩
    ·refine G.ar 0 (Mem.le.refl _) (h_2 0 1) ⟨trivial,rfl,rfl⟩
   ·obtain ⟨_,rfl,rfl⟩:=hI
    refine G.rp 1 fun R hR=>?_
    refine D.aq (parts_z _ a (by omega)) rfl rfl rfl rfl rfl rfl rfl (fun _=>rfl) ?_
    refine D.q3 5 1 11 12 hR ?_
    refine G.rp 1 fun R hR=>?_
    refine D.aq (parts_z _ b (by omega)) rfl rfl rfl rfl rfl rfl rfl (fun _=>rfl) ?_
    refine D.q4 5 11 12 13 14 hR ?_
    refine G.rp 2 fun R hR=>?_
    refine D.aq (imul_fn _ (hT.mono mup) _ _ k hk0 (by omega) ha.1 (denI hb)) rfl rfl rfl rfl rfl rfl rfl (fun _=>rfl) ?_
    refine D.ps 2 ?_
    refine D.aq (imul_fn _ (hT.mono mup) _ _ k hk0 (by omega) hb.1 (denI ha)) rfl rfl rfl rfl rfl rfl rfl (fun _=>rfl) ?_
    refine D.aq (iadd_fn _ (hT.mono mup) _ _ (k+k) (by omega) (by omega) (cS ha.1 (denI hb)) (cS hb.1 (denI ha))) rfl rfl rfl rfl rfl rfl rfl (fun _=>rfl) ?_
    refine D.ps 2 ?_
    refine D.aq (imul_fn _ (hT.mono mup) _ _ k hk0 (by omega) (denI ha) (denI hb)) rfl rfl rfl rfl rfl rfl rfl (fun _=>rfl) ?_
    refine D.aq (lowest_fn _ (hT.mono mup) _ _ (k+k+1) (by omega) (by omega) (Nat.lt_of_le_of_lt (Int.natAbs_add_le _ _) (sum_lt9 (cS ha.1 (denI hb)) (cS hb.1 (denI ha)))) (bn (cS (denI ha) (denI hb)) (by omega)) (by rw [<- Int.natCast_mul];omega)) rfl rfl rfl rfl rfl rfl rfl (fun _=>rfl) ?_
    refine D.q1 1 4 hR ?_
    refine G.rf ?_
    exact ⟨by rw [rat_add_mk,<- Int.natCast_mul,divS_pos hdd],rfl⟩

theorem QB_int {z:Int}{k:Nat}(h:z.natAbs<B9 ^ k)(hk:0<k):QB k (z:Rat):=⟨h,by
 show 1<B9 ^ k
 exact Nat.lt_of_lt_of_le (by decide:1<B9 ^ 1) (Nat.pow_le_pow_right (by decide) hk)⟩
theorem rmul_fn (C:Mem)(hT:Tabs C)(a b:Rat)(k:Nat)(hk0:0<k)(hk:k<=10000)(ha:QB k a)(hb:QB k b):Gives cx.P 42 [strV (qtx a),strV (qtx b)] C (strV (qtx (a*b))):=by
 have hal:=qtx_len ha hk0
 have hbl:=qtx_len hb hk0
 have hda:=pos_den a
 have hdb:=pos_den b
 have hdd:0<a.den*b.den:=Nat.mul_pos hda hdb
 refine Fn.it (by kernel_rfl) Tryz.func42 66 fun w0=>?_
 refine G.z2 1 0 1 ?_
 refine G.z3 3 0 1 15 ?_
 refine G.bN (fun fr C' L' μ=>(True)/\fr=[(0,[],strV (qtx a)),(1,[],strV (qtx b)),(15,[],.bool (decide (a=0∨b=0)))]/\L'=[]) ?_ (fun fr C15 L15 μ hle15 hI=>?_)
 ·refine G.cd (fun h15=>?_) fun h15=>?_
  ·have h0:a=0:=by rw [qtxEq0] at h15;exact of_decide_eq_true h15
   rw [qtxEq0,show decide (a=0)=decide (a=0∨b=0) by simp [h0]]
   refine G.ar 0 (Mem.le.refl _) (h_3 0 1 15) ⟨trivial,rfl,rfl⟩
  ·have h0:¬ a=0:=by rw [qtxEq0] at h15;exact of_decide_eq_false h15
   refine G.z3 3 0 1 15 ?_
   rw [qtxEq0,show decide (b=0)=decide (a=0∨b=0) by simp [h0]]
   refine G.ar 0 (Mem.le.refl _) (h_3 0 1 15) ⟨trivial,rfl,rfl⟩
 ·obtain ⟨_,rfl,rfl⟩:=hI
  refine G.cd (fun h15b=>?_) fun h15b=>?_
  ·have h0:=of_decide_eq_true h15b
   refine G.z1 1 4 ?_
   refine G.rf ?_
   refine ⟨?_,rfl⟩
   rw [show a*b=0 by rcases h0 with h | h <;> simp [h],qtx_zero]
   rfl
  ·refine G.z3 3 0 1 20 ?_
   refine G.cd (fun h20=>?_) fun h20=>?_
   ·have h1:a=1:=by rw [qtxEq1] at h20;exact of_decide_eq_true h20
    refine G.z1 2 4 ?_
    refine G.rf ?_
    refine ⟨?_,rfl⟩
    rw [h1,Rat.one_mul]
   ·refine G.z3 3 0 1 24 ?_
    refine G.cd (fun h24=>?_) fun h24=>?_
    ·have h1:b=1:=by rw [qtxEq1] at h24;exact of_decide_eq_true h24
     refine G.z1 2 4 ?_
     refine G.rf ?_
     refine ⟨?_,rfl⟩
     rw [h1,Rat.mul_one]
    ·refine G.rp 1 fun R hR=>?_
     refine D.aq (rquick_q _ a (by omega)) rfl rfl rfl rfl rfl rfl rfl (fun _=>rfl) ?_
     refine D.q5 7 0 1 5 6 7 hR ?_
     refine G.z5 1 0 1 5 6 34 ?_
     refine G.bN (fun fr C' L' μ=>(True)/\fr=[(0,[],strV (qtx a)),(1,[],strV (qtx b))]/\L'=[]) ?_ (fun fr C34 L34 μ hle34 hI=>?_)
     ·refine G.cd (fun h34=>?_) fun h34=>?_
      ·have hfa:fitQ a=true:=h34
       rw [if_pos hfa,if_pos hfa]
       have ha9:=fitQ_lt hfa
       refine G.rp 1 fun R hR=>?_
       refine D.aq (rquick_q _ b (by omega)) rfl rfl rfl rfl rfl rfl rfl (fun _=>rfl) ?_
       refine D.q7 7 0 1 5 6 8 9 10 hR ?_
       refine G.z7 1 0 1 5 6 8 9 41 ?_
       refine G.cd (fun h41=>?_) fun h41=>?_
       ·have hfb:fitQ b=true:=h41
        rw [if_pos hfb,if_pos hfb]
        have hb9:=fitQ_lt hfb
        have hm1:=prod18 ha9.1 hb9.1
        have hm3:=nine_mulN ha9.2 hb9.2
        refine G.rp 2 fun R hR=>?_
        refine D.aw _ rfl ?_
        refine D.ps 2 ?_
        refine D.aw (((a.den*b.den:Nat):Int)) (Int.natCast_mul _ _).symm ?_
        refine D.aq (rsmall_fn _ (hT.mono mup) _ _ hdd (by omega) (by omega)) rfl rfl rfl rfl rfl rfl rfl (fun _=>rfl) ?_
        refine D.q1 1 4 hR ?_
        refine G.rf ?_
        exact ⟨by rw [rat_mul_mk],rfl⟩
       ·refine G.ar 0 (Mem.le.refl _) (h_2 0 1) ⟨trivial,rfl,rfl⟩
      ·refine G.ar 0 (Mem.le.refl _) (h_2 0 1) ⟨trivial,rfl,rfl⟩
     ·obtain ⟨_,rfl,rfl⟩:=hI
      refine G.rp 1 fun R hR=>?_
      refine D.aq (parts_z _ a (by omega)) rfl rfl rfl rfl rfl rfl rfl (fun _=>rfl) ?_
      refine D.q3 5 1 11 12 hR ?_
      refine G.rp 1 fun R hR=>?_
      refine D.aq (parts_z _ b (by omega)) rfl rfl rfl rfl rfl rfl rfl (fun _=>rfl) ?_
      refine D.q4 5 11 12 13 14 hR ?_
      refine G.rp 2 fun R hR=>?_
      refine D.aq (imul_fn _ (hT.mono mup) _ _ k hk0 (by omega) ha.1 hb.1) rfl rfl rfl rfl rfl rfl rfl (fun _=>rfl) ?_
      refine D.ps 2 ?_
      refine D.aq (imul_fn _ (hT.mono mup) _ _ k hk0 (by omega) (denI ha) (denI hb)) rfl rfl rfl rfl rfl rfl rfl (fun _=>rfl) ?_
      refine D.aq (lowest_fn _ (hT.mono mup) _ _ (k+k) (by omega) (by omega) (cS ha.1 hb.1) (cS (denI ha) (denI hb)) (by rw [<- Int.natCast_mul];omega)) rfl rfl rfl rfl rfl rfl rfl (fun _=>rfl) ?_
      refine D.q1 1 4 hR ?_
      refine G.rf ?_
      exact ⟨by rw [rat_mul_mk,<- Int.natCast_mul,divS_pos hdd],rfl⟩

theorem pow9 (k:Nat):B9 ^ k=10 ^ (9*k):=by rw [Nat.pow_mul]
theorem b0 {s:Str}(h:aU s=true):s=txt (decZ s)/\(decZ s).natAbs<B9 ^ 23:=by
 have h1:=rightI_iff.1 h
 refine ⟨canon_txt (by unfold aU at h;exact (Bool.and_eq_true_iff.1 h).1), ?_⟩
 rw [decZ_abs]
 have h2:=okD_can.1 h1.1
 have h3:=bI h2.1.1
 exact Nat.lt_of_lt_of_le h3 (by rw [pow9];exact Nat.pow_le_pow_right (by decide) (by omega))
theorem rat_of {s:Str}(h:aX s=true):∃ q:Rat,s=qtx q/\QB 23 q:=by
 unfold aX at h
 rw [Bool.and_eq_true,Bool.and_eq_true] at h
 obtain ⟨⟨h1,h2⟩,h3⟩:=h
 obtain ⟨e1,b1⟩:=b0 h1
 rcases cI 47 s with ⟨hc,_,_⟩ | ⟨pre,post,hc,hs,_⟩
 ·rw [hc] at e1 b1
  exact ⟨((decZ s:Int):Rat),by rw [qtx_int];exact e1,QB_int b1 (by decide)⟩
 ·rw [hc] at h2 h3 e1 b1
  simp only [Option.getD_some] at h2 e1 b1
  obtain ⟨e2,b2⟩:=b0 h2
  unfold restOk at h3
  simp only [Bool.and_eq_true,decide_eq_true_eq,beq_iff_eq] at h3
  obtain ⟨⟨h4,_⟩,h6⟩:=h3
  have hd0:(decZ post).natAbs≠0:=by omega
  refine ⟨⟨decZ pre,(decZ post).natAbs,hd0,h6⟩, ?_,b1,b2⟩
  rw [qtx_txt]
  show s=txt (decZ pre)++bV (denS (decZ post).natAbs)
  rw [dens_more (by omega),<- e1,hs]
  show pre++47::post=pre++47::decS (decZ post).natAbs
  rw [<- txt_nat,show (((decZ post).natAbs:Nat):Int)=decZ post by omega,<- e2]
theorem icompare_right (C:Mem)(b:Str)(hb:aU b=true):Gives cx.P 97 [strV b,strV [49]] C (.int .i64 (cmpZ (decZ b) 1)):=by
 obtain ⟨h1,h2⟩:=b0 hb
 have h:=icompare_fn C (decZ b) 1 (by have:=a7 h2 (by decide);omega) (by rw [show decS (1:Int).natAbs=[49] from one_dec];decide)
 rwa [<- one_val,<- h1] at h
theorem igcd_right (C:Mem)(hT:Tabs C)(a b:Str)(ha:aU a=true)(hb:aU b=true):Gives cx.P 98 [strV a,strV b] C (strV (txt (Nat.gcd (decZ a).natAbs (decZ b).natAbs:Nat))):=by
 obtain ⟨h1,h2⟩:=b0 ha
 obtain ⟨h3,h4⟩:=b0 hb
 have h:=igcd_fn C hT (decZ a) (decZ b) 23 (by decide) (by decide) h2 h4
 rwa [<- h1,<- h3] at h
theorem chk_right {b:Bool}(h:(chkZ b != 0)=false):b=true:=by cases b <;> first | rfl | (exact absurd h (by decide))
theorem rcheck_fn (C:Mem)(hT:Tabs C)(s:Str)(hl:s.length<=999998):Gives cx.P 72 [strV s] C (.int .i64 (chkZ (aX s))):=by
 have hls:=ratOk_len hl
 obtain ⟨num,bo,hct⟩:∃ a b,cut1 47 s=(a,b):=⟨_,_,rfl⟩
 have hM:aX s=(aU num && aU (bo.getD [49]) && restOk (decZ num) bo):=by
  unfold aX;rw [hct]
 rw [hct] at hls
 simp only at hls
 refine Fn.it (by kernel_rfl) Tryz.func72 39 fun w0=>?_
 refine G.z1 1 0 ?_
 refine G.rp 1 fun R hR=>?_
 refine D.aq (by have h:=cut_fn C s 47 (by omega);rw [hct] at h;exact h) rfl rfl rfl rfl rfl rfl rfl (fun _=>rfl) ?_
 refine D.q3 7 3 4 5 hR ?_
 refine G.rp 1 fun R hR=>?_
 refine D.ai (icheck_fn _ num) ?_
 refine D.q4 1 3 4 5 16 hR ?_
 refine G.cd (fun h16=>?_) fun h16=>?_
 ·have hno:aX s=false:=by
   rw [hM]
   cases h1:aU num with
   | false=>rfl
   | true=>rw [h1] at h16;exact absurd h16 (by decide)
  refine G.z1 1 2 ?_
  refine G.rf ?_
  exact ⟨by rw [hno];rfl,rfl⟩
 ·have hr1:aU num=true:=by
   cases h1:aU num with
   | true=>rfl
   | false=>rw [h1] at h16;exact absurd h16 (by decide)
  rw [hr1,Bool.true_and] at hM
  obtain ⟨hn1,hn2⟩:=b0 hr1
  refine G.z3 2 3 4 18 ?_
  refine G.cd (fun h18=>?_) fun h18=>?_
  ·have hbo:bo=none:=by
    cases bo with
    | none=>rfl
    | some b=>simp at h18
   refine G.z1 1 2 ?_
   refine G.rf ?_
   refine ⟨?_,rfl⟩
   rw [hM,hbo]
   rfl
  ·obtain ⟨b,hbo⟩:∃ b,bo=some b:=by
    cases bo with
    | some b=>exact ⟨b,rfl⟩
    | none=>simp at h18
   subst hbo
   obtain ⟨zn,ezn⟩:∃ z,decZ num=z:=⟨_,rfl⟩
   obtain ⟨zd,ezd⟩:∃ z,decZ b=z:=⟨_,rfl⟩
   have hM2:aX s=(aU b && restOk (decZ num) (some b)):=hM
   unfold restOk at hM2
   simp only [ezn,ezd] at hM2 hn1 hn2
   have e0:(num == [48])=(zn == 0):=by
    rw [hn1]
    have h:=txtEq0 zn
    rw [show (zn == 0)=decide (zn=0) by by_cases h:zn=0 <;> simp [h]]
    exact h
   have e1:(chkZ (aU b) != 0)=!aU b:=by cases aU b <;> rfl
   have e2:decide (cmpZ zd 1<=0)=!decide (1<zd):=by
    unfold cmpZ
    by_cases h:1<zd
    ·rw [if_neg (by omega),if_pos h,decide_eq_true h];rfl
    ·rw [decide_eq_false h]
     refine decide_eq_true ?_
     split <;> first | omega | (split <;> omega)
   have key:(chkZ (aU b) != 0 || decide (cmpZ (decZ b) 1<=0) || (num == [48]) || !(decS ((decZ num).natAbs.gcd (decZ b).natAbs) == [49]))=!aX s:=by
    have e3:=decEq1 (zn.natAbs.gcd zd.natAbs)
    have e4:(decS (zn.natAbs.gcd zd.natAbs) == [49])=(zn.natAbs.gcd zd.natAbs == 1):=e3
    rw [ezn,ezd,e0,e1,e2,e4,hM2]
    cases aU b <;> cases decide (1<zd) <;> cases (zn == 0) <;> cases (zn.natAbs.gcd zd.natAbs == 1) <;> rfl
   rw [<- txt_nat] at key
   refine G.z2 4 6 7 ?_
   refine G.rp 1 fun R hR=>?_
   refine D.ai (icheck_fn _ b) ?_
   refine D.ps 3 ?_
   refine D.aP (fun hg=>(icompare_right _ b (by exact chk_right (show (chkZ (aU b) != 0)=false/\True from hg).1))) rfl rfl rfl rfl rfl rfl rfl rfl rfl ?_
   refine D.ac ?_
   refine D.ay rfl rfl rfl rfl rfl rfl rfl rfl ?_
   refine D.ps 3 ?_
   refine D.ay rfl rfl rfl rfl rfl rfl rfl rfl ?_
   refine D.ps 3 ?_
   refine D.aP (fun hg=>(igcd_right _ (hT.mono mup) num b hr1 (by exact chk_right (Bool.or_eq_false_iff.1 (Bool.or_eq_false_iff.1 (show (((chkZ (aU b) != 0) || decide (cmpZ (decZ b) 1<=0)) || (num == [48]))=false/\True from hg).1).1).1))) rfl rfl rfl rfl rfl rfl rfl rfl rfl ?_
   refine D.ac ?_
   refine D.ay rfl rfl rfl rfl rfl rfl rfl rfl ?_
   refine D.e1 38 hR ?_
   refine G.cd (fun h38=>?_) fun h38=>?_
   ·have hno:aX s=false:=by
     have h:(!aX s)=true:=key.symm.trans h38
     simpa using h
    refine G.z1 1 2 ?_
    refine G.rf ?_
    exact ⟨by rw [hno];rfl,rfl⟩
   ·have hno:aX s=true:=by
     have h:(!aX s)=false:=key.symm.trans h38
     simpa using h
    refine G.z1 1 2 ?_
    refine G.rf ?_
    exact ⟨by rw [hno];rfl,rfl⟩

theorem pmul_gives (x y:Nat)(hx:x<18446744073709551616)(hy:y<18446744073709551616)(C:Mem):Gives cx.P 95 [.int .u64 x,.int .u64 y] C (.tuple #[.int .u64 ((x*y / 18446744073709551616:Nat):Int),.int .u64 ((x*y % 18446744073709551616:Nat):Int)]) :=
 Gives.ofCalls (by kernel_rfl) (fun w=>Any.bits_Mul Tryz.mul x y hx hy w) C

theorem prep_into {a:Value}{n k m:Nat}{tl:List Value}(_hn:k+m<=n)(hk:m<=k)(_htl:tl.length=n-k) :
  aj (List.replicate k a++tl) ((List.replicate k a++tl).take m) k=List.replicate (k+m) a++tl.drop m:=by
 have h1:(List.replicate k a++tl).take m=List.replicate m a:=by
  rw [List.take_append_of_le_length (by simpa using hk),List.take_replicate,Nat.min_eq_left hk]
 have h2:(List.replicate k a++tl).take k=List.replicate k a:=by
  rw [List.take_append_of_le_length (by simp),List.take_replicate,Nat.min_self]
 have h3:(List.replicate k a++tl).drop (k+m)=tl.drop m:=by
  rw [List.drop_append,List.length_replicate,List.drop_eq_nil_of_le (by simp),List.nil_append]
  congr 1;omega
 unfold aj
 rw [h1,h2,List.length_replicate,h3,List.replicate_append_replicate]

theorem pzrow_rep (a:Value)(n:Nat):zrow [a] n=List.replicate n a:=by
 rw [bh]
 induction n with
 | zero=>rfl
 | succ n ih=>rw [List.replicate_succ,List.flatten_cons,ih,List.replicate_succ];rfl
theorem pmul_one (n:Nat)(hn:n<18446744073709551616)(C:Mem):Gives cx.P 95 [.int .u64 (1:Int),.int .u64 n] C (.tuple #[.int .u64 0,.int .u64 n]):=by
 have h:=pmul_gives 1 n (by omega) hn C
 have e1:1*n / 18446744073709551616=0:=by omega
 have e2:1*n % 18446744073709551616=n:=by omega
 rw [e1,e2] at h
 exact h
theorem prepeat_fn (C:Mem)(v:Value)(n:Nat)(s:Str)(hv:Sl C 1 v [[strV s]])(hn:n<=1000000):Jog.Fn cx.P 73 [v,.int .i64 n] C [] fun u _C' L'=>∃ b,u=.slice (some ⟨b,0,none⟩) n n/\L'=[.arr u 25 1 n (List.replicate n (strV s))]:=by
 have hv0:=hv
 obtain ⟨A,c,rfl,_⟩:=hv0
 refine Fn.it (by kernel_rfl) Tryz.func73 48 fun w0=>?_
 refine G.z2 1 0 1 ?_
 refine G.z3 2 0 1 10 ?_
 refine G.cd (fun h10=>?_) fun h10=>?_
 ·simp at h10;omega
 ·refine G.rp 2 fun R hR=>?_
  refine D.bK (c:=1) rfl rfl rfl rfl rfl rfl rfl rfl rfl (fun _=>rfl) ?_
  refine D.ac ?_
  refine D.bK (c:=(n:Int)) rfl rfl rfl rfl rfl rfl rfl rfl (by rw [IntKind.wrap_u64];omega) (fun _=>rfl) ?_
  refine D.aq (pmul_one n (by omega) _) rfl rfl rfl rfl rfl rfl rfl (fun _=>rfl) ?_
  refine D.q3 5 0 5 6 hR ?_
  refine G.rp 5 fun R hR=>?_
  refine D.ay rfl rfl rfl rfl rfl rfl rfl rfl ?_
  refine D.e3 0 6 26 hR ?_
  refine G.cd (fun h26=>?_) fun h26=>?_
  ·simp at h26;omega
  ·refine G.rp 1 fun R hR=>?_
   refine D.bK (c:=(n:Int)) rfl rfl rfl rfl rfl rfl rfl rfl (by rw [IntKind.wrap_i64];omega) (fun _=>rfl) ?_
   refine D.aS rfl rfl rfl rfl rfl rfl rfl rfl rfl (Nat.le_refl _) (by show 16*n<=281474976710656;omega) (by simp only [maxLen];omega) (fun _=>rfl) (fun b30=>?_)
   refine D.q2 1 0 7 hR ?_
   refine G.rp 2 fun R hR=>?_
   refine D.copyC (j:=0) (q:=min 1 n) rfl rfl rfl rfl rfl rfl rfl rfl rfl rfl rfl rfl hv rfl rfl (by rw [bu];show 0+min 1 n*1<=n*1;omega) (fun _=>rfl) ?_
   refine D.q2 1 7 8 hR ?_
   have hst0:aj (zrow [strV []] n) (([[strV s]]:List (List Value)).take (min 1 n)).flatten 0=List.replicate (min 1 n) (strV s)++List.replicate (n-min 1 n) (strV []):=by
    rw [pzrow_rep]
    cases n with
    | zero=>rfl
    | succ n=>rw [show min 1 (n+1)=1 by omega,List.replicate_succ];rfl
   refine G.aJ (L':=[.arr (.slice (some ⟨b30,0,none⟩) n n) 25 1 n (List.replicate (min 1 n) (strV s)++List.replicate (n-min 1 n) (strV []))]) (by rw [<- hst0];rfl) ?_
   refine G.loop (fun fr C' L' μ=>∃ (k:Nat),(k<=n/\min 1 n<=k)/\fr=[(7,[],.slice (some ⟨b30,0,none⟩) n n),(8,[],.int .i64 k)]/\L'=[.arr (.slice (some ⟨b30,0,none⟩) n n) 25 1 n (List.replicate k (strV s)++List.replicate (n-k) (strV []))]/\μ=n-k) (h_2 7 8) ⟨min 1 n,⟨Nat.min_le_right _ _,Nat.le_refl _⟩,rfl,rfl,rfl⟩ (fun fr C0' L0' m hle0 hI=>?_)
   obtain ⟨k,⟨hk,hk1⟩,rfl,rfl,rfl⟩:=hI
   refine G.z3 4 7 8 37 ?_
   refine G.cd (fun h37=>?_) fun h37=>?_
   ·simp only [decide_eq_true_eq] at h37
    have hkn:k<n:=by omega
    have hk2:1<=k:=by omega
    refine G.aR [0,1,2,3,4,5,6,7,8,9] [] rfl (by kernel_rfl) (fun R hB hR=>?_)
    refine D.ps 3 ?_
    refine D.db k n n rfl rfl rfl rfl rfl rfl rfl rfl rfl rfl rfl rfl (fun _=>⟨.inr ⟨_,rfl⟩,.inl ⟨rfl,rfl⟩,.inl ⟨rfl,rfl⟩,hk,Nat.le_refl _,Nat.le_refl _⟩) rfl rfl ?_
    refine D.ps 2 ?_
    refine D.db 0 k n rfl rfl rfl rfl rfl rfl rfl rfl rfl rfl rfl rfl (fun _=>⟨.inl ⟨rfl,rfl⟩,.inr ⟨_,rfl⟩,.inl ⟨rfl,rfl⟩,Nat.zero_le _,hk,Nat.le_refl _⟩) rfl rfl ?_
    refine D.copyS (j:=0) (off:=k) (g0:=b30) (dl:=n-k) (dc:=n-k) (sl:=k-0) (sc:=n-0) (q:=min k (n-k)) rfl rfl rfl rfl rfl rfl rfl rfl (by show some (Value.slice (if n=k then some (⟨b30,0,none⟩:Addr) else (some (⟨b30,0,none⟩:Addr)).map (·.add (k*1))) (n-k) (n-k))=_;rw [if_neg (by omega)];simp [Addr.add_lit]) (by show some (Value.slice (if n=0 then some (⟨b30,0,none⟩:Addr) else (some (⟨b30,0,none⟩:Addr)).map (·.add (0*1))) (k-0) (n-0))=_;split <;> simp [Addr.add_lit]) rfl rfl (by simp [oneB,strV]) (by simp;omega) (fun _=>rfl) ?_
    refine D.cL (((k+min k (n-k):Nat):Int)) rfl rfl rfl rfl (by omega) (by omega) (by omega) rfl rfl ?_
    refine D.q2 1 7 8 hR ?_
    refine G.aJ (L':=[.arr (.slice (some ⟨b30,0,none⟩) n n) 25 1 n (List.replicate (k+min k (n-k)) (strV s)++List.replicate (n-(k+min k (n-k))) (strV []))]) (by rw [prep_into (n:=n) (by omega) (Nat.min_le_left _ _) (by simp),List.drop_replicate,Nat.sub_sub];rfl) ?_
    refine G.au (m':=n-(k+min k (n-k))) (by omega) hle0 (h_2 7 8) ⟨k+min k (n-k),⟨by omega,by omega⟩,rfl,rfl,rfl⟩
   ·simp only [decide_eq_false_iff_not] at h37
    have hkn:k=n:=by omega
    subst hkn
    refine G.z1 2 4 ?_
    refine G.aB (G.fin1 rfl rfl ?_)
    exact ⟨b30,rfl,by simp⟩

theorem pzeros_fn (C:Mem)(n:Nat)(hn:n<=1000000):Jog.Fn cx.P 40 [.int .i64 n] C [] fun u _C' L'=>∃ b,u=.slice (some ⟨b,0,none⟩) n n/\L'=[.arr u 25 1 n (List.replicate n (strV [48]))]:=by
 refine Fn.it (by kernel_rfl) Tryz.func40 6 fun w0=>?_
 refine G.z1 1 0 ?_
 refine G.aH [(2,3)] rfl (fun R hR=>?_)
 refine D.ah [[strV [48]]] (fun p3 C3 hle3 hs3=>?_)
 refine D.ac ?_
 refine D.call (prepeat_fn _ _ n [48] (hs3.mono mup) hn) rfl (.inr (by decide)) rfl rfl rfl rfl rfl rfl (List.Perm.refl _) (fun _=>rfl) (fun v5 C5 L5 hle5 hq5=>?_)
 refine D.q1 1 2 hR ?_
 obtain ⟨b,rfl,rfl⟩:=hq5
 refine G.aB (G.fin1 rfl rfl ?_)
 exact ⟨b,rfl,rfl⟩
theorem prow_at {α:Type}{f:α->List Value}{l:List α}{i:Nat}{x:α}(h:l[i]?=some x):(l.map f)[i]?=some (f x):=by rw [List.getElem?_map,h];rfl
def encT1 (s:Str):List Value:=[strV s]
def encR (q:Rat):List Value:=[strV (qtx q)]
theorem encR_T (l:List Rat):l.map encR=(l.map qtx).map encT1:=by rw [List.map_map];rfl
def pixF {α:Type}(p:α->Bool):List α->Nat->Int
 | [],_=>-1
 | x::l,k=>if p x then (k:Nat) else pixF p l (k+1)
theorem pixF_hit {α:Type}{p:α->Bool}:∀ {l:List α}{i k:Nat}{x:α},l[i]?=some x->p x=true->(∀ y∈l.take i,p y=false)->pixF p l k=((k+i:Nat):Int)
 | y::l,0,k,x,h,hp,_=>by
  simp only [List.getElem?_cons_zero,Option.some.injEq] at h
  subst h
  simp [pixF,hp]
 | y::l,i+1,k,x,h,hp,hn=>by
  simp only [List.getElem?_cons_succ] at h
  have hy:p y=false:=hn y (by simp)
  have:=pixF_hit (k:=k+1) h hp (fun z hz=>hn z (by simp [hz]))
  simp only [pixF,hy,Bool.false_eq_true,if_false,this]
  omega
theorem pixF_miss {α:Type}{p:α->Bool}:∀ {l:List α}{k:Nat},(∀ y∈l,p y=false)->pixF p l k=-1
 | [],_,_=>rfl
 | y::l,k,h=>by
  simp only [pixF,h y List.mem_cons_self,Bool.false_eq_true,if_false]
  exact pixF_miss fun z hz=>h z (List.mem_cons_of_mem _ hz)
theorem pixF_cases {α:Type}(p:α->Bool)(l:List α):(pixF p l 0=-1/\∀ y∈l,p y=false)∨∃ (i:Nat)(x:α),pixF p l 0=(i:Nat)/\l[i]?=some x/\p x=true/\∀ y∈l.take i,p y=false:=by
 by_cases h:∀ y∈l,p y=false
 ·exact .inl ⟨pixF_miss h,h⟩
 ·right
  have key:∀ (l:List α),(¬ ∀ y∈l,p y=false)->∃ (i:Nat)(x:α),l[i]?=some x/\p x=true/\∀ y∈l.take i,p y=false:=by
   intro l
   induction l with
   | nil=>intro h;exact absurd (fun y hy=>(by cases hy)) h
   | cons a l ih =>
    intro h
    by_cases ha:p a=true
    ·exact ⟨0,a,rfl,ha,by simp⟩
    ·have ha':p a=false:=by simpa using ha
     obtain ⟨i,x,h1,h2,h3⟩:=ih (fun h2=>h (fun y hy=>by
      rcases List.mem_cons.1 hy with rfl | hy
      ·exact ha'
      ·exact h2 y hy))
     refine ⟨i+1,x,by simpa using h1,h2,fun y hy=>?_⟩
     rw [List.take_succ_cons] at hy
     rcases List.mem_cons.1 hy with rfl | hy
     ·exact ha'
     ·exact h3 y hy
  obtain ⟨i,x,h1,h2,h3⟩:=key l h
  exact ⟨i,x,by rw [pixF_hit h1 h2 h3,Nat.zero_add],h1,h2,h3⟩
theorem pindex_fn (C:Mem)(v:Value)(l:List Str)(g:Nat)(ca:List Value)(pb:Str->Bool)(hv:Sl C 1 v (l.map encT1))(_hen:Jog.Enters cx.P g=true)
  (hp:∀ x∈l,∀ D:Mem,C.le D->Gives cx.P g (strV x::ca) D (.bool (pb x))) :
  Gives cx.P 43 [v,.func (.func g) #[] ⟨ca⟩] C (.int .i64 (pixF pb l 0)):=by
 obtain ⟨A0,c0,rfl,hc1,hc2,_⟩:=id hv
 have hmx:maxLen<=9223372036854775807:=by simp [maxLen]
 simp only [List.length_map] at hv hc1 ⊢
 refine Fn.it (by kernel_rfl) Tryz.func43 19 fun w0=>?_
 refine G.z2 1 0 1 ?_
 refine G.z4 3 0 1 7 8 ?_
 refine G.loop (fun fr C' L' μ=>∃ (i:Nat),(i<=l.length/\∀ y∈l.take i,pb y=false)/\fr=[(0,[],.slice A0 l.length c0),(1,[],.func (.func g) #[] ⟨ca⟩),(7,[],.int .i64 l.length),(8,[],.int .i64 i)]/\L'=[]/\μ=l.length-i) (h_4 0 1 7 8) ⟨0,⟨Nat.zero_le _,by simp⟩,rfl,rfl,rfl⟩ (fun fr C0' L0' m hle0 hI=>?_)
 obtain ⟨i,⟨hi,hno⟩,rfl,rfl,rfl⟩:=hI
 refine G.z5 1 0 1 7 8 9 ?_
 refine G.cd (fun h9=>?_) fun h9=>?_
 ·have hil:i<l.length:=by simpa using h9
  obtain ⟨x,hx⟩:∃ x,l[i]?=some x:=⟨l[i],List.getElem?_eq_getElem hil⟩
  refine G.z5 2 0 1 5 7 8 ?_
  refine G.rp 3 fun R hR=>?_
  refine D.ap (hv.mono mup) rfl rfl rfl rfl rfl rfl rfl rfl rfl rfl (by omega) (prow_at hx) (fun _=>rfl) (fun p14 hp14=>?_)
  refine D.af hp14 ?_
  refine D.ai (hp x (List.mem_of_getElem? hx) _ mup) ?_
  refine D.e6 0 1 5 7 8 16 hR ?_
  refine G.cd (fun h16=>?_) fun h16=>?_
  ·have hyes:pb x=true:=h16
   refine G.z1 2 4 ?_
   refine G.rf ?_
   exact ⟨by rw [pixF_hit hx hyes hno,Nat.zero_add],rfl⟩
  ·have hn:pb x=false:=h16
   refine G.rg fun R hR=>?_
   refine D.aw _ rfl ?_
   refine D.q4 1 0 1 7 8 hR ?_
   refine G.au (m':=l.length-(i+1)) (by omega) hle0 (h_4 0 1 7 8) ⟨i+1,⟨by omega,fun y hy=>by
    rw [List.take_add_one,hx] at hy
    rcases List.mem_append.1 hy with hy | hy
    ·exact hno y hy
    ·simp only [Option.toList_some,List.mem_singleton] at hy
     subst hy
     exact hn⟩,rfl,rfl,rfl⟩
 ·have hil:i=l.length:=by
   have:¬ i<l.length:=by simpa using h9
   omega
  refine G.z1 1 4 ?_
  refine G.rf ?_
  exact ⟨by rw [hil,List.take_length] at hno;rw [pixF_miss hno],rfl⟩
theorem pany_fn (C:Mem)(v:Value)(l:List Str)(g:Nat)(ca:List Value)(pb:Str->Bool)(hv:Sl C 1 v (l.map encT1))(hen:Jog.Enters cx.P g=true)
  (hp:∀ x∈l,∀ D:Mem,C.le D->Gives cx.P g (strV x::ca) D (.bool (pb x))) :
  Gives cx.P 20 [v,.func (.func g) #[] ⟨ca⟩] C (.bool (l.any pb)):=by
 refine Fn.it (by kernel_rfl) Tryz.func20 9 fun w0=>?_
 refine G.z2 1 0 1 ?_
 refine G.rp 2 fun R hR=>?_
 refine D.ai (pindex_fn _ v l g ca pb (hv.mono mup) hen (fun x hx D hD=>hp x hx D (Mem.le.trans mup hD))) ?_
 refine D.q1 2 4 hR ?_
 refine G.rf ?_
 refine ⟨?_,rfl⟩
 congr 1
 rcases pixF_cases pb l with ⟨h1,h2⟩ | ⟨i,x,h1,h2,h3,_⟩
 ·rw [h1,List.any_eq_false.2 (fun y hy=>by rw [h2 y hy];decide)]
  rfl
 ·rw [h1,List.any_eq_true.2 ⟨x,List.mem_of_getElem? h2,h3⟩]
  exact decide_eq_true (by omega)
theorem pwrong_fn (C:Mem)(hT:Tabs C)(s:Str)(hl:s.length<=999998):Gives cx.P 38 [strV s] C (.bool (!aX s)):=by
 refine Fn.it (by kernel_rfl) Tryz.func38 6 fun w0=>?_
 refine G.z1 1 0 ?_
 refine G.rp 1 fun R hR=>?_
 refine D.ai (rcheck_fn _ (hT.mono mup) s hl) ?_
 refine D.q1 2 2 hR ?_
 refine G.rf ?_
 exact ⟨by cases aX s <;> rfl,rfl⟩
def bg (n:Int)(l:List Str):Int:=if (l.length:Int)=n then chkZ (l.all aX) else 5
theorem plist_fn (C:Mem)(hT:Tabs C)(v:Value)(n:Int)(l:List Str)(hv:Sl C 1 v (l.map encT1))(hs:∀ s∈l,s.length<=999998):Gives cx.P 37 [v,.int .i64 n] C (.int .i64 (bg n l)):=by
 obtain ⟨A0,c0,rfl,hc1,hc2,_⟩:=id hv
 have hmx:maxLen<=9223372036854775807:=by simp [maxLen]
 simp only [List.length_map] at hv hc1 ⊢
 refine Fn.it (by kernel_rfl) Tryz.func37 13 fun w0=>?_
 refine G.z2 1 0 1 ?_
 refine G.z2 5 0 5 ?_
 refine G.cd (fun h5=>?_) fun h5=>?_
 ·have hne:¬ (l.length:Int)=n:=by simpa using h5
  refine G.z1 1 4 ?_
  refine G.rf ?_
  exact ⟨by unfold bg;rw [if_neg hne],rfl⟩
 ·have heq:(l.length:Int)=n:=by simpa using h5
  refine G.rp 1 fun R hR=>?_
  refine D.ai (pany_fn _ _ l _ [] (fun s=>!aX s) (hv.mono mup) rfl (fun s hs' D hD=>pwrong_fn D (hT.mono (Mem.le.trans mup hD)) s (hs s hs'))) ?_
  refine D.q1 1 10 hR ?_
  refine G.cd (fun h10=>?_) fun h10=>?_
  ·have hno:l.all aX=false:=by
    obtain ⟨s,h1,h2⟩:=List.any_eq_true.1 (show (l.any fun s=>!aX s)=true from h10)
    exact List.all_eq_false.2 ⟨s,h1,by simpa using h2⟩
   refine G.z1 1 4 ?_
   refine G.rf ?_
   exact ⟨by unfold bg;rw [if_pos heq,hno];rfl,rfl⟩
  ·have hyes:l.all aX=true:=by
    have h1:=List.any_eq_false.1 (show (l.any fun s=>!aX s)=false from h10)
    exact List.all_eq_true.2 fun s hs=>by simpa using h1 s hs
   refine G.z1 1 4 ?_
   refine G.rf ?_
   exact ⟨by unfold bg;rw [if_pos heq,hyes];rfl,rfl⟩
end Go.Proofs.YtoliaheocaoncaaGreatDoor
namespace Go.Jog
open Go

end Go.Jog
namespace Go.Jog
open Go

end Go.Jog
namespace Go.Jog
open Go Go.MapKept

section
variable {cx:Cx} {n:Nat} {ds:List (Option Nat)} {R:Rg n ds} {its:List It} {fr:Fr} {C:Mem} {L:List Ent} {i k d:Nat} {o:Oper} {g:GL} {v:Value}
variable {kd:TypeDesc} {κ:Type} [DecidableEq κ] (K:KeyT kd κ)
theorem D.insert {t kt et j b:Nat}{x y z:Operand}{m:List (κ × Value)}{key:κ}{ti:TI}(hk:k=3)(hg:gOn ds fr o.guard=true)(hd:o.dst=none)(hop:o.op=.insert t x y z)
  (hx:ev fr [] x=some (.map (some b))) (hy:ev fr [] y=some (K.enc key)) (hz:ev fr [] z=some v) (hm:L[j]?=some (.obj b (bF K.enc m)))
  (ht:cx.T.get t=some ti) (htk:ti.k=.map kt et) (hkt:cx.P.underlying kt=some kd)
  (h:D cx R its fr C (.obj b (bF K.enc (mset m key v))::L.eraseIdx j)):D cx R ((i,k,o)::its) fr C L :=
 D.eff0 (S:=fun C' L'=>C'=C/\L'=.obj b (bF K.enc (mset m key v))::L.eraseIdx j) (by subst hk;rfl) hg (fun a hs w _ hw=>by
  have hw':=St.perm hw (aa hm)
  have hb:w.heap[b]?=some (bF K.enc m):=hw'.sep.e _ (List.mem_cons_self ..)
  have hu:=und_mapK cx.hT ht htk
  have hf:=bY K key m 0 0
  have h1:(getObj b).run cx.P w=.ok (.map ⟨cO K.enc m 0⟩ m.length) w:=Go.MapKept.run_getObj_map hb
  have h2:=run_findKey (P:=cx.P) (w:=w) hkt hf
  have hrun:(Instr.mapUpdate t (.map (some b)) (K.enc key) v).run cx.P w=.ok () { w with heap:=w.heap.setIfInBounds b (bF K.enc (mset m key v)) }:=by
   unfold Instr.mapUpdate
   simp only [Sem.run_bind,run_underlying hu,Result.andThen_ok,h1,run_checkKey hkt (K.isKey key)]
   rw [h2]
   cases hi:midx m key with
   | none =>
    obtain ⟨h3,h4⟩:=mapEs_none K (v:=v) (i:=0) hi
    simp only [Option.map_none,Result.andThen_ok]
    rw [Go.MapKept.run_setObj_map (P:=cx.P) _ hb]
    congr 2
    simp only [bF,h4,<- h3,Nat.zero_add]
    congr 2
    apply Array.ext'
    simp
   | some p =>
    obtain ⟨q,u⟩:=p
    obtain ⟨h3,h4,h5⟩:=mapEs_some K (v:=v) (i:=0) hi
    have hq:(((⟨cO K.enc m 0⟩:Array MapEntry)[0+q]?).map (·.key)).getD (K.enc key)=K.enc key:=by
     rw [Nat.zero_add]
     show (((cO K.enc m 0).toArray[q]?).map (·.key)).getD (K.enc key)=K.enc key
     rw [List.getElem?_toArray,h5];rfl
    simp only [Option.map_some,Result.andThen_ok,Sem.run_bind]
    rw [hq,run_keyThatStays (d:=kd) (K.isKey key)]
    simp only [Result.andThen_ok]
    rw [Go.MapKept.run_setObj_map (P:=cx.P) _ hb]
    congr 2
    simp only [bF,h4,<- h3,Nat.zero_add]
    congr 2
    apply Array.ext'
    simp
  have hex:(execOp a.eval o).run cx.P w=.ok .skip { w with heap:=w.heap.setIfInBounds b (bF K.enc (mset m key v)) }:=by
   have e1:execOp a.eval o=(do Instr.mapUpdate t (a.eval x) (a.eval y) (a.eval z);Pure.pure .skip:Sem Next):=by unfold execOp;rw [hop]
   rw [e1,hs _ _ hx,hs _ _ hy,hs _ _ hz]
   simp only [Sem.run_bind,hrun,Result.andThen_ok,Sem.run_pure]
  unfold Oper.wp
  rw [hex]
  have hset:=heap_set (o':=bF K.enc (mset m key v)) hb
  refine ⟨C,.obj b (bF K.enc (mset m key v))::L.eraseIdx j, ?_,Mem.le.refl _,fun h2=>by omega,St.put hw' hset.1 hset.2 (by simp) rfl rfl rfl (Nat.le_refl _),rfl,rfl⟩
  rw [hd];rfl)
  (fun C' L' _ ⟨e1,e2⟩=>by subst e1;subst e2;exact h)
end
end Go.Jog
namespace Go.Jog
open Go Go.MapKept

section
variable {cx:Cx} {n:Nat} {ds:List (Option Nat)} {R:Rg n ds} {its:List It} {fr:Fr} {C:Mem} {L:List Ent} {i k d:Nat} {o:Oper} {g:GL} {v:Value}
variable {kd:TypeDesc} {κ:Type} [DecidableEq κ] (K:KeyT kd κ)

end
end Go.Jog
namespace Go.Jog
open Go Go.MapKept

structure KeyP (P:Program)(kt:TypeId)(κ:Type)[DecidableEq κ] where
 enc:κ->Value
 check:∀ a em w,(Instr.checkKey em 10000 kt (enc a)).run P w=.ok () w
 ask:∀ x es w,(Instr.findKey kt x es).run P w=(Instr.findAsking kt x es).run P w
 same:∀ a b w,(Op.equal kt (enc a) (enc b)).run P w=.ok (decide (a=b)) w
 stays:∀ a w,(Instr.keyThatStays (enc a) (enc a)).run P w=.ok (enc a) w
section
variable {κ:Type} [DecidableEq κ] {enc:κ->Value}
end
section
variable {P:Program} {kt:TypeId} {κ:Type} [DecidableEq κ] (K:KeyP P kt κ)
end
section
variable {cx:Cx} {n:Nat} {ds:List (Option Nat)} {R:Rg n ds} {its:List It} {fr:Fr} {C:Mem} {L:List Ent} {i k d:Nat} {o:Oper} {g:GL} {v:Value}
variable {κ:Type} [DecidableEq κ]
end
end Go.Jog
namespace Go.Jog
open Go Go.MapKept

section
variable {cx:Cx} {n:Nat} {ds:List (Option Nat)} {R:Rg n ds} {its:List It} {fr:Fr} {C:Mem} {L:List Ent} {i k d:Nat} {o:Oper} {g:GL} {v:Value}
variable {κ:Type} (enc:κ->Value)

end
end Go.Jog
namespace Go.Jog
open Go Go.MapKept

section
variable {cx:Cx} {n:Nat} {ds:List (Option Nat)} {R:Rg n ds} {its:List It} {fr:Fr} {C:Mem} {L:List Ent} {i k d:Nat} {o:Oper} {g:GL} {v:Value}
variable {κ:Type} (enc:κ->Value)

end
end Go.Jog
namespace Go.Jog
open Go Go.MapKept

section
variable {cx:Cx} {n:Nat} {ds:List (Option Nat)} {R:Rg n ds} {its:List It} {fr:Fr} {C:Mem} {L:List Ent} {i k d:Nat} {o:Oper} {g:GL} {v:Value} {κ:Type} [DecidableEq κ]
end
end Go.Jog
namespace Go.Jog
open Go Go.MapKept

section
variable {κ β:Type} [DecidableEq κ]
end
theorem PtrTo.blockT {C:Mem}{b:Nat}{cs:List Value}{t:TypeId}{fz:Nat × Nat}(h:C b=some (.cells ⟨cs⟩ t fz))(off n:Nat):PtrTo C (.pointer (some ⟨b,off,none⟩)) ((cs.drop off).take n) :=
 let ⟨a,h1,h2,h3⟩:=PtrTo.block h off
 ⟨a,h1,h2,fun j v hj=>h3 j v (by
  rw [List.getElem?_take] at hj
  split at hj
  ·exact hj
  ·cases hj)⟩
theorem bkT {C D:Mem}{b:Nat}{cs:List Value}{t:TypeId}{fz:Nat × Nat}(h:C b=some (.cells ⟨cs⟩ t fz))(n:Nat){off:Nat}(hl:C.le D:=by (repeat (first | exact Mem.le.refl _ | assumption | (apply Mem.le.trans;rotate_left;assumption)))):PtrTo D (.pointer (some ⟨b,off,none⟩)) ((cs.drop off).take n):=PtrTo.blockT (Mem.get h hl) off n
section
variable {F:Fx} {k:List KI} {fr:Fr} {C:Mem} {L:List Ent}
end
end Go.Jog
namespace Go.Proofs.YtoliaheocaoncaaGreatDoor
open Go Go.Jog
set_option maxRecDepth 100000

def RowsT (C:Mem)(v:Value)(rows:List (List Str × Str)):Prop:=∃ vs:List Value,vs.length=rows.length/\(∀ (i:Nat)(w:Value)(r:List Str × Str),vs[i]?=some w->rows[i]?=some r->Sl C 1 w (r.1.map encT1))/\Sl C 2 v (List.zipWith (fun w (r:List Str × Str)=>[w,strV r.2]) vs rows)
theorem RowsT.mono {C D:Mem}{v:Value}{rows:List (List Str × Str)}(h:RowsT C v rows)(hl:C.le D):RowsT D v rows:=by
 obtain ⟨vs,h1,h2,h3⟩:=h
 exact ⟨vs,h1,fun i w r hw hr=>(h2 i w r hw hr).mono hl,h3.mono hl⟩
theorem zipT_at {vs:List Value}{rows:List (List Str × Str)}{i:Nat}{w:Value}{r:List Str × Str}(h1:vs[i]?=some w)(h2:rows[i]?=some r):(List.zipWith (fun w (r:List Str × Str)=>[w,strV r.2]) vs rows)[i]?=some [w,strV r.2]:=by
 rw [List.getElem?_zipWith,h1,h2]
theorem zipT_len {vs:List Value}{rows:List (List Str × Str)}(h:vs.length=rows.length):(List.zipWith (fun w (r:List Str × Str)=>[w,strV r.2]) vs rows).length=rows.length:=by simp [h]
def rowZ (n:Int)(r:List Str × Str):Int:=if bg n r.1≠0 then bg n r.1 else chkZ (aX r.2)
def cN (n:Int):List (List Str × Str)->Int
 | []=>0
 | r::l=>if rowZ n r≠0 then rowZ n r else cN n l
def chkP (n:Int)(rows:List (List Str × Str))(obj:List Str):Int:=if n<0∨60<n then 3 else if 300<rows.length then 4 else if bg n obj≠0 then bg n obj else cN n rows
def RowsL (rows:List (List Str × Str)):Prop:=∀ r∈rows,(∀ s∈r.1,s.length<=999998)/\r.2.length<=999998
theorem pcheck_fn (C:Mem)(hT:Tabs C)(n:Int)(rv ov:Value)(rows:List (List Str × Str))(obj:List Str)(hr:RowsT C rv rows)(ho:Sl C 1 ov (obj.map encT1))(hrl:RowsL rows)(hol:∀ s∈obj,s.length<=999998) :
  Gives cx.P 17 [.agg ⟨[.int .i64 n,rv,ov]⟩] C (.int .i64 (chkP n rows obj)):=by
 obtain ⟨vs,hvl,hvr,hvs⟩:=hr
 obtain ⟨A0,c0,rfl,hc1,hc2,_⟩:=id hvs
 obtain ⟨A1,c1,rfl,hc3,hc4,_⟩:=id ho
 have hmx:maxLen<=9223372036854775807:=by simp [maxLen]
 simp only [zipT_len hvl,List.length_map] at hvs ho hc1 hc3 ⊢
 refine Fn.it (by kernel_rfl) Tryz.func17 48 fun w0=>?_
 refine G.rg fun R hR=>?_
 refine D.box rfl rfl rfl rfl rfl rfl (fun _=>rfl) (fun b1=>?_)
 refine D.q1 1 1 hR ?_
 refine G.freeze 0 rfl (fun C1 hle1 hb1=>?_)
 refine G.rp 1 fun R hR=>?_
 refine D.af (bkT hb1 1) ?_
 refine D.ps 3 ?_
 refine D.cU rfl rfl rfl rfl rfl rfl (fun _=>PtrTo.blockT (Mem.get hb1 mup) _ 1) rfl rfl rfl ?_
 refine D.ac ?_
 refine D.ay rfl rfl rfl rfl rfl rfl rfl rfl ?_
 refine D.q2 1 1 7 hR ?_
 refine G.cd (fun h7=>?_) fun h7=>?_
 ·have hn:n<0∨60<n:=by
   simp only [Bool.or_eq_true,decide_eq_true_eq] at h7
   omega
  refine G.z1 1 2 ?_
  refine G.rf ?_
  exact ⟨by unfold chkP;rw [if_pos hn],rfl⟩
 ·have hn:¬ (n<0∨60<n):=by
   simp only [Bool.or_eq_false_iff,decide_eq_false_iff_not] at h7
   omega
  refine G.rp 1 fun R hR=>?_
  refine D.af (bkT hb1 1) ?_
  refine D.q2 3 1 16 hR ?_
  refine G.cd (fun h16=>?_) fun h16=>?_
  ·have hr3:300<rows.length:=by
    have:=of_decide_eq_true h16
    omega
   refine G.z1 1 2 ?_
   refine G.rf ?_
   exact ⟨by unfold chkP;rw [if_neg hn,if_pos hr3],rfl⟩
  ·have hr3:¬ 300<rows.length:=by
    have:=of_decide_eq_false h16
    omega
   refine G.rp 1 fun R hR=>?_
   refine D.af (bkT hb1 1) ?_
   refine D.ac ?_
   refine D.af (bkT hb1 1) ?_
   refine D.ai (plist_fn _ (hT.mono mup) _ n obj (ho.mono mup) hol) ?_
   refine D.q2 1 1 3 hR ?_
   refine G.z3 2 1 3 27 ?_
   refine G.cd (fun h27=>?_) fun h27=>?_
   ·have hz:bg n obj≠0:=by simpa using h27
    refine G.z1 2 2 ?_
    refine G.rf ?_
    exact ⟨by unfold chkP;rw [if_neg hn,if_neg hr3,if_pos hz],rfl⟩
   ·have hz:¬ bg n obj≠0:=by simpa using h27
    have hP:chkP n rows obj=cN n rows:=by unfold chkP;rw [if_neg hn,if_neg hr3,if_neg hz]
    refine G.rp 1 fun R hR=>?_
    refine D.af (bkT hb1 1) ?_
    refine D.q4 2 1 30 31 32 hR ?_
    refine G.loop (fun fr C' L' μ=>∃ (i:Nat),(i<=rows.length/\cN n rows=cN n (rows.drop i))/\fr=[(1,[],.pointer (some ⟨b1,0,none⟩)),(30,[],.slice A0 rows.length c0),(31,[],.int .i64 rows.length),(32,[],.int .i64 i)]/\L'=[]/\μ=rows.length-i) (h_4 1 30 31 32) ⟨0,⟨Nat.zero_le _,rfl⟩,rfl,rfl,rfl⟩ (fun fr C0' L0' m hle0 hI=>?_)
    obtain ⟨i,⟨hi,hrz⟩,rfl,rfl,rfl⟩:=hI
    refine G.z5 1 1 30 31 32 33 ?_
    refine G.cd (fun h33=>?_) fun h33=>?_
    ·have hil:i<rows.length:=by
      have:=of_decide_eq_true h33
      omega
     obtain ⟨r,hri⟩:∃ r,rows[i]?=some r:=⟨rows[i],List.getElem?_eq_getElem hil⟩
     obtain ⟨w,hw⟩:∃ w,vs[i]?=some w:=⟨vs[i]'(by omega),List.getElem?_eq_getElem _⟩
     have hrm:=List.mem_of_getElem? hri
     have hsw:=hvr i w r hw hri
     obtain ⟨Aw,cw,rfl,_⟩:=id hsw
     have hdr:rows.drop i=r::rows.drop (i+1):=List.drop_eq_getElem_cons hil |>.trans (by rw [(List.getElem?_eq_some_iff.1 hri).2])
     rw [hdr] at hrz
     simp only [cN] at hrz
     refine G.rg fun R hR=>?_
     refine D.ap (hvs.mono mup) rfl rfl rfl rfl rfl rfl rfl rfl rfl rfl (by omega) (zipT_at hw hri) (fun _=>rfl) (fun p34 hp34=>?_)
     refine D.af hp34 ?_
     refine D.alloc rfl rfl rfl rfl rfl (fun _=>rfl) (fun b5=>?_)
     refine D.ag (j:=0) ?_
     refine D.e5 1 5 30 31 32 hR ?_
     refine G.freeze 0 rfl (fun C5 hle5 hb5=>?_)
     refine G.rp 1 fun R hR=>?_
     refine D.af (bkT hb5 1) ?_
     refine D.ac ?_
     refine D.af (bkT hb1 1) ?_
     refine D.ai (plist_fn _ (hT.mono mup) _ n r.1 (hsw.mono mup) (hrl r hrm).1) ?_
     refine D.q6 1 1 5 6 30 31 32 hR ?_
     refine G.z7 2 1 5 6 30 31 32 42 ?_
     refine G.cd (fun h42=>?_) fun h42=>?_
     ·have hz1:bg n r.1≠0:=by simpa using h42
      have hrw:rowZ n r=bg n r.1:=by unfold rowZ;rw [if_pos hz1]
      refine G.z1 2 2 ?_
      refine G.rf ?_
      exact ⟨by rw [hP,hrz,hrw,if_pos hz1],rfl⟩
     ·have hz1:¬ bg n r.1≠0:=by simpa using h42
      have hrw:rowZ n r=chkZ (aX r.2):=by unfold rowZ;rw [if_neg hz1]
      refine G.rp 1 fun R hR=>?_
      refine D.af (bkT hb5 1) ?_
      refine D.ai (pwrong_fn _ (hT.mono mup) r.2 (hrl r hrm).2) ?_
      refine D.e5 1 30 31 32 46 hR ?_
      refine G.cd (fun h46=>?_) fun h46=>?_
      ·have hno:aX r.2=false:=by simpa using h46
       refine G.z1 1 2 ?_
       refine G.rf ?_
       exact ⟨by rw [hP,hrz,hrw,hno];rfl,rfl⟩
      ·have hyes:aX r.2=true:=by simpa using h46
       refine G.rg fun R hR=>?_
       refine D.aw _ rfl ?_
       refine D.q4 1 1 30 31 32 hR ?_
       refine G.au (m':=rows.length-(i+1)) (by omega) mup (h_4 1 30 31 32) ⟨i+1,⟨by omega,by rw [hrz,hrw,hyes];rfl⟩,rfl,rfl,rfl⟩
    ·have hil:i=rows.length:=by
      have:=of_decide_eq_false h33
      omega
     refine G.z1 1 2 ?_
     refine G.rf ?_
     exact ⟨by rw [hP,hrz,hil,List.drop_length];rfl,rfl⟩
end Go.Proofs.YtoliaheocaoncaaGreatDoor
namespace Go.Jog.Lp

def sumN (g:Nat->Rat):Nat->Rat
 | 0=>0
 | n+1=>sumN g n+g n
theorem sumN_congr {g h:Nat->Rat}:∀ {n:Nat},(∀ j,j<n->g j=h j)->sumN g n=sumN h n
 | 0,_=>rfl
 | n+1,e=>by rw [sumN,sumN,sumN_congr fun j hj=>e j (by omega),e n (by omega)]
structure Line where
 c:Rat
 f:List Rat
def Line.g (l:Line)(j:Nat):Rat:=l.f.getD j 0
structure Tab where
 basic:List Nat
 lines:List Line
 others:List Nat
 worth:Line
def Tab.line (t:Tab)(i:Nat):Line:=t.lines.getD i ⟨0,[]⟩
def lv (l:Line)(os:List Nat)(x:Nat->Rat):Rat:=l.c+sumN (fun j=>l.g j*x (os.getD j 0)) os.length
structure Tab.Ok (t:Tab)(N:Nat):Prop where
 ll:t.lines.length=t.basic.length
 fl:∀ l∈t.lines,l.f.length=t.others.length
 wl:t.worth.f.length=t.others.length
 nd:(t.basic++t.others).Nodup
 lt:∀ v∈t.basic++t.others,v<N
def Tab.W (t:Tab)(x:Nat->Rat):Rat:=lv t.worth t.others x

end Go.Jog.Lp
namespace Go.Proofs.YtoliaheocaoncaaGreatDoor
open Go Go.Jog
set_option maxRecDepth 100000

theorem pQB_mul {a b:Rat}{k m:Nat}(ha:QB k a)(hb:QB m b):QB (k+m) (a*b):=by
 rw [rat_mul_mk]
 refine mk_bound (Nat.mul_ne_zero a.den_nz b.den_nz) ?_ ?_
 ·rw [Int.natAbs_mul,Nat.pow_add];exact Nat.mul_lt_mul'' ha.1 hb.1
 ·rw [Nat.pow_add];exact Nat.mul_lt_mul'' ha.2 hb.2
theorem pQB_add {a b:Rat}{k m:Nat}(ha:QB k a)(hb:QB m b):QB (k+m+1) (a+b):=by
 rw [rat_add_mk]
 have e:B9 ^ (k+m+1)=B9 ^ k*B9 ^ m*B9:=by rw [Nat.pow_succ,Nat.pow_add]
 have p1:(a.num*b.den).natAbs<B9 ^ k*B9 ^ m:=by rw [Int.natAbs_mul,Int.natAbs_natCast];exact Nat.mul_lt_mul'' ha.1 hb.2
 have p2:(b.num*a.den).natAbs<B9 ^ k*B9 ^ m:=by rw [Int.natAbs_mul,Int.natAbs_natCast,Nat.mul_comm];exact Nat.mul_lt_mul'' ha.2 hb.1
 have p3:a.den*b.den<B9 ^ k*B9 ^ m:=Nat.mul_lt_mul'' ha.2 hb.2
 have hB:2*(B9 ^ k*B9 ^ m)<=B9 ^ k*B9 ^ m*B9:=by
  rw [Nat.mul_comm]
  exact Nat.mul_le_mul_left _ (by decide)
 refine mk_bound (Nat.mul_ne_zero a.den_nz b.den_nz) ?_ ?_
 ·rw [e];have:=Int.natAbs_add_le (a.num*b.den) (b.num*a.den);omega
 ·rw [e];omega

def facS (rs:List (List Rat × Rat))(ds:List Rat)(j n:Nat):Rat:=Lp.sumN (fun k=>ds.getD k 0*(rs.getD k ([],0)).1.getD j 0) n
def bndS (rs:List (List Rat × Rat))(ds:List Rat)(n:Nat):Rat:=Lp.sumN (fun k=>ds.getD k 0*(rs.getD k ([],0)).2) n
def rowTx (r:List Rat × Rat):List Str × Str:=(r.1.map qtx,qtx r.2)
structure RowsQ (n:Nat)(rs:List (List Rat × Rat)):Prop where
 l:∀ r∈rs,r.1.length=n
 q:∀ r∈rs,(∀ x∈r.1,QB 23 x)/\QB 23 r.2
 m:rs.length<=150
theorem getD_q {l:List Rat}{j:Nat}(h:∀ x∈l,QB 23 x):QB 23 (l.getD j 0):=by
 rw [List.getD_eq_getElem?_getD]
 cases e:l[j]? with
 | none=>exact ⟨by decide,by decide⟩
 | some x=>exact h x (List.mem_of_getElem? e)
theorem facS_qb {n:Nat}{rs:List (List Rat × Rat)}{ds:List Rat}(hr:RowsQ n rs)(hd:∀ x∈ds,QB 23 x)(j:Nat):∀ i,QB (48*(i+1)) (facS rs ds j i)
 | 0=>(show QB 1 (0:Rat) from ⟨by decide,by decide⟩).le (by omega)
 | i+1=>by
  have h1:=facS_qb hr hd j i
  have h2:QB 23 ((rs.getD i ([],0)).1.getD j 0):=by
   refine getD_q fun x hx=>?_
   rw [List.getD_eq_getElem?_getD] at hx
   cases e:rs[i]? with
   | none=>rw [e] at hx;simp at hx
   | some r=>rw [e] at hx;exact (hr.q r (List.mem_of_getElem? e)).1 x hx
  exact (pQB_add h1 (pQB_mul (getD_q (j:=i) hd) h2)).le (by omega)
theorem bndS_qb {n:Nat}{rs:List (List Rat × Rat)}{ds:List Rat}(hr:RowsQ n rs)(hd:∀ x∈ds,QB 23 x):∀ i,QB (48*(i+1)) (bndS rs ds i)
 | 0=>(show QB 1 (0:Rat) from ⟨by decide,by decide⟩).le (by omega)
 | i+1=>by
  have h1:=bndS_qb hr hd i
  have h2:QB 23 (rs.getD i ([],0)).2:=by
   rw [List.getD_eq_getElem?_getD]
   cases e:rs[i]? with
   | none=>exact ⟨by decide,by decide⟩
   | some r=>exact (hr.q r (List.mem_of_getElem? e)).2
  exact (pQB_add h1 (pQB_mul (getD_q (j:=i) hd) h2)).le (by omega)
def sumE (m:Nat)(d:List Str)(ds:List Rat):Int:=if bg m d≠0 then bg m d else if ds.any (fun q=>decide (q<0)) then 3 else 0
theorem psgn_neg (q:Rat):decide (sgnZ q.num<0)=decide (q<0):=by
 have h:q.num<0 ↔ q<0:=by rw [Rat.lt_iff];simp
 rw [decide_eq_decide]
 unfold sgnZ
 by_cases h1:q.num<0
 ·rw [if_pos h1];exact ⟨fun _=>h.1 h1,fun _=>by decide⟩
 ·rw [if_neg h1]
  exact ⟨fun h2=>by split at h2 <;> exact absurd h2 (by decide),fun h2=>absurd (h.2 h2) h1⟩
theorem pneg_fn (C:Mem)(q:Rat)(hl:(qtx q).length<=1000000):Gives cx.P 39 [strV (qtx q)] C (.bool (decide (q<0))):=by
 refine Fn.it (by kernel_rfl) Tryz.func39 6 fun w0=>?_
 refine G.z1 1 0 ?_
 refine G.rp 1 fun R hR=>?_
 refine D.ai (rsign_fn _ q hl) ?_
 refine D.q1 2 2 hR ?_
 refine G.rf ?_
 exact ⟨by rw [<- psgn_neg],rfl⟩
theorem qtx23 {q:Rat}(h:QB 23 q):(qtx q).length<=1000000:=Nat.le_trans (qtx_len h (by decide)) (by decide)
open Classical in
theorem anyNeg_fn (C:Mem)(v:Value)(ds:List Rat)(hv:Sl C 1 v (ds.map encR))(hd:∀ x∈ds,QB 23 x) :
  Gives cx.P 20 [v,.func (.func 39) #[] #[]] C (.bool (ds.any fun q=>decide (q<0))):=by
 have h:=pany_fn C v (ds.map qtx) 39 [] (fun s=>decide (∃ q:Rat,s=qtx q/\q<0)) (by rw [<- encR_T];exact hv) rfl (fun s hs D hD=>by
  obtain ⟨q,hq,rfl⟩:=List.mem_map.1 hs
  have e:decide (∃ p:Rat,qtx q=qtx p/\p<0)=decide (q<0):=by
   rw [decide_eq_decide]
   exact ⟨fun ⟨p,h1,h2⟩=>by rw [qtx_eq h1];exact h2,fun h2=>⟨q,rfl,h2⟩⟩
  rw [e]
  exact pneg_fn D q (qtx23 (hd q hq)))
 have e:(ds.map qtx).any (fun s=>decide (∃ q:Rat,s=qtx q/\q<0))=ds.any fun q=>decide (q<0):=by
  rw [List.any_map]
  congr 1
  funext q
  show decide (∃ p:Rat,qtx q=qtx p/\p<0)=decide (q<0)
  rw [decide_eq_decide]
  exact ⟨fun ⟨p,h1,h2⟩=>by rw [qtx_eq h1];exact h2,fun h2=>⟨q,rfl,h2⟩⟩
 rw [e] at h
 exact h
def midF (n:Nat)(rs:List (List Rat × Rat))(ds:List Rat)(i j:Nat):List Rat:=(List.range n).map fun j2=>if j2<j then facS rs ds j2 (i+1) else facS rs ds j2 i
theorem cJ (b:Bool):chkZ b=0/\b=true∨chkZ b=2/\b=false:=by cases b <;> simp [chkZ]
theorem bX (n:Nat)(rs:List (List Rat × Rat))(ds:List Rat)(i j:Nat):(midF n rs ds i j).length=n:=by simp [midF]
theorem midF_at {n i j j2:Nat}{rs:List (List Rat × Rat)}{ds:List Rat}(h:j2<n):(midF n rs ds i j)[j2]?=some (if j2<j then facS rs ds j2 (i+1) else facS rs ds j2 i):=by
 unfold midF
 rw [List.getElem?_map,List.getElem?_range h];rfl
theorem midF_set {n i j:Nat}{rs:List (List Rat × Rat)}{ds:List Rat}(h:j<n):(midF n rs ds i j).set j (facS rs ds j (i+1))=midF n rs ds i (j+1):=by
 refine List.ext_getElem? fun k=>?_
 rw [List.getElem?_set,bX]
 by_cases hk:k<n
 ·rw [midF_at hk,midF_at hk]
  by_cases e:j=k
  ·subst e
   rw [if_pos rfl,if_pos hk,if_pos (by omega)]
  ·rw [if_neg e]
   by_cases h1:k<j
   ·rw [if_pos h1,if_pos (by omega)]
   ·rw [if_neg h1,if_neg (by omega)]
 ·rw [List.getElem?_eq_none (by rw [bX];omega),List.getElem?_eq_none (by rw [bX];omega)]
  split
  ·exact absurd (by omega) hk
  ·rfl
theorem midF_full (n:Nat)(rs:List (List Rat × Rat))(ds:List Rat)(i:Nat):midF n rs ds i n=midF n rs ds (i+1) 0:=by
 refine List.ext_getElem? fun k=>?_
 by_cases hk:k<n
 ·rw [midF_at hk,midF_at hk,if_pos hk,if_neg (by omega)]
 ·rw [List.getElem?_eq_none (by rw [bX];omega),List.getElem?_eq_none (by rw [bX];omega)]
theorem midF_nil (n:Nat)(rs:List (List Rat × Rat))(ds:List Rat):List.replicate n (strV [48])=((midF n rs ds 0 0).map encR).flatten:=by
 have e:midF n rs ds 0 0=List.replicate n 0:=by
  refine List.ext_getElem? fun k=>?_
  by_cases hk:k<n
  ·rw [midF_at hk,List.getElem?_replicate,if_pos hk,if_neg (by omega)];rfl
  ·rw [List.getElem?_eq_none (by rw [bX];omega),List.getElem?_replicate,if_neg hk]
 rw [e,List.map_replicate,show encR 0=[strV [48]] by unfold encR;rw [qtx_zero]]
 clear e
 induction n with
 | zero=>rfl
 | succ n ih=>rw [List.replicate_succ,List.replicate_succ,List.flatten_cons,<- ih];rfl
theorem encR_len:∀ q:Rat,(encR q).length=1:=fun _=>rfl
theorem psums_fn (C:Mem)(hT:Tabs C)(n:Nat)(rv ov dv:Value)(rs:List (List Rat × Rat))(d:List Str)(ds:List Rat)(hr:RowsT C rv (rs.map rowTx))(hq:RowsQ n rs)(hn:n<=1000)(hd:Sl C 1 dv (d.map encT1))(hdl:∀ s∈d,s.length<=999998)
  (hds:d.all aX=true->d=ds.map qtx/\∀ x∈ds,QB 23 x) :
  Pur cx.P 18 [.agg ⟨[.int .i64 n,rv,ov]⟩,.agg ⟨[dv]⟩] C fun u D=>∃ fv bs,u=.tuple #[fv,strV bs,.int .i64 (sumE rs.length d ds)]/\(sumE rs.length d ds=0->Sl D 1 fv ((midF n rs ds rs.length 0).map encR)/\bs=qtx (bndS rs ds rs.length)):=by
 obtain ⟨vs,hvl,hvr,hvs⟩:=hr
 obtain ⟨A0,c0,rfl,hc1,hc2,_⟩:=id hvs
 obtain ⟨A1,c1,rfl,hc3,hc4,_⟩:=id hd
 have hmx:maxLen<=9223372036854775807:=by simp [maxLen]
 have hqm:=hq.m
 simp only [zipT_len hvl,List.length_map] at hvs hd hc1 hc3 hvl ⊢
 refine Fn.it (by kernel_rfl) Tryz.func18 72 fun w0=>?_
 refine G.rg fun R hR=>?_
 refine D.box rfl rfl rfl rfl rfl rfl (fun _=>rfl) (fun b2=>?_)
 refine D.box rfl rfl rfl rfl rfl rfl (fun _=>rfl) (fun b3=>?_)
 refine D.q2 3 2 3 hR ?_
 refine G.freeze 1 rfl (fun C1 hle1 hb1=>?_)
 refine G.freeze 0 rfl (fun C2 hle2 hb2=>?_)
 refine G.rp 1 fun R hR=>?_
 refine D.af (bkT hb2 1) ?_
 refine D.ac ?_
 refine D.af (bkT hb1 1) ?_
 refine D.ac ?_
 refine D.ai (plist_fn _ (hT.mono mup) _ (rs.length:Nat) d (hd.mono mup) hdl) ?_
 refine D.q3 1 2 3 7 hR ?_
 refine G.z4 2 2 3 7 19 ?_
 refine G.cd (fun h19=>?_) fun h19=>?_
 ·have hz:bg (rs.length:Nat) d≠0:=by simpa using h19
  have hE:sumE rs.length d ds=bg (rs.length:Nat) d:=by unfold sumE;rw [if_pos hz]
  refine G.z3 4 4 5 6 ?_
  refine G.aB (G.dropAll (G.cZ rfl rfl rfl rfl ?_))
  exact ⟨rfl,.slice none 0 0,[],by rw [hE];rfl,fun h=>absurd (hE.symm.trans h) hz⟩
 ·have hz:¬ bg (rs.length:Nat) d≠0:=by simpa using h19
  have hz0:bg (rs.length:Nat) d=0:=by simpa using hz
  have hdl2:d.length=rs.length:=by
   unfold bg at hz0
   split at hz0
   ·omega
   ·cases hz0
  have hall:d.all aX=true:=by
   unfold bg at hz0
   rw [if_pos (by omega)] at hz0
   rcases cJ (d.all aX) with ⟨h1,h2⟩ | ⟨h1,h2⟩
   ·exact h2
   ·rw [h1] at hz0;cases hz0
  obtain ⟨hdd,hdq⟩:=hds hall
  have hsl:ds.length=rs.length:=by rw [<- hdl2,hdd,List.length_map]
  have hd2:Sl C 1 (.slice A1 rs.length c1) (ds.map encR):=by rw [encR_T,<- hdd,<- hdl2];exact hd
  rw [hdl2] at hb2
  refine G.rp 1 fun R hR=>?_
  refine D.af (bkT hb2 1) ?_
  refine D.ai (anyNeg_fn _ _ ds (hd2.mono mup) hdq) ?_
  refine D.e3 2 3 23 hR ?_
  refine G.cd (fun h23=>?_) fun h23=>?_
  ·have hE:sumE rs.length d ds=3:=by unfold sumE;rw [if_neg hz,if_pos h23]
   refine G.z3 3 4 5 6 ?_
   refine G.aB (G.dropAll (G.cZ rfl rfl rfl rfl ?_))
   exact ⟨rfl,.slice none 0 0,[],by rw [hE];rfl,fun h=>absurd (hE.symm.trans h) (by decide)⟩
  ·have hE:sumE rs.length d ds=0:=by unfold sumE;rw [if_neg hz,if_neg (by rw [h23];decide)]
   refine G.aH [(2,3)] rfl (fun R hR=>?_)
   refine D.ac ?_
   refine D.af (bkT hb1 1) ?_
   refine D.call (pzeros_fn _ n (by omega)) rfl (.inr (by decide)) rfl rfl rfl rfl rfl rfl (List.Perm.refl _) (fun _=>rfl) (fun v26 C26 L26 hle26 hq26=>?_)
   obtain ⟨bz,rfl,rfl⟩:=hq26
   refine D.q4 2 2 3 4 5 hR ?_
   refine G.rp 1 fun R hR=>?_
   refine D.af (bkT hb2 1) ?_
   refine D.q6 2 2 4 5 28 29 30 hR ?_
   refine G.aJ (L':=[.arr (.slice (some ⟨bz,0,none⟩) n n) 25 1 n ((midF n rs ds 0 0).map encR).flatten]) (by rw [midF_nil n rs ds];rfl) ?_
   refine G.loop (fun fr C' L' μ=>∃ (i:Nat)(bt:Str),(i<=rs.length/\bt=qtx (bndS rs ds i))/\fr=[(2,[],.pointer (some ⟨b2,0,none⟩)),(4,[],.slice (some ⟨bz,0,none⟩) n n),(5,[],strV bt),(28,[],.slice A1 rs.length c1),(29,[],.int .i64 rs.length),(30,[],.int .i64 i)]/\L'=[.arr (.slice (some ⟨bz,0,none⟩) n n) 25 1 n ((midF n rs ds i 0).map encR).flatten]/\μ=rs.length-i) (h_6 2 4 5 28 29 30) ⟨0,[48],⟨Nat.zero_le _,qtx_zero.symm⟩,rfl,rfl,rfl⟩ (fun fr C0' L0' m hle0 hI=>?_)
   obtain ⟨i,bt,⟨hi,hbt⟩,rfl,rfl,rfl⟩:=hI
   refine G.z7 1 2 4 5 28 29 30 31 ?_
   refine G.cd (fun h31=>?_) fun h31=>?_
   ·subst hbt
    have hil:i<rs.length:=by
     have:=of_decide_eq_true h31
     omega
    obtain ⟨r,hri⟩:∃ r,rs[i]?=some r:=⟨rs[i],List.getElem?_eq_getElem hil⟩
    have hrt:(rs.map rowTx)[i]?=some (rowTx r):=by rw [List.getElem?_map,hri];rfl
    obtain ⟨w,hw⟩:∃ w,vs[i]?=some w:=⟨vs[i]'(by omega),List.getElem?_eq_getElem _⟩
    obtain ⟨k,hk⟩:∃ k,ds[i]?=some k:=⟨ds[i]'(by omega),List.getElem?_eq_getElem (by omega)⟩
    have hrm:=List.mem_of_getElem? hri
    have hsw:=hvr i w _ hw hrt
    have hsw2:Sl C 1 w (r.1.map encR):=by rw [encR_T];exact hsw
    obtain ⟨Aw,cw,rfl,_⟩:=id hsw2
    have hrl:=hq.l r hrm
    rw [List.length_map,hrl] at hsw2 hw
    have hkb:QB 23 k:=hdq k (List.mem_of_getElem? hk)
    have hgk:ds.getD i 0=k:=by rw [List.getD_eq_getElem?_getD,hk];rfl
    have hgr:rs.getD i ([],0)=r:=by rw [List.getD_eq_getElem?_getD,hri];rfl
    have hbq:=bndS_qb hq hdq i
    have hbs:bndS rs ds (i+1)=bndS rs ds i+k*r.2:=by
     unfold bndS
     simp only [Lp.sumN]
     rw [hgk,hgr]
    refine G.rp 1 fun R hR=>?_
    refine D.ap (hd2.mono mup) rfl rfl rfl rfl rfl rfl rfl rfl rfl rfl (by omega) (prow_at hk) (fun _=>rfl) (fun p33 hp33=>?_)
    refine D.af hp33 ?_
    refine D.q8 2 2 4 5 8 9 28 29 30 hR ?_
    refine G.rp 3 fun R hR=>?_
    refine D.af (bkT hb1 1) ?_
    refine D.ac ?_
    refine D.ap (hvs.mono mup) rfl rfl rfl rfl rfl rfl rfl rfl rfl rfl (by omega) (zipT_at hw hrt) (fun _=>rfl) (fun p40 hp40=>?_)
    refine D.da hp40 rfl rfl rfl rfl rfl rfl rfl rfl rfl rfl (fun _=>rfl) (fun p41 hp41=>?_)
    refine D.af hp41 ?_
    refine D.aq (rmul_fn _ (hT.mono mup) k r.2 23 (by decide) (by decide) hkb (hq.q r hrm).2) rfl rfl rfl rfl rfl rfl rfl (fun _=>rfl) ?_
    refine D.aq (radd_fn _ (hT.mono mup) (bndS rs ds i) (k*r.2) (48*(i+1)) (by omega) (by omega) hbq ((pQB_mul hkb (hq.q r hrm).2).le (by omega))) rfl rfl rfl rfl rfl rfl rfl (fun _=>rfl) ?_
    refine D.q8 1 2 4 5 8 9 28 29 30 hR ?_
    rw [<- hbs]
    refine G.rp 1 fun R hR=>?_
    refine D.af (bkT hb1 1) ?_
    refine D.ac ?_
    refine D.ap (hvs.mono mup) rfl rfl rfl rfl rfl rfl rfl rfl rfl rfl (by omega) (zipT_at hw hrt) (fun _=>rfl) (fun p48 hp48=>?_)
    refine D.da hp48 rfl rfl rfl rfl rfl rfl rfl rfl rfl rfl (fun _=>rfl) (fun p49 hp49=>?_)
    refine D.af hp49 ?_
    refine D.q10 2 2 4 5 9 28 29 30 50 51 52 hR ?_
    refine G.loop (fun fr C' L' μ=>∃ (j:Nat),(j<=n)/\fr=[(2,[],.pointer (some ⟨b2,0,none⟩)),(4,[],.slice (some ⟨bz,0,none⟩) n n),(5,[],strV (qtx (bndS rs ds (i+1)))),(9,[],strV (qtx k)),(28,[],.slice A1 rs.length c1),(29,[],.int .i64 rs.length),(30,[],.int .i64 i),(50,[],.slice Aw n cw),(51,[],.int .i64 n),(52,[],.int .i64 j)]/\L'=[.arr (.slice (some ⟨bz,0,none⟩) n n) 25 1 n ((midF n rs ds i j).map encR).flatten]/\μ=n-j) (h_10 2 4 5 9 28 29 30 50 51 52) ⟨0,Nat.zero_le _,rfl,rfl,rfl⟩ (fun fr C1' L1' m hle1 hI=>?_)
    obtain ⟨j,hj,rfl,rfl,rfl⟩:=hI
    refine G.z11 1 2 4 5 9 28 29 30 50 51 52 53 ?_
    refine G.cd (fun h53=>?_) fun h53=>?_
    ·have hjl:j<n:=by
      have:=of_decide_eq_true h53
      omega
     obtain ⟨x,hx⟩:∃ x,r.1[j]?=some x:=⟨r.1[j]'(by omega),List.getElem?_eq_getElem (by omega)⟩
     have hxb:QB 23 x:=(hq.q r hrm).1 x (List.mem_of_getElem? hx)
     have hgx:r.1.getD j 0=x:=by rw [List.getD_eq_getElem?_getD,hx];rfl
     have hfb:=facS_qb hq hdq j i
     have hfs:facS rs ds j (i+1)=facS rs ds j i+k*x:=by
      unfold facS
      simp only [Lp.sumN]
      rw [hgk,hgr,hgx]
     have hget:(midF n rs ds i j)[j]?=some (facS rs ds j i):=by rw [midF_at hjl,if_neg (by omega)]
     refine G.rp 1 fun R hR=>?_
     refine D.ap (hsw2.mono mup) rfl rfl rfl rfl rfl rfl rfl rfl rfl rfl (by omega) (prow_at hx) (fun _=>rfl) (fun p55 hp55=>?_)
     refine D.af hp55 ?_
     refine D.q12 2 2 4 5 9 10 11 28 29 30 50 51 52 hR ?_
     refine G.aR [0,1,2,3,4,5,6,7,8,9,10,11] [(8,1),(9,1)] rfl (by kernel_rfl) (fun R hB hR=>?_)
     refine D.ps 4 ?_
     refine D.aZ (j*1) rfl rfl rfl rfl rfl rfl rfl rfl rfl rfl (fun _=>⟨by omega,by omega,rfl⟩) rfl rfl ?_
     refine D.cK (.head _) rfl rfl rfl rfl rfl rfl (fun _=>(by rw [row_read encR_len hget];rfl)) rfl rfl ?_
     refine D.ps 2 ?_
     refine D.aP (fun _=>(rmul_fn _ (hT.mono mup) k x 23 (by decide) (by decide) hkb hxb)) rfl rfl rfl rfl rfl rfl rfl rfl rfl ?_
     refine D.aP (fun _=>(radd_fn _ (hT.mono mup) (facS rs ds j i) (k*x) (48*(i+1)) (by omega) (by omega) hfb ((pQB_mul hkb hxb).le (by omega)))) rfl rfl rfl rfl rfl rfl rfl rfl rfl ?_
     refine D.aZ (j*1) rfl rfl rfl rfl rfl rfl rfl rfl rfl rfl (fun _=>⟨by omega,by omega,rfl⟩) rfl rfl ?_
     refine D.aY (j:=0) rfl rfl rfl rfl rfl rfl rfl rfl rfl rfl rfl (by show j*1+1<=_;rw [br encR_len,bX];omega) ?_
     refine D.e10 2 4 5 9 28 29 30 50 51 52 hR ?_
     refine G.rg fun R hR=>?_
     refine D.aw _ rfl ?_
     refine D.q10 1 2 4 5 9 28 29 30 50 51 52 hR ?_
     refine G.aJ (L':=[.arr (.slice (some ⟨bz,0,none⟩) n n) 25 1 n ((midF n rs ds i (j+1)).map encR).flatten]) (by rw [<- midF_set hjl,hfs,<- bj encR_len _ (by rw [bX];exact hjl)];rfl) ?_
     refine G.au (m':=n-(j+1)) (by omega) mup (h_10 2 4 5 9 28 29 30 50 51 52) ⟨j+1,(by omega),rfl,rfl,rfl⟩
    ·have hjl:j=n:=by
      have:=of_decide_eq_false h53
      omega
     refine G.rg fun R hR=>?_
     refine D.aw _ rfl ?_
     refine D.q6 1 2 4 5 28 29 30 hR ?_
     rw [hjl,midF_full]
     refine G.au (m':=rs.length-(i+1)) (by omega) mup (h_6 2 4 5 28 29 30) ⟨i+1,_,⟨by omega,rfl⟩,rfl,rfl,rfl⟩
   ·subst hbt
    have hil:i=rs.length:=by
     have:=of_decide_eq_false h31
     omega
    subst hil
    refine G.z3 5 4 5 6 ?_
    refine G.freezeArr 0 ((midF n rs ds rs.length 0).map encR) rfl rfl (by intro r hr;obtain ⟨y,_,rfl⟩:=List.mem_map.1 hr;rfl) (by rw [List.length_map,bX]) (fun Cg hg hsl3=>?_)
    refine G.aB (G.dropAll (G.cZ rfl rfl rfl rfl ?_))
    exact ⟨rfl,_,_,by rw [hE],fun _=>⟨hsl3,rfl⟩⟩

theorem pnz_fn (C:Mem)(q:Rat):Gives cx.P 21 [strV (qtx q)] C (.bool (!decide (q=0))):=by
 refine Fn.it (by kernel_rfl) Tryz.func21 5 fun w0=>?_
 refine G.z1 1 0 ?_
 refine G.z1 3 2 ?_
 refine G.rf ?_
 exact ⟨by rw [<- qtxEq0],rfl⟩
open Classical in
theorem anyNz_fn (C:Mem)(v:Value)(ds:List Rat)(hv:Sl C 1 v (ds.map encR)) :
  Gives cx.P 20 [v,.func (.func 21) #[] #[]] C (.bool (ds.any fun q=>!decide (q=0))):=by
 have e1:∀ q:Rat,decide (∃ p:Rat,qtx q=qtx p/\¬ p=0)=!decide (q=0):=fun q=>by
  rw [<- decide_not,decide_eq_decide]
  exact ⟨fun ⟨p,h1,h2⟩=>by rw [qtx_eq h1];exact h2,fun h2=>⟨q,rfl,h2⟩⟩
 have h:=pany_fn C v (ds.map qtx) 21 [] (fun s=>decide (∃ q:Rat,s=qtx q/\¬ q=0)) (by rw [<- encR_T];exact hv) rfl (fun s hs D hD=>by
  obtain ⟨q,hq,rfl⟩:=List.mem_map.1 hs
  rw [e1]
  exact pnz_fn D q)
 have e:(ds.map qtx).any (fun s=>decide (∃ q:Rat,s=qtx q/\¬ q=0))=ds.any fun q=>!decide (q=0):=by
  rw [List.any_map]
  congr 1
  funext q
  exact e1 q
 rw [e] at h
 exact h
theorem psgn_ge (q:Rat):decide (sgnZ q.num ≥ 0)=decide (0<=q):=by
 have h:=psgn_neg q
 have h2:decide (0<=q)=!decide (q<0):=by
  rw [<- decide_not,decide_eq_decide]
  grind
 rw [h2,<- h,<- decide_not,decide_eq_decide]
 omega
def refP (n:Nat)(rows:List (List Str × Str))(obj d:List Str)(rs:List (List Rat × Rat))(ds:List Rat):Int :=
 if chkP n rows obj≠0 then chkP n rows obj else if sumE rs.length d ds≠0 then sumE rs.length d ds else if 0<=bndS rs ds rs.length∨(midF n rs ds rs.length 0).any (fun q=>!decide (q=0))=true then 23 else 0
theorem prefutes_fn (C:Mem)(hT:Tabs C)(n:Nat)(rv ov dv:Value)(rows:List (List Str × Str))(obj d:List Str)(rs:List (List Rat × Rat))(ds:List Rat)(hr:RowsT C rv rows)(ho:Sl C 1 ov (obj.map encT1))(hrl:RowsL rows)(hol:∀ s∈obj,s.length<=999998)
  (hd:Sl C 1 dv (d.map encT1)) (hdl:∀ s∈d,s.length<=999998) (hrs:chkP n rows obj=0->rows=rs.map rowTx/\RowsQ n rs) (hds:d.all aX=true->d=ds.map qtx/\∀ x∈ds,QB 23 x) :
  Gives cx.P 6 [.agg ⟨[.int .i64 n,rv,ov]⟩,.agg ⟨[dv]⟩] C (.int .i64 (refP n rows obj d rs ds)):=by
 have hr0:=hr
 have ho0:=ho
 have hd0:=hd
 obtain ⟨vs,hvl,hvr,hvs⟩:=hr
 obtain ⟨A0,c0,rfl,hc1,hc2,_⟩:=id hvs
 obtain ⟨A1,c1,rfl,hc3,hc4,_⟩:=id ho
 obtain ⟨A2,c2,rfl,hc5,hc6,_⟩:=id hd
 refine Fn.it (by kernel_rfl) Tryz.func6 33 fun w0=>?_
 refine G.rg fun R hR=>?_
 refine D.box rfl rfl rfl rfl rfl rfl (fun _=>rfl) (fun b2=>?_)
 refine D.box rfl rfl rfl rfl rfl rfl (fun _=>rfl) (fun b3=>?_)
 refine D.q2 1 2 3 hR ?_
 refine G.freeze 1 rfl (fun C1 hle1 hb1=>?_)
 refine G.freeze 0 rfl (fun C2 hle2 hb2=>?_)
 refine G.rg fun R hR=>?_
 refine D.af (bkT hb1 3) ?_
 refine D.ai (pcheck_fn _ (hT.mono mup) (n:Nat) _ _ rows obj (hr0.mono mup) (ho0.mono mup) hrl hol) ?_
 refine D.q3 1 2 3 5 hR ?_
 refine G.z4 2 2 3 5 12 ?_
 refine G.cd (fun h12=>?_) fun h12=>?_
 ·have hz:chkP n rows obj≠0:=by simpa using h12
  refine G.z1 2 4 ?_
  refine G.rf ?_
  exact ⟨by unfold refP;rw [if_pos hz],rfl⟩
 ·have hz:¬ chkP n rows obj≠0:=by simpa using h12
  have hz0:chkP n rows obj=0:=by simpa using hz
  obtain ⟨hre,hq⟩:=hrs hz0
  have hn60:n<=60:=by
   unfold chkP at hz0
   split at hz0
   ·cases hz0
   ·omega
  refine G.rg fun R hR=>?_
  refine D.af (bkT hb1 3) ?_
  refine D.af (bkT hb2 1) ?_
  refine D.am (psums_fn _ (hT.mono mup) n _ _ _ rs d ds (by rw [<- hre];exact hr0.mono mup) hq (by omega) (hd0.mono mup) hdl hds) rfl rfl rfl rfl rfl rfl rfl (fun _=>rfl) (fun v17 C17 hle17 hq17=>?_)
  obtain ⟨fv,bt,rfl,hfb⟩:=hq17
  refine D.q3 7 6 7 8 hR ?_
  refine G.z4 3 6 7 8 21 ?_
  refine G.cd (fun h21=>?_) fun h21=>?_
  ·have hs:sumE rs.length d ds≠0:=by simpa using h21
   refine G.z1 2 4 ?_
   refine G.rf ?_
   exact ⟨by unfold refP;rw [if_neg hz,if_pos hs],rfl⟩
  ·have hs:¬ sumE rs.length d ds≠0:=by simpa using h21
   have hs0:sumE rs.length d ds=0:=by simpa using hs
   obtain ⟨hfv,hbt⟩:=hfb hs0
   subst hbt
   have hall:d.all aX=true:=by
    unfold sumE at hs0
    split at hs0
    ·rename_i h1
     exact absurd hs0 h1
    ·rename_i h1
     have h2:bg (rs.length:Nat) d=0:=by simpa using h1
     unfold bg at h2
     split at h2
     ·rcases cJ (d.all aX) with ⟨_,h4⟩ | ⟨h3,_⟩
      ·exact h4
      ·rw [h3] at h2;cases h2
     ·cases h2
   have hbq:=bndS_qb hq (hds hall).2 rs.length
   have hqm:=hq.m
   refine G.rp 1 fun R hR=>?_
   refine D.aq (rsign_fn _ (bndS rs ds rs.length) (Nat.le_trans (qtx_len hbq (by omega)) (by omega))) rfl rfl rfl rfl rfl rfl rfl (fun _=>rfl) ?_
   refine D.ps 3 ?_
   refine D.aP (fun _=>(anyNz_fn _ _ _ (hfv.mono mup))) rfl rfl rfl rfl rfl rfl rfl rfl rfl ?_
   refine D.ay rfl rfl rfl rfl rfl rfl rfl rfl ?_
   refine D.q1 1 25 hR ?_
   refine G.cd (fun h25=>?_) fun h25=>?_
   ·have hc:0<=bndS rs ds rs.length∨(midF n rs ds rs.length 0).any (fun q=>!decide (q=0))=true:=by
     rw [Bool.or_eq_true,psgn_ge,decide_eq_true_eq] at h25
     exact h25
    refine G.z1 1 4 ?_
    refine G.rf ?_
    exact ⟨by unfold refP;rw [if_neg hz,if_neg hs,if_pos hc],rfl⟩
   ·have hc:¬ (0<=bndS rs ds rs.length∨(midF n rs ds rs.length 0).any (fun q=>!decide (q=0))=true):=by
     rw [Bool.or_eq_false_iff,psgn_ge,decide_eq_false_iff_not] at h25
     rintro (h1 | h1)
     ·exact h25.1 h1
     ·rw [h25.2] at h1;cases h1
    refine G.z1 1 4 ?_
    refine G.rf ?_
    exact ⟨by unfold refP;rw [if_neg hz,if_neg hs,if_neg hc],rfl⟩
end Go.Proofs.YtoliaheocaoncaaGreatDoor
